/- Contracts of the program's functions, part 4. No conditions of its own. -/
import Derived.Test.YtfnpcdbnoggloaaGreatDoorL3
import Derived.Test.YtfnpcdbnoggloaaGreatDoorShelf
import Derived.BigQuiet
import Derived.Sort.Grow
import Derived.Test.YtfnpcdbnoggloaaGreatDoorCards
import Derived.LaidByTextLater
import Derived.SevenTiedAt
import Derived.LaidSub
import Derived.LaidOnce
import Derived.ProofKit
import Derived.OpenShut
import Derived.Deep.DeepHandedRow
import Derived.Lib.LaidTab
import Derived.Lib.LaidU8
import Derived.Stop.LaidErr
import Derived.Lib.Builder
import Derived.Lib.FrozenHead
import Derived.Lib.UnsafeStr
import Derived.Laws.Externs
import Derived.WalkKit
set_option linter.unnecessarySimpa false
set_option linter.unusedSimpArgs false
set_option linter.unusedVariables false
set_option maxRecDepth 100000
set_option maxHeartbeats 16000000
namespace Go.bR.ck
open Go Go.Proofs
variable{B:World}
structure db (B:World):Prop where
 adG:Lib.Utf8Tabs 1 2 B
 TL:∃m,B.cell? ⟨0,0,none⟩=some (.int .i64 m)
 arq : Lib.TabIs Tryz.prog B "internal/strconv.uint64pow10" .u64 Lib.pow10Tab
variable{w:World}{v:Value}
theorem EZ(I:pK B w){a:Addr}(h:B.cell? a=some v):w.cell? a=some v:=by(have bf:a.block<B.heap.size:=by simp only[World.cell?]at h;rcases at3 a.block B.heap.size with h1|h1;exact h1;rw[awU h1]at h;cases h);rw[<-h];simp only[World.cell?,I.block _ bf]
theorem adH(I:pK B w)(h:Lib.Utf8Tabs 1 2 B):Lib.Utf8Tabs 1 2 w :=
 ⟨λc hc=>EZ I (h.1 c hc),λi hi=>⟨EZ I (h.2 i hi).1,EZ I (h.2 i hi).2⟩⟩
variable{f:FuncId}
theorem jn{fn:Func}(h : Tryz.prog.funcs[f]?=some fn)(I : fn.body.isSome = true)(aw : (fn.name == "runtime.NumGoroutine") = false): Bc Tryz.prog f := ⟨fn,h,I,aw⟩
def dT(s:atG):Nat×Nat:=Lib.decodeGo ⟨⟨s⟩⟩
theorem adI(a1:db B)(s:atG):aU B 261 [.O s] (.bp [.int .i32 (dT s).1,u (dT s).2]) :=
 .zK (jn Tryz.func261 rfl atA) rfl λw I=>(Tryz.utf8_DecodeRuneInString ⟨⟨s⟩⟩ w (adH I a1.adG)).mono λe w' ⟨ao,cz⟩ =>
  ⟨_,ao,λC=>.bp _ _ rfl λi d v N X=>by
   match i with
   |0=>cases N;cases X;exact .int _ _
   |1=>cases N;cases X;exact .int _ _
   |i+2=>simp at N,cz⟩
theorem TM(a b:atG):aU B 249 [.O a,.O b] (u (Lib.compareBytes a b)) :=
 .pure (jn Tryz.func249 rfl atA) rfl rfl λw _=>Tryz.strings_Compare ⟨⟨a⟩⟩ ⟨⟨b⟩⟩ w
theorem TN(s:atG)(c:UInt8):aU B 259 [.O s,.O [c]] (.bool (decide (0<=Lib.indexByte s c))) :=
 .pure (jn Tryz.func259 rfl atA) rfl rfl λw _=>Tryz.strings_Contains_one ⟨⟨s⟩⟩ c w
theorem adJ(s p:atG):aU B 260 [.O s,.O p] (.O (Lib.trimPrefix s p)) :=
 .pure (jn Tryz.func260 rfl atA) rfl rfl λw _=>Tryz.strings_TrimPrefix ⟨⟨s⟩⟩ ⟨⟨p⟩⟩ w
theorem TO(s:atG)(c:Int)(hs:s.length<4611686018427387904):aU B 24 [.O s,.int .u8 c] (u (Lib.lastIndexByte ⟨⟨s⟩⟩ c)) :=
 .pure (jn Tryz.func24 rfl atA) rfl rfl λw _=>Tryz.strings_LastIndexByte ⟨⟨s⟩⟩ c hs w
def em(r:Int):Bool:=decide (32<=r)&&(decide (r<=65533)&&(decide (r<55296)||decide (57343<r)))
theorem adK(r:Int):aU B 302 [u r] (.bool (em r)):=by refine bA Tryz.func302 Tryz.ntmps302 λU=>?_;exact axv
theorem adL(r:Int):aU B 355 [u r] (.bool (em r)):=by refine bA Tryz.func355 Tryz.ntmps355 λU=>?_;exact axv
theorem w4(s:atG)(h:s≠[]):1<=(dT s).2/\(dT s).2<=s.length/\(dT s).2<=4/\(dT s).1<=1114111:=by
 have h0:¬(⟨⟨s⟩⟩:ByteArray).size=0:=λe=>h (atZ e);have al:(⟨⟨s⟩⟩:ByteArray).size=s.length:=rfl;have ay:0<s.length:=au8.2 h;unfold dT Lib.decodeGo;rw[atH h0];unfold Utf8.decode;dsimp only;rw[al];have E0:Utf8.runeError=65533:=rfl
 repeat' split
 all_goals simp only[E0,atN,au5,aut,ge_iff_le,Utf8.valid]at*
 all_goals omega
def lU(s:atG):Bool:=!em (dT s).1||((dT s).1==65533&&(dT s).2==1)
theorem TP(s:atG):lU s=(bif !em ((dT s).1:Nat)then true else bif (((dT s).1:Nat):Int)==65533 then(((dT s).2:Nat):Int)==1 else false):=by
 unfold lU;have h1:((((dT s).1:Nat):Int)==65533)=((dT s).1==65533):=by rw[aws];simp;omega
 have A:((((dT s).2:Nat):Int)==1)=((dT s).2==1):=by rw[aws];simp;omega
 rw[h1,A];cases em ((dT s).1:Nat)<;>cases(dT s).1==65533<;>rfl
def yq:Nat->atG->Option (List Int)
 |0,s=>if s=[]then some []else none
 |f+1,s=>if s=[]then some []else if lU s then none else(yq f (s.drop (dT s).2)).map (((dT s).1:Int)::·)
theorem MK:∀(f:Nat) (s:atG),s.length<=f->yq f s=yq s.length s
 |0,s,h=>by have:s=[]:=atZ atw;subst this;rfl
 |f+1,s,h=>by by_cases hs:s=[];subst hs;rfl;obtain⟨h1,A,_⟩:=w4 s hs;have ay:0<s.length:=au8.2 hs;obtain⟨n,aw⟩:∃n,s.length=n+1:=⟨s.length-1,by omega⟩;rw[aw];simp only[yq,hs,avs];(have jI:(s.drop (dT s).2).length=s.length-(dT s).2:=by simp);rw[MK f (s.drop (dT s).2) atw,MK n (s.drop (dT s).2) atw]
def jo(s:atG):Option (List Int):=yq s.length s
variable{s:atG}
theorem yr(hs:s≠[]):jo s=if lU s then none else(jo (s.drop (dT s).2)).map (((dT s).1:Int)::·):=by
 obtain⟨h1,A,_⟩:=w4 s hs;have ay:0<s.length:=au8.2 hs;obtain⟨n,aw⟩:∃n,s.length=n+1:=⟨s.length-1,by omega⟩;have jI:(s.drop (dT s).2).length=s.length-(dT s).2:=by simp
 rw[jo,aw];simp only[yq,hs,avs];rw[MK n _ atw];rfl
theorem B_:∀(n:Nat) (s:atG),s.length<=n->∀l,jo s=some l->l.length<=s.length/\s.length<=4*l.length
 |0,s,h,l,al=>by have:s=[]:=atZ atw;subst this;cases al;simp
 |n+1,s,h,l,al=>by by_cases hs:s=[];subst hs;cases al;simp;obtain⟨h1,A,Z,_⟩:=w4 s hs;rw[yr hs]at al;split at al;cases al;cases N:jo (s.drop (dT s).2)with|none=>rw[N]at al;cases al|some iZ =>rw[N]at al;cases al;(have jI:(s.drop (dT s).2).length=s.length-(dT s).2:=by simp);have:=B_ n (s.drop (dT s).2) atw iZ N;simp only[atT];omega
def chars(s:atG):List Int×Int:=if 65536<s.length then([],7)else match jo s with|some l=>(l,0)|none=>([],3)
def fL(k:IntKind)(l:List Int):List D:=l.map (D.int k)
theorem ML(a1:db B)(s:atG)(hs:s.length<1000000000):aU B 257 [.O s] (.bp [.Q .none 1 (fL .i64 (chars s).1),u (chars s).2]):=by refine bA Tryz.func257 Tryz.ntmps257 λU=>?_;refine go ?_;refine aK _ rfl ?_ ?_<;>intro hc;refine go ?_;(have:chars s=([],7):=by rw[chars,atI (by simp at hc;omega)]);rw[this];exact⟨aq.nil,E,ak⟩;refine go ?_;(have jh:¬65536<s.length:=by simp at hc;omega);refine go ?_;refine .inr (af.LP aM (n:=s.length) (cq:=.i64) (d8:=.i64) rfl rfl rfl rfl rfl rfl (by show 8*_<=_;omega) atw λv=>?_);refine go ?_;refine W.ec (α:={x:atG×List Int // jo s=(jo x.1).map (x.2++·)/\x.1.length+x.2.length<=s.length}×Value) (λx=>[(0,.O x.1.1.1),(4,.Q (.own 1000 x.2) 1 (fL .i64 x.1.1.2))]) (λx=>[(1000,.own x.2 (fL .i64 x.1.1.2).length 1 3)]) (λx=>x.1.1.1.length) (⟨(s,[]),by simp,by simp⟩,v) [(1000,12)] ⟨⟨E,aq.own _ _,ak⟩,rfl,bc⟩ ?_;rintro⟨⟨⟨r,fz⟩,kQ,hlen⟩,v⟩;dsimp only at kQ hlen⊢;refine go ?_;refine aK _ rfl ?_ ?_<;>intro hc;refine fg ?_;(have ae:r≠[]:=by intro e;subst e;simp at hc);obtain⟨E1,rU,B',adM⟩:=w4 r ae;(have pj:(fL .i64 fz).length=fz.length:=by simp[fL]);refine LX ?_;refine⟨_,_,λ_=>adI a1 r,ar,?_⟩;refine p3 ?_;refine .inl ⟨by simp[du];omega,?_⟩;refine go ?_;refine⟨_,_,λ_=>adK _,ar,?_⟩;refine go ?_;refine aK _ rfl ?_ ?_<;>intro hc;refine go ?_;(have ys:lU r=true:=by rw[TP];exact hc);(have:chars s=([],3):=by rw[chars,atH jh,kQ,yr ae,atI ys];rfl);rw[this];exact⟨aq.nil,E,ak⟩;apply co;(have ys:lU r=false:=by rw[TP];exact hc);refine vf ?_;refine nY ?_;refine .inl ⟨by simp[du];omega,?_⟩;(conv=>whnf);refine⟨ak,?_⟩;refine nY ?_;refine LW ?_;refine⟨by show(_+1)*8<=_;omega,by show _+1<=_;omega,atD,λv=>?_⟩;refine mS ?_;refine mR ?_;exact⟨(⟨(r.drop (dT r).2,fz++[((dT r).1:Int)]),by rw[kQ,yr ae,ys];simp[awd],by simp;omega⟩,v),[(1000,37)],by show(r.drop (dT r).2).length<r.length;simp;omega,⟨aq.of_eq (atJ D.O aty),aq.jK (by simp[fL];rfl),ak⟩,rfl,rfl,j2 (by simp[fL]),ak⟩;refine go ?_;exact axw
def oP(n:Int):UInt8:=UInt8.ofNat n.toNat
theorem yt(l:List Int)(h:∀n∈l,0<=n/\n<=255):l.map (D.int .u8)=(l.map oP).map λc=>D.int .u8 c.toNat:=by rw[avN];apply av3;intro n aw;have:=h n aw;simp only[Function.comp,oP];congr 1;simp;omega
def E2(v:Int):List Int :=
 if v<128 then[v]else if v<2048 then[192+v.tdiv 64,128+v.tmod 64]else[224+v.tdiv 4096,128+(v.tdiv 64).tmod 64,128+v.tmod 64]
def yu(v:Int):atG:=(E2 v).map oP
theorem Ii{v k:Int}(h:0<=v)(Y:0<k):v.tdiv k=v/k:=at6 h
theorem Ij{v k:Int}(h:0<=v):v.tmod k=v%k:=au2 h
theorem adN(v:Int)(h0:0<=v)(h1:v<=65535):aU B 356 [u v] (.O (yu v)):=by refine bA Tryz.func356 Tryz.ntmps356 λU=>?_;apply b4;refine f_ ?_;refine aK _ rfl ?_ ?_<;>intro hc;refine vf ?_;refine nY ?_;refine .inl ⟨by simp at hc;simp[du];omega,?_⟩;(conv=>whnf);refine o' ?_;refine .inr (af.vd aM (aS:=[v].map oP) (tg:=.dV) rfl rfl rfl rfl rfl rfl (atJ (D.Q .dV 1) (yt [v] (by simp at hc⊢;omega))) ?_);refine iD ?_;exact aq.of_eq (atJ D.O (by rw[yu,E2,atI (by simpa using hc)]));apply co;refine p3 ?_;have bV:=Ii h0 (k:=64) atw;have b9:=Ij (k:=64) h0;have kl:=Ii h0 (k:=4096) atw;have zT:=Ij (v:=v.tdiv 64) (k:=64) atw;refine aK _ rfl ?_ ?_<;>intro hc;refine qH ?_;refine p1 ?_;refine .inl ⟨λ_=>ayC,?_⟩;(conv=>whnf);refine .inl ⟨λ_=>ayC,?_⟩;refine nY ?_;refine .inl ⟨ayC,?_⟩;refine wU ?_;refine .inl ⟨λ_=>ayC,?_⟩;refine nY ?_;refine .inl ⟨ayC,?_⟩;(conv=>whnf);refine o' ?_;refine .inr (af.vd aM (aS:=[192+v.tdiv 64,128+v.tmod 64].map oP) (tg:=.dV) rfl rfl rfl rfl rfl rfl (atJ (D.Q .dV 1) (yt [192+v.tdiv 64,128+v.tmod 64] (by simp at hc⊢;omega))) ?_);refine iD ?_;exact aq.of_eq (atJ D.O (by simp only[aut,avn]at*;rw[yu,E2,atH (by assumption),atI (by assumption)]));apply co;refine qH ?_;refine p1 ?_;refine .inl ⟨λ_=>ayC,?_⟩;(conv=>whnf);refine .inl ⟨λ_=>ayC,?_⟩;refine nY ?_;refine .inl ⟨ayC,?_⟩;refine wU ?_;refine .inl ⟨λ_=>ayC,?_⟩;refine wU ?_;refine .inl ⟨λ_=>ayC,?_⟩;refine nY ?_;refine .inl ⟨ayC,?_⟩;refine wU ?_;refine .inl ⟨λ_=>ayC,?_⟩;refine nY ?_;refine .inl ⟨ayC,?_⟩;(conv=>whnf);refine o' ?_;refine .inr (af.vd aM (aS:=[224+v.tdiv 4096,128+(v.tdiv 64).tmod 64,128+v.tmod 64].map oP) (tg:=.dV) rfl rfl rfl rfl rfl rfl (atJ (D.Q .dV 1) (yt [224+v.tdiv 4096,128+(v.tdiv 64).tmod 64,128+v.tmod 64] (by simp at hc⊢;omega))) ?_);refine iD ?_;exact aq.of_eq (atJ D.O (by simp only[aut,avn]at*;rw[yu,E2,atH (by assumption),atH (by assumption)]))
def ld(s:atG)(k:Nat):Int:=((s.getD k 0).toNat:Nat)
def Ca(s:atG)(i:Nat):Int:=if i=2 then(ld s 0-192)*64+ld s 1-128 else ld s 0
def m0(s:atG)(i:Nat):Int:=if i=3 then(ld s 0-224)*4096+(ld s 1-128)*64+ld s 2-128 else Ca s i
def qP(s:atG)(i:Nat):Bool:=em (m0 s i)&&yu (m0 s i)==s.take i
theorem MM(s:atG)(k:Nat):0<=ld s k/\ld s k<=255:=by unfold ld;have:=(s.getD k 0).toNat_lt;omega
variable{k:Nat}
theorem Ag(s:atG)(h:k<s.length):s[k]?=some (s.getD k 0):=by simp[List.getD,h]
def first(s:atG):Int×Int:=if 1<=s.length/\qP s 1=true then(m0 s 1,1)else if 2<=s.length/\qP s 2=true then(m0 s 2,2)else if 3<=s.length/\qP s 3=true then(m0 s 3,3)else(0,0)
variable{r:Int}
theorem E3(h:em r=true):32<=r/\r<=65533:=by unfold em at h;simp only[atN,aut]at h;exact⟨h.1,h.2.1⟩
variable{i:Nat}
theorem TQ(h1:1<=i)(Z:i<=3)(al:i<=s.length)(cF:qP s i=true)(ff:∀m,1<=m->m<i->qP s m=false):first s=(m0 s i,(i:Int)):=by(unfold first);match i,h1,Z with|1,_,_=>rw[atI ⟨al,cF⟩];rfl|2,_,_=>rw[atH (by rw[ff 1 atw atw];simp),atI ⟨al,cF⟩];rfl|3,_,_=>rw[atH (by rw[ff 1 atw atw];simp),atH (by rw[ff 2 atw atw];simp),atI ⟨al,cF⟩];rfl
theorem adO(hi:3<i\/s.length<i)(ff:∀m,1<=m->m<i->qP s m=false):first s=(0,0):=by(unfold first;rw[atH,atH,atH]);(all_goals rintro⟨h1,A⟩);rw[ff 3 atw atw]at A;cases A;rw[ff 2 atw atw]at A;cases A;rw[ff 1 atw atw]at A;cases A
theorem adP(s:atG)(hs:s.length<1000000000):aU B 315 [.O s] (.bp [u (first s).1,u (first s).2]):=by refine bA Tryz.func315 Tryz.ntmps315 λU=>?_;apply b4;refine nn ?_;refine W.loop (α:={i:Nat // 1<=i/\i<=4/\∀m,1<=m->m<i->qP s m=false}) (λx=>[(0,.O s),(4,u x.1)]) (λ_=>[]) (λx=>4-x.1) ⟨1,by omega,by omega,λm h1 A=>by omega⟩ ar trivial ?_;rintro⟨i,n0,TR,ff⟩;dsimp only;refine f_ ?_;apply g2;refine nX ?_;refine aK _ rfl ?_ ?_<;>intro hc;refine fg ?_;(have hi:i<=3/\i<=s.length:=axX);have tR:=MM s 0;have mK:=MM s 1;have g0:=MM s 2;refine gJ ?_;refine⟨s.getD 0 0,λ_=>⟨by omega,Ag s atw⟩,?_⟩;(conv=>whnf);refine .inl ⟨ax_,?_⟩;(conv=>whnf);refine W.lI (α:=Unit) (λx=>[(0,.O s),(4,u i),(5,u (Ca s i))]) (λx=>[]) ?_ ?_;apply b4;refine aK _ rfl ?_ ?_<;>intro hc;refine W.u' aM mixed atB ?_;(conv=>whnf);refine⟨s.getD 0 0,λ_=>⟨by omega,Ag s atw⟩,?_⟩;(conv=>whnf);refine .inl ⟨ax_,?_⟩;(conv=>whnf);refine .inl ⟨λ_=>ax_,?_⟩;(conv=>whnf);refine .inl ⟨λ_=>ax_,?_⟩;(conv=>whnf);refine⟨s.getD 1 0,λ_=>⟨by omega,Ag s (by simp at hc;omega)⟩,?_⟩;(conv=>whnf);refine .inl ⟨by have:=(s.getD 1 0).toNat_lt;simp only[du];omega,?_⟩;(conv=>whnf);refine .inl ⟨λ_=>axO,?_⟩;(conv=>whnf);refine .inl ⟨λ_=>axO,?_⟩;(conv=>whnf);(have A:i=2:=by simp at hc;omega);exact⟨(),[],⟨E,E,dt (by rw[Ca,atI A];rfl),ak⟩,rfl,ak⟩;refine fg ?_;(have A:i≠2:=by simp at hc;omega);exact⟨(),[],⟨E,E,dt (by rw[Ca,atH A];rfl),ak⟩,rfl,ak⟩;rintro⟨⟩;refine W.lI (α:=Unit) (λx=>[(0,.O s),(4,u i),(5,u (m0 s i))]) (λx=>[]) ?_ ?_;apply b4;refine aK _ rfl ?_ ?_<;>intro hc;refine W.u' aM mixed atB ?_;(conv=>whnf);refine⟨s.getD 0 0,λ_=>⟨by omega,Ag s atw⟩,?_⟩;(conv=>whnf);have Ah:=(s.getD 0 0).toNat_lt;have Ik:=(s.getD 1 0).toNat_lt;have qM:=(s.getD 2 0).toNat_lt;refine .inl ⟨by simp only[du];omega,?_⟩;refine vi ?_;refine⟨s.getD 1 0,λ_=>⟨by omega,Ag s (by simp at hc;omega)⟩,?_⟩;(conv=>whnf);refine .inl ⟨by simp only[du];omega,?_⟩;refine g5 ?_;refine vi ?_;refine⟨s.getD 2 0,λ_=>⟨by omega,Ag s (by simp at hc;omega)⟩,?_⟩;(conv=>whnf);refine .inl ⟨by simp only[du];omega,?_⟩;refine vi ?_;(have A:i=3:=by simp at hc;omega);exact⟨(),[],⟨E,E,dt (by rw[m0,atI A];rfl),ak⟩,rfl,ak⟩;refine fg ?_;(have A:i≠3:=by simp at hc;omega);exact⟨(),[],⟨E,E,dt (by rw[m0,atH A]),ak⟩,rfl,ak⟩;rintro⟨⟩;refine oH ?_;(conv=>whnf);refine⟨_,_,λ_=>adL _,ar,?_⟩;refine mQ ?_;refine⟨[u (m0 s i)],_,λh=>adN _ (by have:=E3 h;omega) (by have:=E3 h;omega),ar,?_⟩;refine hv ?_;refine⟨λh=>by omega,?_⟩;refine nX ?_;(conv=>whnf);(have TS:qP s i=(bif em (m0 s i)then yu (m0 s i)==(s.take (i:Int).toNat).drop (Int.toNat 0)else false):=by rw[qP,auj];cases em (m0 s i)<;>rfl);refine aK _ rfl ?_ ?_<;>intro hc;refine gj ?_;have:=TQ n0 hi.1 hi.2 (TS.trans hc) ff;exact⟨dt (by rw[this]),dt (by rw[this]),ak⟩;refine rI ?_;exact⟨⟨i+1,by omega,by omega,λm h1 A=>(avL.1 A).elim (ff m h1) λe=>by subst e;exact TS.trans hc⟩,by show 4-(i+1)<4-i;omega,ar,ak⟩;refine qG ?_;(have hi:3<i\/s.length<i:=axX);have:=adO hi ff;exact⟨dt (by rw[this]),dt (by rw[this]),ak⟩
theorem adQ(h:1<=s.length):s.take 1=[s.getD 0 0]:=by match s,h with|a::t,_=>rfl
theorem adR(h:2<=s.length):s.take 2=[s.getD 0 0,s.getD 1 0]:=by match s,h with|a::b::t,_=>rfl
theorem adS(h:3<=s.length):s.take 3=[s.getD 0 0,s.getD 1 0,s.getD 2 0]:=by match s,h with|a::b::c::t,_=>rfl
theorem adT(s:atG)(k:Nat):(⟨⟨s⟩⟩:ByteArray).get! k=s.getD k 0:=by show(⟨s⟩:Array UInt8)[k]! = _;rw[getElem!_def];simp[List.getD];cases h:s[k]?<;>rfl
def Ai(n k9 dC cm eR:Nat):Nat×Nat :=
 if k9<128 then(k9,1)
 else if k9/32=6/\1<n/\dC/64=2 then
  if(k9%32)*64+dC%64≥128 then((k9%32)*64+dC%64,2)else(65533,1)
 else if k9/16=14/\(1<n/\dC/64=2)/\2<n/\cm/64=2 then
  if(k9%16)*4096+(dC%64)*64+cm%64≥2048/\((k9%16)*4096+(dC%64)*64+cm%64<55296\/57344<=(k9%16)*4096+(dC%64)*64+cm%64)
  then((k9%16)*4096+(dC%64)*64+cm%64,3)else(65533,1)
 else if k9/8=30/\(1<n/\dC/64=2)/\(2<n/\cm/64=2)/\3<n/\eR/64=2 then
  if(k9%8)*262144+(dC%64)*4096+(cm%64)*64+eR%64≥65536/\(k9%8)*262144+(dC%64)*4096+(cm%64)*64+eR%64<=1114111
  then((k9%8)*262144+(dC%64)*4096+(cm%64)*64+eR%64,4)else(65533,1)
 else(65533,1)
theorem E4(h:s≠[]):dT s=Ai s.length (s.getD 0 0).toNat (s.getD 1 0).toNat (s.getD 2 0).toNat (s.getD 3 0).toNat:=by have h0:¬(⟨⟨s⟩⟩:ByteArray).size=0:=λe=>h (atZ e);have al:(⟨⟨s⟩⟩:ByteArray).size=s.length:=rfl;unfold dT Lib.decodeGo;rw[atH h0];unfold Utf8.decode;dsimp only;simp only[adT,auu,al];have Ah:=(s.getD 0 0).toNat_lt;generalize(s.getD 0 0).toNat=k9 at*;generalize(s.getD 1 0).toNat=dC;generalize(s.getD 2 0).toNat=cm;generalize(s.getD 3 0).toNat=eR;unfold Ai;have E0:Utf8.runeError=65533:=rfl;simp only[E0,atN,au5,aut,ge_iff_le,Utf8.valid,avp,and_assoc];(repeat' split);all_goals first|rfl|(exfalso;omega)|skip
def rO(v:Int)(k9 dC cm:Int):Nat->Prop
 |1=>v<128/\k9=v
 |2=>128<=v/\v<2048/\k9=192+v/64/\dC=128+v%64
 |3=>2048<=v/\k9=224+v/4096/\dC=128+v/64%64/\cm=128+v%64
 |_=>False
theorem Cb{n:Int}{b:UInt8}(h0:0<=n)(h1:n<=255):oP n=b↔((b.toNat:Nat):Int)=n:=by unfold oP;rw[<-UInt8.toNat_inj];have I:=b.toNat_lt;simp;omega
theorem TT{v:Int}(h0:0<=v)(h1:v<=65535)(hi:1<=i)(sV:i<=3)(al:i<=s.length):yu v=s.take i↔rO v (ld s 0) (ld s 1) (ld s 2) i:=by have bV:=Ii h0 (k:=64) atw;have b9:=Ij (k:=64) h0;have kl:=Ii h0 (k:=4096) atw;have zT:=Ij (v:=v.tdiv 64) (k:=64) atw;unfold yu E2;match i,hi,sV with|1,_,_ =>rw[adQ al];unfold rO ld;split;simp only[aui,avr,avW,and_true];rw[Cb atw atw];omega;split<;>simp<;>omega|2,_,_ =>rw[adR al];unfold rO ld;split;simp;omega;split;simp only[aui,avr,avW,and_true];rw[Cb atw atw,Cb atw atw];omega;simp;omega|3,_,_ =>rw[adS al];unfold rO ld;split;simp;omega;split;simp;omega;simp only[aui,avr,avW,and_true];rw[Cb atw atw,Cb atw atw,Cb atw atw];omega
theorem MN(hi:1<=i)(sV:i<=3)(al:i<=s.length):qP s i=true↔em (m0 s i)=true/\rO (m0 s i) (ld s 0) (ld s 1) (ld s 2) i:=by unfold qP;rw[atN,avp];constructor;rintro⟨h1,A⟩;have:=E3 h1;exact⟨h1,(TT atw atw hi sV al).1 A⟩;rintro⟨h1,A⟩;have:=E3 h1;exact⟨h1,(TT atw atw hi sV al).2 A⟩
theorem TU(hs:s≠[])(hi:1<=i)(sV:i<=3)(al:i<=s.length)(h:qP s i=true):((dT s).1:Int)=m0 s i/\(dT s).2=i:=by obtain⟨h1,A⟩:=(MN hi sV al).1 h;rw[E4 hs];unfold em at h1;simp only[atN,au5,aut]at h1;unfold m0 Ca ld at*;have Ah:=(s.getD 0 0).toNat_lt;have Ik:=(s.getD 1 0).toNat_lt;have qM:=(s.getD 2 0).toNat_lt;generalize(s.getD 0 0).toNat=k9 at*;generalize(s.getD 1 0).toNat=dC at*;generalize(s.getD 2 0).toNat=cm at*;generalize(s.getD 3 0).toNat=eR at*;unfold Ai;match i,hi,sV with|1,_,_ =>simp only[Nat.reduceEqDiff,avs,auX,rO]at h1 A⊢;rw[atI atw];simp|2,_,_ =>simp only[Nat.reduceEqDiff,avs,auX,rO]at h1 A⊢;rw[atH atw,atI atw,atI atw];simp;omega|3,_,_ =>simp only[Nat.reduceEqDiff,avs,auX,rO]at h1 A⊢;rw[atH atw,atH atw,atI atw,atI atw];simp;omega
theorem adU(hs:s≠[])(h:lU s=false):(dT s).2<=3/\qP s (dT s).2=true/\((dT s).1:Int)=m0 s (dT s).2:=by
 obtain⟨h1,A,Z,aG⟩:=w4 s hs
 have I:em ((dT s).1:Nat)=true/\¬((dT s).1=65533/\(dT s).2=1):=by
  unfold lU at h;simp only[avh,avE,avk,auA]at h;exact⟨h.1,by omega⟩
 obtain⟨hc,aw⟩:=I;have arr:=E3 hc
 have key:(dT s).2<=3/\rO ((dT s).1:Nat) (ld s 0) (ld s 1) (ld s 2) (dT s).2/\((dT s).1:Int)=m0 s (dT s).2:=by
  unfold m0 Ca ld;rw[E4 hs]at*;have Ah:=(s.getD 0 0).toNat_lt;have Ik:=(s.getD 1 0).toNat_lt;have qM:=(s.getD 2 0).toNat_lt;generalize(s.getD 0 0).toNat=k9 at*;generalize(s.getD 1 0).toNat=dC at*;generalize(s.getD 2 0).toNat=cm at*;generalize(s.getD 3 0).toNat=eR at*;unfold Ai at*
  repeat' split
  all_goals simp_all [rO]
  all_goals omega
 refine⟨key.1,?_,key.2.2⟩;rw[MN h1 key.1 A,<-key.2.2];exact⟨hc,key.2.1⟩
theorem adV(hs:s≠[]):first s=if lU s then(0,0)else(((dT s).1:Int),((dT s).2:Int)):=by obtain⟨h1,A,Z,aG⟩:=w4 s hs;have ay:0<s.length:=au8.2 hs;cases I:lU s with|true =>rw[atI rfl];(have ff:∀m,1<=m->m<4->m<=s.length->qP s m=false:=λm mq qQ gs=>by rw[aww];intro cF;obtain⟨bV,b9⟩:=TU hs mq atw gs cF;obtain⟨ev,dB⟩:=(MN mq atw gs).1 cF;unfold lU at I;simp only[au5,av0,atN,avp]at I;rw[bV]at I;rcases I with I|⟨dC,cm⟩;rw[I]at ev;cases ev;(have hm:m=1:=by omega);subst hm;simp only[rO]at dB;omega);(unfold first;rw[atH,atH,atH]);(all_goals rintro⟨g1,fe⟩);rw[ff 3 atw atw g1]at fe;cases fe;rw[ff 2 atw atw g1]at fe;cases fe;rw[ff 1 atw atw g1]at fe;cases fe|false =>rw[atH aty];obtain⟨g1,fe,g3⟩:=adU hs I;rw[g3];refine TQ h1 g1 A fe λm mq qQ=>?_;rw[aww];intro cF;have:=(TU hs mq atw atw cF).2;omega
theorem adW(s:atG)(hs:s.length<1000000000):aU B 273 [.O s] (.bp [.Q .none 1 (fL .i64 (chars s).1),u (chars s).2]):=by refine bA Tryz.func273 Tryz.ntmps273 λU=>?_;apply b4;refine f_ ?_;refine aK _ rfl ?_ ?_<;>intro hc;refine gj ?_;(have:chars s=([],7):=by rw[chars,atI (by simp at hc;omega)]);rw[this];exact⟨aq.nil,E,ak⟩;refine fg ?_;(have jh:¬65536<s.length:=by simp at hc;omega);apply b4;apply el;refine W.own 4 1000 1 3 rfl (λv=>?_);apply oG;refine W.ec (α:={x:atG×List Int // jo s=(jo x.1).map (x.2++·)/\x.1.length+x.2.length<=s.length}×Value) (λx=>[(0,.O x.1.1.1),(4,.Q (.own 1000 x.2) 1 (fL .i64 x.1.1.2))]) (λx=>[(1000,.own x.2 (fL .i64 x.1.1.2).length 1 3)]) (λx=>x.1.1.1.length) (⟨(s,[]),by simp,by simp⟩,v) [(1000,1000)] ⟨ar,rfl,bc⟩ ?_;rintro⟨⟨⟨r,fz⟩,kQ,hlen⟩,v⟩;dsimp only at kQ hlen⊢;refine f_ ?_;refine aK _ rfl ?_ ?_<;>intro hc;refine fg ?_;(have ae:r≠[]:=by intro e;subst e;simp at hc);obtain⟨E1,rU,B',adM⟩:=w4 r ae;(have pj:(fL .i64 fz).length=fz.length:=by simp[fL]);have vA:=adV ae;refine LX ?_;refine⟨_,_,λ_=>adP r atw,ar,?_⟩;refine f_ ?_;refine aK _ rfl ?_ ?_<;>intro hc;refine gj ?_;(have ys:lU r=true:=by cases I:lU r with|true=>rfl|false=>rw[I,atH aty]at vA;rw[vA]at hc;simp at hc;omega);(have:chars s=([],3):=by rw[chars,atH jh,kQ,yr ae,atI ys];rfl);rw[this];exact⟨aq.nil,E,ak⟩;refine fg ?_;(have ys:lU r=false:=by cases I:lU r with|false=>rfl|true=>rw[I,atI rfl]at vA;rw[vA]at hc;simp at hc);rw[ys,atH aty]at vA;refine cl ?_;refine nm ?_;refine⟨by show(_+1)*8<=_;omega,by show _+1<=_;omega,atD,λv=>?_⟩;refine mS ?_;refine⟨λ_=>by rw[vA];simp;omega,?_⟩;(conv=>whnf);exact⟨(⟨(r.drop (dT r).2,fz++[((dT r).1:Int)]),by rw[kQ,yr ae,ys];simp[awd],by simp;omega⟩,v),[(1000,23)],by show(r.drop (dT r).2).length<r.length;simp;omega,⟨aq.of_eq (atJ D.O (by rw[vA];simp)),aq.jK (by rw[vA];simp[fL];rfl),ak⟩,rfl,rfl,j2 (by simp[fL]),ak⟩;refine qG ?_;exact axw
def dX(s:atG):Bool :=
 if s=[46]\/s=[46,46]\/(47:UInt8)∈s then false else(chars s).2==0&&(decide (1<=(chars s).1.length)&&decide ((chars s).1.length<=64))
theorem TV(c:UInt8):∀s:atG,decide (0<=Lib.indexByte s c)=decide (c∈s)
 |[]=>by simp[Lib.indexByte]
 |b::l=>by
  have aZ:=TV c l;have h':=Lib.indexByte_ge l c;rw[decide_eq_decide]at aZ⊢;unfold Lib.indexByte;by_cases I:b=c
  ·subst I;simp
  rw[atH (by simpa using I)];have:c∈b::l↔c∈l:=by simp[Ne.symm I]
  rw[this,<-aZ]
  cases hm:Lib.indexByte l c==-1 with
  |true=>rw[atI rfl];have:=eq_of_beq hm;omega
  |false => rw[atH aty];have : Lib.indexByte l c ≠ -1 := λe => by rw[e]at hm;simp at hm
            omega
theorem yv(a1:db B)(s:atG)(hs:s.length<1000000000):aU B 193 [.O s] (.bool (dX s)):=by refine bA Tryz.func193 Tryz.ntmps193 λU=>?_;apply b4;refine f_ ?_;refine ib ?_;refine mQ ?_;refine⟨_,_,λh=>TN s 47,ar,?_⟩;refine tU ?_;(conv=>whnf);(have pd:(bif bif s==[46]then true else s==[46,46]then true else decide (0<=Lib.indexByte s 47))=decide (s=[46]\/s=[46,46]\/(47:UInt8)∈s):=by rw[TV];by_cases h1:s=[46];simp[h1];by_cases A:s=[46,46]<;>simp[h1,A]);refine aK _ rfl ?_ ?_<;>intro hc;refine gj ?_;exact aq.of_eq (atJ D.bool (by rw[dX,atI (aua (pd.symm.trans hc))]));apply co;refine cl ?_;refine⟨_,_,λ_=>ML a1 s hs,ar,?_⟩;apply b4;refine nX ?_;refine nX ?_;refine iD ?_;refine aq.of_eq (atJ D.bool ?_);rw[dX,atH (at2 (pd.symm.trans hc))];exact axm
def cQ(c:UInt8):atG->atG->List atG
 |p,[]=>[p]
 |p,b::r=>if b=c then p::cQ c [] r else cQ c (p++[b]) r
theorem MO{c:UInt8}:∀(s p:atG),c∉s->cQ c p s=[p++s]
 |[],p,_=>by simp[cQ]
 |b::r,p,h=>by have I:b≠c:=λe=>h (by simp[e]);have ae:c∉r:=λe=>h (by simp[e]);rw[cQ,atH I,MO r _ ae];simp
theorem MP{c:UInt8}:∀(a p r:atG),c∉a->cQ c p (a++c::r)=(p++a)::cQ c [] r
 |[],p,r,_=>by simp[cQ]
 |b::a,p,r,h=>by have I:b≠c:=λe=>h (by simp[e]);have ae:c∉a:=λe=>h (by simp[e]);rw[auS,cQ,atH I,MP a _ r ae];simp
theorem sW{c:UInt8}:∀(s p:atG),(cQ c p s).length<=s.length+1/\∀x∈cQ c p s,x.length<=p.length+s.length
 |[],p=>by simp[cQ]
 |b::r,p=>by have h1:=sW (c:=c) r [];have A:=sW (c:=c) r (p++[b]);rw[cQ];split;refine⟨by simp;omega,λx F=>?_⟩;rcases at5.1 F with rfl|F;simp;have:=h1.2 x F;simp at this⊢;omega;refine⟨by simp at A⊢;omega,λx F=>?_⟩;have:=A.2 x F;simp at this⊢;omega
theorem adX(c:UInt8):∀(n:Nat) (s:atG),s.length<=n->(Lib.splitB ⟨⟨[c]⟩⟩ 0 (Lib.countB ⟨⟨s⟩⟩ ⟨⟨[c]⟩⟩) ⟨⟨s⟩⟩).map (λb=>b.data.toList)=cQ c [] s:=by intro n;induction n with|zero =>intro s h;have:s=[]:=atZ atw;subst this;rw[Lib.countB_miss _ _ (by rfl)];rfl|succ n aZ =>intro s h;have rN:Lib.indexB ⟨⟨s⟩⟩ ⟨⟨[c]⟩⟩=Lib.indexByte s c:=Lib.index_one s c;have h':=Lib.indexByte_ge s c;by_cases hm:Lib.indexByte s c=-1;(have ff:c∉s:=λhc=>by obtain⟨k,Y⟩:=auf.1 hc;exact Lib.indexByte_none hm k Y);rw[Lib.countB_miss _ _ (rN.trans hm),Lib.splitB_zero,MO s [] ff];rfl;obtain⟨i,hi⟩:∃i:Nat,Lib.indexByte s c=i:=⟨(Lib.indexByte s c).toNat,by omega⟩;obtain⟨h1,A⟩:=Lib.indexByte_some hi;(have ce:i<s.length:=by rcases at3 i s.length with h|h;exact h;rw[atW h]at h1;cases h1);have hsz:(⟨⟨[c]⟩⟩:ByteArray).size=1:=rfl;have iT:(⟨⟨s⟩⟩:ByteArray).size=s.length:=rfl;have lL:s.take s.length=s:=atX;rw[Lib.countB_hit _ _ i (by rw[hsz];omega) (rN.trans hi),awy 1,Lib.splitB_hit _ _ _ _ i (rN.trans hi),hsz,iT,K_,K_,lL];(have hs:s=s.take i++c::s.drop (i+1):=by have:=aun.1 h1;obtain⟨_,ao⟩:=this;have Z:=auQ ce;rw[ao]at Z;rw[<-Z,avb]);(have ff:c∉s.take i:=λhc=>by obtain⟨k,Y⟩:=auf.1 hc;rw[auB]at Y;split at Y;rename_i bf;exact A k bf Y;cases Y);rw[aui,aZ (s.drop (i+1)) atx];(conv=>rhs;rw[hs,MP _ _ _ ff]);simp
def aN(l:List atG):List D:=l.map D.O
theorem Il(a1:db B)(s:atG)(c:UInt8)(hs:s.length<1000000000):aU B 83 [.O s,.O [c]] (.Q .dV 1 (aN (cQ c [] s))):=by obtain⟨m,hm⟩:=a1.TL;have jf:=adX c s.length s (atQ _);have hlen:=(sW (c:=c) s []).1;(have jE:Lib.countB ⟨⟨s⟩⟩ ⟨⟨[c]⟩⟩+1=(aN (cQ c [] s)).length:=by have:=Lib.splitB_all (⟨⟨[c]⟩⟩:ByteArray) (atQ 1) 0 _ (⟨⟨s⟩⟩:ByteArray) rfl;rw[<-this,aN,atL,<-jf,atL]);(have hcells:∀x∈aN (cQ c [] s),x.cells=[x]:=λx F=>ayD);(have rL:(Lib.splitB ⟨⟨[c]⟩⟩ 0 (Lib.countB ⟨⟨s⟩⟩ ⟨⟨[c]⟩⟩) ⟨⟨s⟩⟩).map Value.string=(cQ c [] s).map λx=>Value.string ⟨⟨x⟩⟩:=by rw[<-jf,avN];rfl);refine .newRow (dk:=(cQ c [] s).map λx=>Value.string ⟨⟨x⟩⟩) (e:=9) (jn Tryz.func83 rfl atA) rfl (λx F=>by rw[hcells x F];rfl) (by simp only[aN,atL,maxLen]at*;omega) (λw C=>?_) (λaj an=>by obtain⟨y,_,rfl⟩:=aub.1 an;rfl) λw I=>(Tryz.strings_Split ⟨⟨s⟩⟩ ⟨⟨[c]⟩⟩ m w (by show s.length<_;omega) (EZ I hm) (atQ 1)).mono λe w' ⟨ao,cz⟩=>?_;rw[rD hcells];exact⟨by simp[aN],λi d v N X=>by simp only[aN,aud]at N X;cases F:(cQ c [] s)[i]? with|none=>rw[F]at N;cases N|some x=>rw[F]at N X;cases N;cases X;exact .O _⟩;rw[<-jE];exact⟨ao,by rw[cz,rL]⟩
def gA(s:atG):atG:=match s with|b::r=>if b=47 then r else b::r|[]=>[]
theorem Im(s:atG):Lib.trimPrefix s [47]=gA s:=by unfold Lib.trimPrefix Lib.hasPrefix gA;match s with|[]=>rfl|b::r =>by_cases h:b=47;simp[h,List.isPrefixOf];have bB:¬(47:UInt8)=b:=λe=>h e.symm;simp[h,bB,List.isPrefixOf]
theorem Io(s:atG):(gA s).length<=s.length:=by unfold gA;split;split<;>simp;simp
def Aj(p:atG):Bool:=p==[46]||(p==[46,46]||dX p)
def kR(s:atG):Bool:=if s.length<1\/128<s.length then false else if s=[47]then true else(cQ 47 [] (gA s)).all Aj
variable{α:Type}
theorem TW{q:α->Bool}{l:List α}(h:i<l.length)(G:q l[i]=false):l.all q=false:=by rw[aww];intro ha;have:=auE.1 ha l[i] (atO h);rw[G]at this;cases this
theorem MQ{q:α->Bool}{l:List α}(h:¬i<l.length)(G:∀j (aa:j<l.length),j<i->q l[j]=true):l.all q=true :=
 auE.2 λx F=>by
  obtain⟨j,aa,rfl⟩:=aur.1 F;exact G j aa atw
theorem MR{q:α->Bool}{l:List α}{hi:i<l.length}(h:q l[i]=true)(G:∀j (aa:j<l.length),j<i->q l[j]=true):∀j (aa:j<l.length),j<i+1->q l[j]=true:=λj aa bf =>
 (avL.1 bf).elim (G j aa) λe=>by subst e;exact h
theorem TX(p:atG):(bif (bif !(p==[46])then !(p==[46,46])else false)then !dX p else false)=!Aj p:=by unfold Aj;cases p==[46]<;>cases p==[46,46]<;>cases dX p<;>rfl
theorem Ip(a1:db B)(s:atG)(hs:s.length<1000000000):aU B 194 [.O s] (.bool (kR s)):=by refine bA Tryz.func194 Tryz.ntmps194 λU=>?_;refine go ?_;refine aK _ rfl ?_ ?_<;>intro hc;refine go ?_;refine aq.of_eq (atJ D.bool ?_);rw[kR,atI];by_cases h1:s.length<1;exact .inl h1;right;(have mW:¬(s.length:Int)<1:=by omega);simp[mW]at hc;omega;refine go ?_;(have h1:¬(s.length<1\/128<s.length):=axZ);refine go ?_;refine aK _ rfl ?_ ?_<;>intro hc;refine go ?_;exact aq.of_eq (atJ D.bool (by rw[kR,atH h1,atI (by simpa using hc)]));apply co;(have A:s≠[47]:=by simpa using hc);(have hT:kR s=(cQ 47 [] (gA s)).all Aj:=by rw[kR,atH h1,atH A]);have jE:=Io s;obtain⟨p_,E5⟩:=sW (c:=47) (gA s) [];refine p3 ?_;refine⟨_,_,λ_=>adJ s [47],ar,?_⟩;refine go ?_;refine⟨[.O (gA s),.O [47]],_,λ_=>Il a1 (gA s) 47 atw,⟨aq.of_eq (atJ D.O (Im s)),E,ak⟩,?_⟩;apply oG;refine W.loop (α:={i:Nat // i<=(cQ 47 [] (gA s)).length/\∀j (h:j<(cQ 47 [] (gA s)).length),j<i->Aj (cQ 47 [] (gA s))[j]=true}) (λx=>[(17,.Q .dV 1 (aN (cQ 47 [] (gA s)))),(18,u (aN (cQ 47 [] (gA s))).length),(19,u x.1)]) (λ_=>[]) (λx=>(cQ 47 [] (gA s)).length-x.1) ⟨0,by simp⟩ ar trivial ?_;rintro⟨i,hi,ay⟩;dsimp only;refine go ?_;refine aK _ rfl ?_ ?_<;>intro hc;refine fg ?_;(have aI:i<(cQ 47 [] (gA s)).length:=by simpa[aN]using hc);have dg:=E5 _ (atO aI);refine gJ ?_;refine⟨λ_=>by simp[aN];omega,?_⟩;refine go ?_;refine⟨.O (cQ 47 [] (gA s))[i],λ_=>BH _ aI,?_⟩;refine go ?_;refine⟨[.O (cQ 47 [] (gA s))[i]],_,λh=>yv a1 _ (by simp at dg;omega),ar,?_⟩;refine ib ?_;(conv=>whnf);have pd:=TX (cQ 47 [] (gA s))[i];refine aK _ rfl ?_ ?_<;>intro hc;refine go ?_;exact aq.of_eq (atJ D.bool (by rw[hT,TW aI (by simpa using pd.symm.trans hc)]));refine go ?_;exact⟨⟨i+1,by omega,MR (hi:=aI) (by simpa using pd.symm.trans hc) ay⟩,by show _-(i+1)<_-i;omega,ar,ak⟩;refine go ?_;exact aq.of_eq (atJ D.bool (by rw[hT,MQ (by simpa[aN]using hc) ay]))
theorem adY(h:300<s.length):dX s=false:=by unfold dX chars;split;rfl;split;rfl;cases ay:jo s with|none=>rfl|some l =>have:=B_ s.length s (atQ _) l ay;(have h1:¬l.length<=64:=by omega);simp[h1]
theorem MS(s:atG)(hs:s.length<1000000000):aU B 214 [.O s] (.bool (dX s)):=by refine bA Tryz.func214 Tryz.ntmps214 λU=>?_;refine go ?_;(have pd:(bif bif s==[46]then true else s==[46,46]then true else decide (300<(s.length:Int)))=decide (s=[46]\/s=[46,46]\/300<s.length):=by by_cases h1:s=[46];simp[h1];by_cases A:s=[46,46];simp[A];(have bV:(s==[46])=false:=by simpa using h1);(have b9:(s==[46,46])=false:=by simpa using A);rw[bV,b9];simp[h1,A];omega);refine aK _ rfl ?_ ?_<;>intro hc;refine go ?_;refine aq.of_eq (atJ D.bool ?_);have:=aua (pd.symm.trans hc);by_cases Z:300<s.length;rw[adY Z];rw[dX,atI (by rcases this with h|h|h;exact .inl h;exact .inr (.inl h);exact absurd h Z)];refine go ?_;have aw:=at2 (pd.symm.trans hc);refine go ?_;refine W.loop (α:={i:Nat // i<=s.length/\∀j (h:j<s.length),j<i->(s[j]!=47)=true}) (λx=>[(0,.O s),(3,u x.1)]) (λ_=>[]) (λx=>s.length-x.1) ⟨0,by simp⟩ ar trivial ?_;rintro⟨i,hi,ay⟩;dsimp only;refine go ?_;refine aK _ rfl ?_ ?_<;>intro hc;refine go ?_;(have aI:i<s.length:=by simpa using hc);refine go ?_;refine⟨s[i],λ_=>⟨by omega,by simp[aI]⟩,?_⟩;refine go ?_;have qR:=Sn s[i] 47 atz;refine aK _ rfl ?_ ?_<;>intro hc;refine go ?_;refine aq.of_eq (atJ D.bool ?_);(have Ak:s[i]=47:=by have:=qR.symm.trans hc;simpa using this);rw[dX,atI (.inr (.inr (Ak ▸ atO aI)))];refine go ?_;exact⟨⟨i+1,by omega,MR (q:=λb=>b !=47) (hi:=aI) (by have:=qR.symm.trans hc;simpa[bne]using this) ay⟩,ayo,ar,ak⟩;refine sH ?_;refine⟨_,_,λ_=>adW s hs,ar,?_⟩;refine go ?_;refine aq.of_eq (atJ D.bool ?_);(have ff:(47:UInt8)∉s:=λh=>by have:=MQ (q:=λb:UInt8=>b !=47) (by simpa using hc) ay;have:=auE.1 this 47 h;simp at this);rw[dX,atH (by rintro(h|h|h);exact aw (.inl h);exact aw (.inr (.inl h));exact ff h)];exact axm
structure Iq where
 path:atG
 adZ:Int
 ad0:Int
 ad1:Int
 ad2:Int
 gL:Bool
 deriving DecidableEq
def pk(b:Iq):D:=.agg [.O b.path,u b.adZ,u b.ad0,u b.ad1,u b.ad2,.bool b.gL]
structure fv where
 name:atG
 set:atG
 pl:atG
 pm:atG
 lP:atG
 Cc:Int
 Cd:Int
 fh:Int
 fP:Int
 c3:Int
 gL:List Iq
 dp:Int
 pn:Bool
 deriving DecidableEq
def ih(m:fv):D:=.agg [.O m.name,.O m.set,.O m.pl,.O m.pm,.O m.lP,u m.Cc,u m.Cd,u m.fh,u m.fP,u m.c3,.Q .none 6 (m.gL.map pk),u m.dp,.bool m.pn]
def Ir(m:fv):Bool:=decide (m.gL.length<=4)&&decide (m.name.length+m.set.length+m.pl.length+m.pm.length+m.lP.length<=2000)
theorem ad3(m:fv)(h:m.name.length+m.set.length+m.pl.length+m.pm.length+m.lP.length<1000000000):aU B 10 [ih m] (.bool (Ir m)):=by refine bA Tryz.func10 Tryz.ntmps10 λU=>?_;refine cl ?_;intro b;refine k7 ?_;intro b;apply cB;refine iX ?_;refine iE ?_;apply g2;refine iE ?_;apply g2;refine hv ?_;refine .inl ⟨λh=>by simp[du];omega,?_⟩;refine iE ?_;apply g2;refine hv ?_;refine .inl ⟨λh=>by simp[du];omega,?_⟩;refine iE ?_;apply g2;refine hv ?_;refine .inl ⟨λh=>by simp[du];omega,?_⟩;refine iE ?_;apply g2;refine hv ?_;refine .inl ⟨λh=>by simp[du];omega,?_⟩;refine ib ?_;refine iD ?_;refine aq.of_eq (atJ D.bool (a₂:=Ir m) ?_);unfold Ir;by_cases h1:m.gL.length<=4;by_cases A:m.name.length+m.set.length+m.pl.length+m.pm.length+m.lP.length<=2000;simp[h1,A];omega;simp[h1,A];omega;simp[h1];omega
variable{ds:List D}{a8:D->bE->Prop}
theorem c5.ad4{H:bE}{s:Nat}{o:aJ}(h:H s=some o)(hc:c1 B f ds (aL [(k,o)]) a8):c1 B f ds (gx H [(k,s)]) a8:=axx
theorem ad5(l:List Iq)(h:l.length<1000000):aU B 78 [.Q .none 6 (l.map pk)] (.Q .none 6 (l.map pk)):=by refine bA Tryz.func78 Tryz.ntmps78 λU=>?_;apply b4;apply nk;refine W.D' aM ?_;(conv=>whnf);refine .inr (af.Ht (bI:=140) aM rfl rfl rfl λkt nV=>?_);refine aK _ rfl ?_ ?_<;>intro hc;refine gj ?_;have pP:=nV hc;rw[pP];exact aq.nil;apply co;refine cl ?_;refine o' ?_;refine⟨by show(0+(l.map pk).length)*56<=_;simp;omega,by show 0+(l.map pk).length<=_;simp;omega,atD,λv=>?_⟩;refine iD ?_;exact aq.trans (aq.of_eq (atJ (D.Q _ 6) (au6 _))) aq.mL
theorem E6(p:α->Bool)(l:List α):(fd p l=-1/\∀j (h:j<l.length),p l[j]=false)\/∃(i:Nat) (h:i<l.length),fd p l=i/\p l[i]=true/\∀j (h:j<l.length),j<i->p l[j]=false:=by unfold fd;cases M:l.findIdx? p with|none=>exact .inl ⟨rfl,λj aa=>by simpa using avU.1 M _ (atO aa)⟩|some i =>obtain⟨h1,A,Z⟩:=avC.1 M;exact .inr ⟨i,h1,rfl,A,λj aa e9=>by simpa using Z j e9⟩
theorem off(f:Nat->Bool)(k:Nat)(h:f k=false):∃g:Nat->Bool,f=λj=>_root_.cond (Nat.beq j k) false (g j) :=
 ⟨f,funext λj=>by cases I:Nat.beq j k with|false=>rfl|true=>rw[auc I];exact h⟩
def ku(v k:Int):Bool:=qv .and .i64 (v.fdiv (2 ^ min k.toNat IntKind.i64.bits)) 1==1
theorem rV(v k:Int)(Y:0<=k):aU B 35 [u v,u k] (.bool (ku v k)):=by refine bA Tryz.func35 Tryz.ntmps35 λU=>?_;refine pa ?_;refine⟨λ_=>Y,?_⟩;refine go ?_;exact E
def MT(m:fv):Bool:=bif !ku m.fP 0 then(bif (bif ku m.fP 1 then true else ku m.fP 2)then true else decide ((0:Int)<((m.gL.map pk).length:Nat)))else false
def rW(m:fv):Bool :=
 if(bif decide (m.fP<1)then true else decide (15<m.fP))=true then false else if MT m=true then false else if ku m.fP 3=true then(bif m.dp==0 then true else m.dp==3)else m.dp==0
theorem E7(m:fv):aU B 32 [ih m] (.bool (rW m)):=by refine bA Tryz.func32 Tryz.ntmps32 λU=>?_;refine cl ?_;intro dC;refine oH ?_;refine go ?_;refine bs (rV m.fP 0 atz) ?_;refine bs (rV m.fP 3 atz) ?_;refine aK _ rfl ?_ ?_<;>intro hc;refine go ?_;exact aq.of_eq (atJ D.bool (by rw[rW,atI hc]));refine go ?_;(have h1:¬(bif decide (m.fP<1)then true else decide (15<m.fP))=true:=by rw[hc];decide);refine go ?_;refine bs (rV m.fP 1 atz) ?_;refine bs (rV m.fP 2 atz) ?_;refine aK (MT m) rfl ?_ ?_<;>intro hc;refine go ?_;exact aq.of_eq (atJ D.bool (by rw[rW,atH h1,atI hc]));refine go ?_;(have A:¬MT m=true:=by rw[hc];decide);refine go ?_;refine aK (ku m.fP 3) rfl ?_ ?_<;>intro hc;refine go ?_;exact aq.of_eq (atJ D.bool (by rw[rW,atH h1,atH A,atI hc]));refine go ?_;exact aq.of_eq (atJ D.bool (by rw[rW,atH h1,atH A,atH (by rw[hc];decide)]))
structure f0 where
 qS:Bool
 rock:Bool
 c3:Int
 gL:List Iq
 deriving DecidableEq
def rX(o:f0):D:=.agg [.bool o.qS,.bool o.rock,u o.c3,.Q .none 6 (o.gL.map pk)]
def gM(m:fv):f0:=if rW m=true/\ku m.fP 0=true then⟨ku m.fP 1,ku m.fP 2,m.c3,m.gL⟩else⟨false,false,0,[]⟩
def rY(o:f0):Int:=(if o.qS=true then 3 else 2)+(if 0<o.gL.length then 1 else 0)
theorem TY(m:fv)(I:m.gL.length<1000000):aU B 37 [ih m] (rX (gM m)):=by refine bA Tryz.func37 Tryz.ntmps37 λU=>?_;refine go ?_;intro dC;refine go ?_;intro cm;refine go ?_;refine bs (E7 m) ?_;refine bs (rV m.fP 0 atz) ?_;refine aK (!(rW m&&ku m.fP 0)) (atJ D.bool (by cases rW m<;>cases ku m.fP 0<;>rfl)) ?_ ?_<;>intro hc;refine go ?_;(have h:¬(rW m=true/\ku m.fP 0=true):=by revert hc;cases rW m<;>cases ku m.fP 0<;>simp);refine go ?_;rw[gM,atH h];exact aq.agg ⟨E,E,E,aq.nil,ak⟩;apply co;apply el;refine W.Bt aM 11 mixed atB ?_;refine go ?_;refine bs (rV m.fP 1 atz) ?_;refine bs (rV m.fP 2 atz) ?_;refine bs (ad5 m.gL I) ?_;(have h:rW m=true/\ku m.fP 0=true:=by revert hc;cases rW m<;>cases ku m.fP 0<;>simp);refine go ?_;rw[gM,atI h];exact E
theorem ad6(o:f0):aU B 36 [rX o] (u (rY o)):=by refine bA Tryz.func36 Tryz.ntmps36 λU=>?_;refine cl ?_;intro dC;refine cl ?_;refine W.lI (α:=Unit) (λx=>[(1,.box 1 dC 0),(3,u (if o.qS=true then 3 else 2))]) (λx=>[(1,.box dC (rX o).cells)]) ?_ ?_;refine go ?_;refine aK o.qS rfl ?_ ?_<;>intro hc;refine go ?_;exact⟨(),[(1,1)],⟨E,aq.of_eq (atJ (D.int .i64) (by rw[atI hc];rfl)),ak⟩,rfl,bc⟩;refine go ?_;exact⟨(),[(1,1)],⟨E,aq.of_eq (atJ (D.int .i64) (by rw[atH (by rw[hc];decide)])),ak⟩,rfl,bc⟩;rintro⟨⟩;refine go ?_;refine aK _ rfl ?_ ?_<;>intro hc;refine mS ?_;refine .inl ⟨λ_=>by simp only[du];split<;>omega,?_⟩;refine go ?_;(have h:0<o.gL.length:=by simpa using hc);exact aq.of_eq (atJ (D.int .i64) (by rw[rY,atI h]));refine go ?_;(have h:¬0<o.gL.length:=by simpa using hc);exact aq.of_eq (atJ (D.int .i64) (by rw[rY,atH h];simp))
def iG(n:Int):Int:=if 0<n.tmod 2048 then n.tdiv 2048+1 else n.tdiv 2048
theorem MU(n:Int)(h1:0<=n)(A:n<=9223372036854775807):aU B 40 [u n] (u (iG n)):=by refine bA Tryz.func40 Tryz.ntmps40 λU=>?_;refine pa ?_;refine⟨λ_=>by decide,?_⟩;refine go ?_;(have G:0<=n.tdiv 2048/\n.tdiv 2048<=9223372036854775806:=by rw[at6 h1];omega);refine g5 ?_;refine p3 ?_;refine⟨λ_=>by decide,?_⟩;refine go ?_;refine aK _ rfl ?_ ?_<;>intro hc;refine go ?_;exact aq.of_eq (atJ (D.int .i64) (by rw[iG,atI (aua hc)]));refine go ?_;exact aq.of_eq (atJ (D.int .i64) (by rw[iG,atH (at2 hc)]))
def vB(x:Int×Int):D:=.agg [u x.1,u x.2]
def vC(aj:List Bool):List D:=aj.map D.bool
def Ce(S C aY n:Int):Bool:=bif (bif (bif decide (aY<S)then true else decide (n<1))then true else decide (S+C<aY))then true else decide (S+C-aY<n)
theorem TZ{S C aY n:Int}(h:Ce S C aY n=false):S<=aY/\1<=n/\aY<=S+C/\n<=S+C-aY:=by unfold Ce at h;cases h1:decide (aY<S)<;>cases A:decide (n<1)<;>cases Z:decide (S+C<aY)<;>cases aG:decide (S+C-aY<n)<;>rw[h1,A,Z,aG]at h<;>first|(cases h;done)|(simp at h1 A Z aG;omega)
theorem ad7{S C aY n:Int}:Ce S C aY n=true↔aY<S\/n<1\/S+C<aY\/S+C-aY<n:=by constructor;intro h;by_cases h1:aY<S\/n<1\/S+C<aY\/S+C-aY<n;exact h1;exfalso;unfold Ce at h;rw[auk (λe=>h1 (.inl e)),auk (λe=>h1 (.inr (.inl e))),auk (λe=>h1 (.inr (.inr (.inl e)))),auk (λe=>h1 (.inr (.inr (.inr e))))]at h;cases h;intro h;cases I:Ce S C aY n with|true=>rfl|false=>have:=TZ I;omega
def br(l:List Int):List D:=l.map (D.int .i64)
def yw(S C:Int):Bool:=bif (bif (bif decide (0<=S)then decide (1<=C)else false)then decide (S<=4096)else false)then decide (C<=4096-S)else false
theorem MV{S C:Int}:yw S C=true↔0<=S/\1<=C/\S<=4096/\C<=4096-S:=by unfold yw;cases h1:decide (0<=S)<;>cases A:decide (1<=C)<;>cases Z:decide (S<=4096)<;>cases aG:decide (C<=4096-S)<;>simp at h1 A Z aG<;>simp<;>omega
def Is(S L k:Int):Bool:=bif k==S+256 then true else bif k==L-256 then true else k==L
def Cf(S L:Int)(i:Nat):List Int:=((List.range i).map λ(j:Nat)=>S+(j:Int)).filter (Is S L)
def yx(S C:Int):List Int:=if yw S C=true then Cf S (S+C-1) C.toNat else[]
theorem ad8(S L:Int)(i:Nat):(Cf S L i).length<=i:=by have:=aum (Is S L) ((List.range i).map λ(j:Nat)=>S+(j:Int));rw[atL,List.length_range]at this;exact this
def rZ(m:fv)(S C:Int):List Int:=if ku m.fP 3=true then yx S C else[]
theorem ad9(h:i<s.length):(s.take (i+1)).drop i=[s[i]]:=by rw[avI,atK h];simp only[Option.toList_some];rw[av1 atx,av7 atx];rfl
theorem ad_(s:atG)(c:UInt8)(hs:s.length<1000000000):aU B 68 [.O s,.int .u8 c.toNat] (.Q .none 1 (aN (cQ c [] s))):=by refine bA Tryz.func68 Tryz.ntmps68 λU=>?_;refine pa ?_;refine⟨ak,?_⟩;apply b4;refine p3 ?_;refine W.own 5 1000 1 9 rfl (λv=>?_);apply oG;refine W.ec (α:={x:Nat×List atG×atG // x.1<=s.length/\cQ c [] s=x.2.1++cQ c x.2.2 (s.drop x.1)/\x.2.1.length+x.2.2.length<=x.1}×Value) (λx=>[(0,.O s),(1,.int .u8 c.toNat),(7,u x.1.1.1),(6,.O x.1.1.2.2),(5,.Q (.own 1000 x.2) 1 (aN x.1.1.2.1))]) (λx=>[(1000,.own x.2 (aN x.1.1.2.1).length 1 9)]) (λx=>s.length-x.1.1.1) (⟨(0,[],[]),by simp,by simp,by simp⟩,v) [(1000,1000)] ⟨ar,rfl,bc⟩ ?_;rintro⟨⟨⟨i,Cg,part⟩,hi,nj,hlen⟩,v⟩;dsimp only at hi nj hlen⊢;refine f_ ?_;refine aK _ rfl ?_ ?_<;>intro hc;refine fg ?_;(have aI:i<s.length:=by simpa using hc);(have Al:(aN Cg).length=Cg.length:=by simp[aN]);have k':=auQ aI;refine gJ ?_;refine⟨s[i],λ_=>⟨by omega,by simp[aI]⟩,?_⟩;(conv=>whnf);(have qR:(((s[i].toNat:Nat):Int)==(c.toNat:Nat))=(s[i]==c):=by rw[aws];simp only[avp];constructor;intro h;exact UInt8.toNat.inj atw;intro h;rw[h]);refine aK _ rfl ?_ ?_<;>intro hc;refine cl ?_;refine nm ?_;refine⟨by show(_+1)*16<=_;omega,by show _+1<=_;omega,atD,λv=>?_⟩;apply kp;refine nl ?_;(have MW:s[i]=c:=by simpa using qR.symm.trans hc);exact⟨(⟨(i+1,Cg++[part],[]),by omega,by rw[nj,k',cQ,atI MW];simp,by simp;omega⟩,v),[(1000,23)],ayo,⟨E,E,E,E,aq.jK (by simp[aN];rfl),ak⟩,rfl,rfl,j2 (by simp[aN]),ak⟩;refine nl ?_;refine⟨λ_=>by omega,?_⟩;(conv=>whnf);refine nW ?_;refine nl ?_;(have MW:s[i]≠c:=by simpa using qR.symm.trans hc);(have hV:(s.take ((i:Int)+1).toNat).drop (i:Int).toNat=[s[i]]:=by rw[show((i:Int)+1).toNat=i+1 by omega,auj];exact ad9 aI);exact⟨(⟨(i+1,Cg,part++[s[i]]),by omega,by rw[nj,k',cQ,atH MW],by simp;omega⟩,v),[(1000,1000)],ayo,⟨E,E,E,aq.of_eq (atJ D.O (by rw[hV])),E,ak⟩,rfl,bc⟩;refine sH ?_;refine nm ?_;(have Al:(aN Cg).length=Cg.length:=by simp[aN]);refine⟨by show(_+1)*16<=_;omega,by show _+1<=_;omega,atD,λv=>?_⟩;refine iD ?_;(have aI:¬i<s.length:=by simpa using hc);rw[nj,av7 atw,cQ];exact aq.trans (aq.of_eq (atJ (D.Q _ 1) (by simp[aN];rfl))) aq.mL
theorem ad'(s:atG)(hs:s.length<1000000000):aU B 215 [.O s] (.bool (kR s)):=by refine bA Tryz.func215 Tryz.ntmps215 λU=>?_;apply b4;refine f_ ?_;refine nX ?_;refine aK _ rfl ?_ ?_<;>intro hc;refine gj ?_;refine aq.of_eq (atJ D.bool ?_);rw[kR,atI];by_cases h1:s.length<1;exact .inl h1;right;(have mW:¬(s.length:Int)<1:=by omega);simp[mW]at hc;omega;apply co;(have h1:¬(s.length<1\/128<s.length):=axZ);refine f_ ?_;refine aK _ rfl ?_ ?_<;>intro hc;refine gj ?_;exact aq.of_eq (atJ D.bool (by rw[kR,atH h1,atI (by simpa using hc)]));apply co;(have A:s≠[47]:=by simpa using hc);(have hT:kR s=(cQ 47 [] (gA s)).all Aj:=by rw[kR,atH h1,atH A]);have jE:=Io s;obtain⟨p_,E5⟩:=sW (c:=47) (gA s) [];(conv=>whnf);refine W.lI (α:=Unit) (λx=>[(0,.O (gA s))]) (λx=>[]) ?_ ?_;refine cl ?_;refine⟨s.getD 0 0,λ_=>⟨by omega,Ag s atw⟩,?_⟩;(conv=>whnf);have qR:=Sn (s.getD 0 0) 47 atz;refine aK _ rfl ?_ ?_<;>intro hc;refine mS ?_;refine p1 ?_;(have hcs:gA s=(s.take (s.length:Int).toNat).drop (1:Int).toNat:=by(have Ak:s.getD 0 0=47:=by simpa using qR.symm.trans hc);rw[auj,atX,show(1:Int).toNat=1 from rfl];cases s with|nil=>simp at h1|cons b r=>simp at Ak;simp[gA,Ak]);exact⟨(),[],⟨aq.of_eq (atJ D.O hcs.symm),ak⟩,rfl,ak⟩;refine fg ?_;(have hcs:gA s=s:=by(have Ak:s.getD 0 0≠47:=by simpa using qR.symm.trans hc);cases s with|nil=>rfl|cons b r=>simp at Ak;simp[gA,Ak]);exact⟨(),[],⟨aq.of_eq (atJ D.O hcs.symm),ak⟩,rfl,ak⟩;rintro⟨⟩;refine cl ?_;refine⟨[.O (gA s),.int .u8 (47:UInt8).toNat],_,λ_=>ad_ _ 47 atw,ar,?_⟩;refine nn ?_;refine W.loop (α:={i:Nat // i<=(cQ 47 [] (gA s)).length/\∀j (h:j<(cQ 47 [] (gA s)).length),j<i->Aj (cQ 47 [] (gA s))[j]=true}) (λx=>[(3,.Q .none 1 (aN (cQ 47 [] (gA s)))),(4,u x.1)]) (λ_=>[]) (λx=>(cQ 47 [] (gA s)).length-x.1) ⟨0,by simp⟩ ar trivial ?_;rintro⟨i,hi,ay⟩;dsimp only;refine f_ ?_;refine aK _ rfl ?_ ?_<;>intro hc;apply co;(have aI:i<(cQ 47 [] (gA s)).length:=by simpa[aN]using hc);have dg:=E5 _ (atO aI);refine gJ ?_;refine⟨λ_=>by simp[aN];omega,?_⟩;(conv=>whnf);refine⟨.O (cQ 47 [] (gA s))[i],λ_=>BH _ aI,?_⟩;refine hv ?_;refine⟨λ_=>by simp[aN];omega,?_⟩;refine mQ ?_;refine⟨.O (cQ 47 [] (gA s))[i],λ_=>BH _ aI,?_⟩;refine ib ?_;refine hv ?_;refine⟨λ_=>by simp[aN];omega,?_⟩;refine mQ ?_;refine⟨.O (cQ 47 [] (gA s))[i],λ_=>BH _ aI,?_⟩;refine mQ ?_;refine⟨[.O (cQ 47 [] (gA s))[i]],_,λh=>MS _ (by simp at dg;omega),ar,?_⟩;refine ib ?_;(conv=>whnf);have pd:=TX (cQ 47 [] (gA s))[i];refine aK _ rfl ?_ ?_<;>intro hc;refine gj ?_;exact aq.of_eq (atJ D.bool (by rw[hT,TW aI (by simpa using pd.symm.trans hc)]));refine rI ?_;exact⟨⟨i+1,by omega,MR (hi:=aI) (by simpa using pd.symm.trans hc) ay⟩,by show _-(i+1)<_-i;omega,ar,ak⟩;refine qG ?_;exact aq.of_eq (atJ D.bool (by rw[hT,MQ (by simpa[aN]using hc) ay]))
theorem po(a b:Bool):(bif a then true else b)=(a||b):=by cases a<;>rfl
theorem jp(a b:Bool):(bif a then b else false)=(a&&b):=by cases a<;>rfl
def g8(f:Nat->Int):Nat->Nat->Int
 |_,0=>0
 |i,k+1=>if f i=0 then g8 f (i+1) k else f i
theorem pp{f:Nat->Int}{n:Nat}(h:i<n)(M:f i≠0):g8 f i (n-i)=f i:=by obtain⟨k,Y⟩:∃k,n-i=k+1:=⟨n-i-1,by omega⟩;rw[Y,g8,atH M]
theorem pq{f:Nat->Int}{n:Nat}(h:i<n)(M:f i=0):g8 f i (n-i)=g8 f (i+1) (n-(i+1)):=by obtain⟨k,Y⟩:∃k,n-i=k+1:=⟨n-i-1,by omega⟩;rw[Y,g8,atI M,show n-(i+1)=k by omega]
theorem Am{f:Nat->Int}{n:Nat}(h:¬i<n):g8 f i (n-i)=0:=by rw[show n-i=0 by omega];rfl
def sX(n:ad)(l:Int):D:=.agg [.O n.name,u n.kind,.O n.dW,.O n.target,u n.cN,u n.n2,u n.n3,u n.n4,u n.n5,u n.n6,.Q .none 12 (n.J.map enc),.Q .none 2 (n.bO.map c4),u l]
def ub(n:ad)(l:Int):Bool:=(decide (n.kind<0)||decide (2<n.kind))||(l==1&&!(n.kind==0))
def vD(n:ad)(l:Int):Int:=if ub n l then 1 else 0
theorem aea(n:ad)(l:Int):aU B 127 [sX n l] (u (vD n l)):=by refine bA Tryz.func127 Tryz.ntmps127 λU=>?_;refine go ?_;intro b;refine go ?_;refine aK (ub n l) (by simp only[ub,<-po,<-jp];rfl) ?_ ?_<;>intro hc;refine go ?_;exact dt (by rw[vD,hc];rfl);refine go ?_;exact dt (by rw[vD,hc];rfl)
def uc(n:ad)(l:Int):Bool:=(l==1&&!(n.name==[]))||(decide (1<l)&&!dX n.name)
def vE(n:ad)(l:Int):Int:=if uc n l then 4 else 0
theorem aeb(a1:db B)(n:ad)(l:Int)(aw:n.name.length<1000000000):aU B 128 [sX n l] (u (vE n l)):=by refine bA Tryz.func128 Tryz.ntmps128 λU=>?_;refine go ?_;intro b;refine go ?_;refine bs (yv a1 _ aw) ?_;refine aK (uc n l) (by simp only[uc,<-po,<-jp];rfl) ?_ ?_<;>intro hc;refine go ?_;exact dt (by rw[vE,hc];rfl);refine go ?_;exact dt (by rw[vE,hc];rfl)
def ud(n:ad):Bool:=((!(n.kind==1)&&(!(n.dW==[])||decide (0<(n.bO.length:Int))))||(!(n.kind==2)&&!(n.target==[])))||(!(n.kind==0)&&decide (0<(n.J.length:Int)))
def vF(n:ad):Int:=if ud n then 1 else 0
theorem aec(n:ad)(l:Int):aU B 129 [sX n l] (u (vF n)):=by refine bA Tryz.func129 Tryz.ntmps129 λU=>?_;refine go ?_;intro b;refine go ?_;intro cm;refine go ?_;refine aK (ud n) ?_ (λhc=>?_) (λhc=>?_);simp only[ud,<-po,<-jp];rw[show n.bO.length=(n.bO.map c4).length by simp,show n.J.length=(n.J.map enc).length by simp];rfl;refine go ?_;exact dt (by rw[vF,hc];rfl);refine go ?_;exact dt (by rw[vF,hc];rfl)
def ue(n:ad):Bool:=n.kind==2&&!kR n.target
def vG(n:ad):Int:=if ue n then 4 else 0
theorem aed(a1:db B)(n:ad)(l:Int)(aw:n.target.length<1000000000):aU B 130 [sX n l] (u (vG n)):=by refine bA Tryz.func130 Tryz.ntmps130 λU=>?_;refine go ?_;intro b;refine go ?_;refine bs (Ip a1 _ aw) ?_;refine aK (ue n) (by simp only[ue,<-po,<-jp];rfl) ?_ ?_<;>intro hc;refine go ?_;exact dt (by rw[vG,hc];rfl);refine go ?_;exact dt (by rw[vG,hc];rfl)
def sY(n a b:Int):Bool:=decide (a<=n)&&decide (n<=b)
theorem Ch(n a b:Int):aU B 195 [u n,u a,u b] (.bool (sY n a b)):=by refine bA Tryz.func195 Tryz.ntmps195 λU=>?_;refine go ?_;exact aq.of_eq (atJ D.bool (jp _ _))
def r0(n:ad):Bool:=((((!sY n.cN 0 4095||!sY n.n2 0 65535)||!sY n.n3 0 65535)||!sY n.n4 315532800 4102444799)||!sY n.n5 (-1048576) 1048576)||!sY n.n6 0 15
def vH(n:ad):Int:=if r0 n then 2 else 0
theorem aee(n:ad)(l:Int):aU B 131 [sX n l] (u (vH n)):=by refine bA Tryz.func131 Tryz.ntmps131 λU=>?_;refine go ?_;intro b;refine go ?_;intro cm;refine go ?_;refine bs (Ch _ _ _) ?_;refine bs (Ch _ _ _) ?_;refine bs (Ch _ _ _) ?_;refine bs (Ch _ _ _) ?_;refine bs (Ch _ _ _) ?_;refine bs (Ch _ _ _) ?_;refine aK (r0 n) (by simp only[r0,<-po];rfl) ?_ ?_<;>intro hc;refine go ?_;exact dt (by rw[vH,hc];rfl);refine go ?_;exact dt (by rw[vH,hc];rfl)
theorem aef(n:ad):aU B 216 [aE n] (.bool (!r0 n)):=by refine bA Tryz.func216 Tryz.ntmps216 λU=>?_;refine go ?_;intro b;refine go ?_;refine aq.of_eq (atJ D.bool ?_);simp only[r0,sY,Bool.not_or,Bool.not_not,<-jp];simp only[jp,Bool.and_assoc]
theorem E8:∀a b:atG,Lib.compareBytes a b=0↔a=b
 |[],[]=>by simp[Lib.compareBytes]
 |[],_::_=>by simp[Lib.compareBytes]
 |_::_,[]=>by simp[Lib.compareBytes]
 |a::xs,b::aS=>by have aZ:=E8 xs aS;simp only[Lib.compareBytes,avW];by_cases h1:a<b;rw[atI h1];exact⟨λh=>by simp at h,λh=>by rw[h.1]at h1;exact absurd h1 (awq _)⟩;rw[atH h1];by_cases A:b<a;rw[atI A];exact⟨λh=>by simp at h,λh=>by rw[h.1]at A;exact absurd A (awq _)⟩;rw[atH A,aZ];have:a=b:=UInt8.le_antisymm (awK.1 A) (awK.1 h1);simp[this]
theorem E9:∀a b:atG,Lib.compareBytes a b=1↔Op.bytesLess b a=true
 |[],[]=>by simp[Lib.compareBytes,Op.bytesLess]
 |[],_::_=>by simp[Lib.compareBytes,Op.bytesLess]
 |_::_,[]=>by simp[Lib.compareBytes,Op.bytesLess]
 |a::xs,b::aS=>by have aZ:=E9 xs aS;simp only[Lib.compareBytes,Op.bytesLess,au5,atN,aut,avp];by_cases h1:a<b;rw[atI h1];refine⟨λh=>by simp at h,λh=>?_⟩;rcases h with h|⟨h,_⟩;exact absurd (UInt8.lt_trans h h1) (awq _);rw[h]at h1;exact absurd h1 (awq _);rw[atH h1];by_cases A:b<a;rw[atI A];simp[A];rw[atH A,aZ];have:b=a:=UInt8.le_antisymm (awK.1 h1) (awK.1 A);simp[this,awq]
theorem T0:∀a b:atG,Lib.compareBytes a b=-1\/Lib.compareBytes a b=0\/Lib.compareBytes a b=1
 |[],[]=>by simp[Lib.compareBytes]
 |[],_::_=>by simp[Lib.compareBytes]
 |_::_,[]=>by simp[Lib.compareBytes]
 |a::xs,b::aS=>by have aZ:=T0 xs aS;simp only[Lib.compareBytes];split;simp;split;simp;exact aZ
def p'(a b:atG):Int:=if a=b then 5 else if Op.bytesLess b a then 1 else 0
theorem T1(a b:atG):aU B 196 [.O a,.O b] (u (p' a b)):=by refine bA Tryz.func196 Tryz.ntmps196 λU=>?_;apply b4;refine p3 ?_;refine⟨_,_,λ_=>TM a b,ar,?_⟩;refine go ?_;refine aK _ rfl ?_ ?_<;>intro hc;refine go ?_;exact dt (by rw[p',atI ((E8 a b).1 (by simpa using hc))]);refine go ?_;(have h0:a≠b:=λe=>by have:=(E8 a b).2 e;rw[this]at hc;simp at hc);refine go ?_;refine aK _ rfl ?_ ?_<;>intro hc;refine go ?_;exact dt (by rw[p',atH h0,atI ((E9 a b).1 (by simpa using hc))]);refine go ?_;exact dt (by rw[p',atH h0,atH];intro e;have:=(E9 a b).2 e;rw[this]at hc;simp at hc)
def gT(n:ad)(i:Nat):np:=n.bO.getD i default
def qa(n:ad)(i:Nat):ad:=n.J.getD i default
theorem uf(n:ad)(h:i<n.bO.length):(n.bO.map c4)[i]?=some (c4 (gT n i)):=by simp[gT,List.getD,h]
theorem Ci(n:ad)(h:i<n.J.length):(n.J.map enc)[i]?=some (aE (qa n i)):=by rw[<-rJ];simp[qa,List.getD,h]
theorem w5(h:0<i):((i:Int)-1).toNat=i-1:=by omega
theorem T2(n:ad)(h:i<n.bO.length):(gT n i).name.length+(gT n i).target.length+2<=aC n:=by
 have h1:=H0 h;have A:=lR n;have:gT n i=n.bO[i]:=by simp[gT,List.getD,h]
 rw[this];omega
theorem E_(n:ad):2*n.bO.length+2<=aC n:=by have:=EG n.bO;have:=lR n;omega
def r1(n:ad)(l:Int):Bool:=((decide (16<l)||decide (262144<(n.dW.length:Int)))||decide (64<(n.J.length:Int)))||decide (4<(n.bO.length:Int))
def pr(n:ad)(i:Nat):Int:=if decide (262144<((gT n i).target.length:Int))then 7 else 0
def nv(n:ad)(l:Int):Int:=if r1 n l then 7 else g8 (pr n) 0 n.bO.length
theorem aeg(n:ad)(l:Int)(bC:aC n<1000000000):aU B 132 [sX n l] (u (nv n l)):=by refine bA Tryz.func132 Tryz.ntmps132 λU=>?_;refine go ?_;intro b;refine go ?_;intro cm;refine go ?_;refine aK (r1 n l) ?_ (λhc=>?_) (λhc=>?_);simp only[r1,<-po,<-jp];rw[show n.bO.length=(n.bO.map c4).length by simp,show n.J.length=(n.J.map enc).length by simp];rfl;refine go ?_;exact dt (by rw[nv,hc];rfl);refine go ?_;(have fJ:nv n l=g8 (pr n) 0 (n.bO.length-0):=by rw[nv,hc];rfl);have eJ:=E_ n;refine go ?_;refine W.loop (α:={i:Nat // i<=n.bO.length/\nv n l=g8 (pr n) i (n.bO.length-i)}) (λx=>[(30,.Q .none 2 (n.bO.map c4)),(31,u (n.bO.map c4).length),(32,u x.1)]) (λ_=>[]) (λx=>n.bO.length-x.1) ⟨0,by omega,fJ⟩ ar trivial ?_;rintro⟨i,hi,ay⟩;dsimp only;refine go ?_;refine aK _ rfl ?_ ?_<;>intro hc;refine fg ?_;(have aI:i<n.bO.length:=by simpa using hc);refine vh ?_;refine⟨c4 (gT n i),λ_=>uf n aI,?_⟩;refine go ?_;intro eR;refine go ?_;refine aK _ rfl ?_ ?_<;>intro hc;refine go ?_;(have M:pr n i=7:=by rw[pr,atI hc]);exact dt (by rw[ay,pp aI (by rw[M];decide),M]);refine go ?_;exact⟨⟨i+1,by omega,by rw[ay,pq aI (by rw[pr,hc];rfl)]⟩,by show _-(i+1)<_-i;omega,ar,ak⟩;exact ax6
theorem aeh(n:ad)(l:Int)(bC:aC n<1000000000):aU B 217 [aE n,u l] (.bool (!(nv n l==0))):=by refine bA Tryz.func217 Tryz.ntmps217 λU=>?_;refine go ?_;intro b;refine go ?_;refine aK (r1 n l) ?_ (λhc=>?_) (λhc=>?_);simp only[r1,<-po,<-jp];rw[show n.bO.length=(n.bO.map c4).length by simp,show n.J.length=(n.J.map enc).length by simp];rfl;refine go ?_;exact aq.of_eq (atJ D.bool (by rw[nv,hc];rfl));refine go ?_;(have fJ:nv n l=g8 (pr n) 0 (n.bO.length-0):=by rw[nv,hc];rfl);have eJ:=E_ n;refine go ?_;refine W.loop (α:={i:Nat // i<=n.bO.length/\nv n l=g8 (pr n) i (n.bO.length-i)}) (λx=>[(2,.box 2 b 0),(5,u x.1)]) (λ_=>[(2,.box b [.O n.name,u n.kind,.O n.dW,.O n.target,u n.cN,u n.n2,u n.n3,u n.n4,u n.n5,u n.n6,.Q .none 12 (n.J.map enc),.Q .none 2 (n.bO.map c4)])]) (λx=>n.bO.length-x.1) ⟨0,by omega,fJ⟩ ar ⟨rfl,ak⟩ ?_;rintro⟨i,hi,ay⟩;dsimp only;refine go ?_;refine aK _ rfl ?_ ?_<;>intro hc;refine fg ?_;(have aI:i<n.bO.length:=by simpa using hc);refine kq ?_;apply b4;refine mg ?_;refine⟨c4 (gT n i),λ_=>uf n aI,?_⟩;refine go ?_;refine aK _ rfl ?_ ?_<;>intro hc;refine go ?_;(have M:pr n i=7:=by rw[pr,atI hc]);exact aq.of_eq (atJ D.bool (by rw[ay,pp aI (by rw[M];decide),M];rfl));refine go ?_;exact⟨⟨i+1,by omega,by rw[ay,pq aI (by rw[pr,hc];rfl)]⟩,by show _-(i+1)<_-i;omega,ar,⟨rfl,ak⟩⟩;refine go ?_;exact aq.of_eq (atJ D.bool (by rw[ay,Am (by simpa using hc)];rfl))
def ps(n:ad)(i:Nat):Int:=if dX (gT n i).name then(if 0<i then p' (gT n (i-1)).name (gT n i).name else 0)else 4
def Cj(n:ad):Int:=g8 (ps n) 0 n.bO.length
theorem aei(a1:db B)(n:ad)(l:Int)(bC:aC n<1000000000):aU B 133 [sX n l] (u (Cj n)):=by refine bA Tryz.func133 Tryz.ntmps133 λU=>?_;refine go ?_;intro b;refine go ?_;have eJ:=E_ n;refine go ?_;refine W.loop (α:={i:Nat // i<=n.bO.length/\Cj n=g8 (ps n) i (n.bO.length-i)}) (λx=>[(1,.box 1 b 0),(8,.Q .none 2 (n.bO.map c4)),(9,u (n.bO.map c4).length),(10,u x.1)]) (λ_=>[(1,.box b [.O n.name,u n.kind,.O n.dW,.O n.target,u n.cN,u n.n2,u n.n3,u n.n4,u n.n5,u n.n6,.Q .none 12 (n.J.map enc),.Q .none 2 (n.bO.map c4),u l])]) (λx=>n.bO.length-x.1) ⟨0,by omega,rfl⟩ ar ⟨rfl,ak⟩ ?_;rintro⟨i,hi,ay⟩;dsimp only;refine go ?_;refine aK _ rfl ?_ ?_<;>intro hc;refine fg ?_;(have aI:i<n.bO.length:=by simpa using hc);have iT:=T2 n aI;refine vh ?_;refine⟨c4 (gT n i),λ_=>uf n aI,?_⟩;refine go ?_;intro eR;apply cB;refine f_ ?_;refine eB ?_;refine⟨[.O (gT n i).name],_,λ_=>yv a1 _ atw,ar,?_⟩;refine aK _ rfl ?_ ?_<;>intro hc;refine go ?_;(have M:ps n i=4:=by rw[ps,atH (by simpa using hc)]);exact dt (by rw[ay,pp aI (by rw[M];decide),M]);refine go ?_;(have cD:dX (gT n i).name=true:=by simpa using hc);refine go ?_;refine aK _ rfl ?_ ?_<;>intro hc;refine go ?_;(have kP:0<i:=by simpa using hc);(have M:ps n i=p' (gT n (i-1)).name (gT n i).name:=by rw[ps,atI cD,atI kP]);refine W.u' aM mixed atB ?_;apply cB;refine k6 ?_;refine mR ?_;refine⟨c4 (gT n (i-1)),λ_=>by rw[w5 kP];exact uf n atw,?_⟩;refine go ?_;refine bs (T1 _ _) ?_;refine aK _ rfl ?_ ?_<;>intro hc;refine go ?_;exact dt (by rw[ay,pp aI (by rw[M];simpa using hc),M]);refine go ?_;exact⟨⟨i+1,by omega,by rw[ay,pq aI (by rw[M];simpa using hc)]⟩,by show _-(i+1)<_-i;omega,ar,⟨rfl,ak⟩⟩;refine go ?_;(have M:ps n i=0:=by rw[ps,atI cD,atH (by simpa using hc)]);exact⟨⟨i+1,by omega,by rw[ay,pq aI M]⟩,by show _-(i+1)<_-i;omega,ar,⟨rfl,ak⟩⟩;exact ax6
def r2(n:ad)(i:Nat):Int:=p' (qa n (i-1)).name (qa n i).name
def yy(n:ad):Int:=g8 (r2 n) 1 (n.J.length-1)
theorem aej(n:ad)(l:Int)(bC:aC n<1000000000):aU B 134 [sX n l] (u (yy n)):=by refine bA Tryz.func134 Tryz.ntmps134 λU=>?_;refine go ?_;intro b;refine go ?_;have eJ:=vq n;refine go ?_;refine W.loop (α:={i:Nat // 1<=i/\i<=n.J.length+1/\yy n=g8 (r2 n) i (n.J.length-i)}) (λx=>[(1,.box 1 b 0),(3,u x.1)]) (λ_=>[(1,.box b [.O n.name,u n.kind,.O n.dW,.O n.target,u n.cN,u n.n2,u n.n3,u n.n4,u n.n5,u n.n6,.Q .none 12 (n.J.map enc),.Q .none 2 (n.bO.map c4),u l])]) (λx=>n.J.length+1-x.1) ⟨1,by omega,by omega,rfl⟩ ar ⟨rfl,ak⟩ ?_;rintro⟨i,n0,hi,ay⟩;dsimp only;refine go ?_;refine aK _ rfl ?_ ?_<;>intro hc;refine fg ?_;(have aI:i<n.J.length:=by simpa using hc);refine kq ?_;refine oH ?_;apply cB;refine k6 ?_;refine mR ?_;refine⟨aE (qa n (i-1)),λ_=>by rw[w5 atw];exact Ci n atw,?_⟩;refine mg ?_;refine⟨aE (qa n i),λ_=>Ci n aI,?_⟩;refine go ?_;refine bs (T1 _ _) ?_;refine aK _ rfl ?_ ?_<;>intro hc;refine go ?_;exact dt (by rw[ay,pp aI (by rw[r2];simpa using hc),r2]);refine go ?_;exact⟨⟨i+1,by omega,by omega,by rw[ay,pq aI (by rw[r2];simpa using hc)]⟩,by show _+1-(i+1)<_+1-i;omega,ar,⟨rfl,ak⟩⟩;exact ax6
def eO(n:ad)(l:Int):Nat->Int
 |0=>vD n l
 |1=>vE n l
 |2=>vF n
 |3=>vG n
 |4=>vH n
 |5=>nv n l
 |6=>Cj n
 |_=>yy n
def one(n:ad)(l:Int):Int:=g8 (eO n l) 0 8
theorem aek(a1:db B)(n:ad)(l:Int)(bC:aC n+n.name.length<1000000000)(hi:i<8):aU B (127+i) [sX n l] (u (eO n l i)):=by have av:=lR n;match i,hi with|0,_=>exact aea n l|1,_=>exact aeb a1 n l atw|2,_=>exact aec n l|3,_=>exact aed a1 n l atw|4,_=>exact aee n l|5,_=>exact aeg n l atw|6,_=>exact aei a1 n l atw|7,_=>exact aej n l atw
def An(n:ad)(l:Int):List D:=(List.range 8).map λi=>.fn (.func (127+i)) [sX n l] []
theorem ael(n:ad)(l:Int)(hi:i<8):(An n l)[i]?=some (.fn (.func (127+i)) [sX n l] []):=by simp[An,hi]
def MX(bF b_:Nat):EH (Int×atG):=⟨λs=>.box bF [u s.1],λs=>.box b_ [.O s.2]⟩
def gU(n:ad)(p:atG)(l:Int)(s:Int×atG):Bool×(Int×atG):=if one n l=0 then(true,(0,s.2))else(false,(one n l,p))
theorem aem(a1:db B)(bF b_:Nat)(n:ad)(p:atG)(l:Int)(s:Int×atG)(bC:aC n+n.name.length<1000000000):c1 B 126 ([aE n,.O p,u l]++[.box 2000 bF 0,.box 2001 b_ 0]) ((MX bF b_).H s) λd aP=>d=.bool (gU n p l s).1/\aP=(MX bF b_).H (gU n p l s).2:=by refine jJ Tryz.func126 Tryz.ntmps126 λU=>?_;refine go ?_;intro b;refine go ?_;intro cm;refine go ?_;refine W.loop (α:={x:Nat×Int // x.1<=8/\(0<x.1->x.2=0)/\one n l=g8 (eO n l) x.1 (8-x.1)}) (λx=>[(1,.O p),(3,.box 2000 bF 0),(4,.box 2001 b_ 0),(31,.Q .dV 1 (An n l)),(32,u (An n l).length),(33,u x.1.1)]) (λx=>[(2000,.box bF [u x.1.2]),(2001,.box b_ [.O s.2])]) (λx=>8-x.1.1) ⟨(0,s.1),by omega,by simp,rfl⟩ ar ⟨rfl,bc⟩ ?_;rintro⟨⟨i,e⟩,hi,ao,ay⟩;dsimp only at hi ao ay⊢;refine go ?_;refine aK _ rfl ?_ ?_<;>intro hc;refine fg ?_;(have aI:i<8:=by simp[An]at hc;omega);refine gJ ?_;refine⟨λ_=>by simp[An];omega,?_⟩;refine go ?_;refine⟨.fn (.func (127+i)) [sX n l] [],λ_=>ael n l aI,?_⟩;refine go ?_;refine bs (aek a1 n l bC aI) ?_;refine aK _ rfl ?_ ?_<;>intro hc;refine iX ?_;refine cl ?_;(have a7:eO n l i≠0:=by simpa using hc);(have h1:one n l=eO n l i:=by rw[ay,pp aI a7]);(have bN:gU n p l s=(false,(eO n l i,p)):=by rw[gU,atH (by rw[h1];exact a7),h1]);refine W.gQ [(8,.bool false)] [(2000,.box bF [u (eO n l i)]),(2001,.box b_ [.O p])] [(2000,2000),(2001,2001)] ⟨ar,rfl,bc⟩ ?_;refine go ?_;exact⟨_,E,by rw[bN];rfl,by rw[bN];rfl⟩;refine go ?_;(have h0:eO n l i=0:=by simpa using hc);exact⟨⟨(i+1,0),by omega,λ_=>rfl,by rw[ay,pq aI h0]⟩,by show 8-(i+1)<8-i;omega,ar,⟨atJ (λV=>some (aJ.box bF [u V])) h0,rfl,ak⟩⟩;refine sH ?_;(have fZ:¬i<8:=by simp[An]at hc;omega);(have h1:one n l=0:=by rw[ay,Am fZ]);have ob:e=0:=ao atw;subst ob;(have bN:gU n p l s=(true,(0,s.2)):=by rw[gU,atI h1]);refine W.gQ [(8,.bool true)] [(2000,.box bF [u 0]),(2001,.box b_ [.O s.2])] [(2000,2000),(2001,2001)] ⟨ar,rfl,bc⟩ ?_;refine go ?_;exact⟨_,E,by rw[bN];rfl,by rw[bN];rfl⟩
def sZ(n:ad):atG×Int:=if(256:Int)<fC n then([],7)else((fK gU n [] 1 (0,[])).2.2,(fK gU n [] 1 (0,[])).2.1)
theorem aen(a1:db B)(n:ad)(bC:aC n+n.name.length<10000000):aU B 82 [aE n] (.bp [.O (sZ n).1,u (sZ n).2]):=by refine bA Tryz.func82 Tryz.ntmps82 λU=>?_;refine go ?_;intro b;refine go ?_;refine bs (adh n bC) ?_;refine aK _ rfl ?_ ?_<;>intro hc;refine go ?_;exact⟨aq.of_eq (by rw[sZ,atI (by simpa using hc)];rfl),dt (by rw[sZ,atI (by simpa using hc)]),ak⟩;refine go ?_;intro b_;refine go ?_;intro bF;refine go ?_;refine .inr (af.call rfl [aE n,.O [],u 1,.fn (.func 126) [] [.box 2000 bF 0,.box 2001 b_ 0]] [(2000,5),(2001,4)] (S_ (MX bF b_) gU 126 [.box 2000 bF 0,.box 2001 b_ 0] (λn p l s I al=>aem a1 bF b_ n p l s atw) _ n [] 1 (0,[]) (auy _) atx atw) rfl ⟨E,E,E,aq.fn trivial ⟨aq.box,aq.box,ak⟩,ak⟩ ?_);rintro d aP ⟨rfl,rfl⟩;refine⟨_,E,?_⟩;refine oH ?_;refine go ?_;exact⟨aq.of_eq (by rw[sZ,atH (by simpa using hc)];rfl),dt (by rw[sZ,atH (by simpa using hc)]),ak⟩
def valid(n:ad):Bool:=(sZ n).2==0
theorem Ao(a1:db B)(n:ad)(bC:aC n+n.name.length<10000000):aU B 51 [aE n] (.bool (valid n)):=by refine bA Tryz.func51 Tryz.ntmps51 λU=>?_;refine go ?_;intro b;refine go ?_;refine bs (aen a1 n bC) ?_;exact E
def yz(n:ad):List D:=[.O n.name,u n.kind,.O n.dW,.O n.target,u n.cN,u n.n2,u n.n3,u n.n4,u n.n5,u n.n6,.Q .none 12 (n.J.map enc),.Q .none 2 (n.bO.map c4)]
theorem T3(n:ad)(l:Int):one n l=g8 (eO n l) 0 (8-0):=rfl
theorem T4(n:ad):∀{k i:Nat},g8 (pr n) i k≠0->g8 (pr n) i k=7
 |0,i,h=>absurd rfl h
 |k+1,i,h=>by unfold g8 at h⊢;split;rename_i h0;rw[atI h0]at h;exact T4 n h;rename_i h0;unfold pr at h0⊢;split;rfl;rename_i h1;rw[atH h1]at h0;exact absurd rfl h0
theorem aeo(n:ad)(l:Int)(bC:aC n+n.name.length<10000000):aU B 149 [aE n,u l] (u (one n l)):=by refine bA Tryz.func149 Tryz.ntmps149 λU=>?_;refine cl ?_;intro b;have av:=lR n;have eS:=vq n;have eJ:=E_ n;refine p4 ?_;refine iE ?_;refine ib ?_;apply g2;apply g2;refine iE ?_;refine nX ?_;refine tU ?_;refine aK (ub n l) (by simp only[ub,<-po,<-jp];rfl) ?_ ?_<;>intro hc;refine gj ?_;(have ae:eO n l 0=1:=by rw[eO,vD,hc];rfl);exact dt (by rw[T3,pp atw (by rw[ae];decide),ae]);apply co;(have gB:one n l=g8 (eO n l) 1 (8-1):=by rw[T3,pq atw (by rw[eO,vD,hc];rfl)]);refine f_ ?_;refine iE ?_;refine ib ?_;apply g2;apply g2;refine iE ?_;refine mQ ?_;refine⟨[.O n.name],_,λh=>MS _ atw,ar,?_⟩;refine nX ?_;refine tU ?_;refine aK (uc n l) (by simp only[uc,<-po,<-jp];rfl) ?_ ?_<;>intro hc;refine gj ?_;(have ae:eO n l 1=4:=by rw[eO,vE,hc];rfl);exact dt (by rw[gB,pp atw (by rw[ae];decide),ae]);apply co;(have j4:one n l=g8 (eO n l) 2 (8-2):=by rw[gB,pq atw (by rw[eO,vE,hc];rfl)]);refine p4 ?_;refine iE ?_;apply g2;apply g2;refine iE ?_;apply g2;refine nX ?_;refine tU ?_;refine iE ?_;apply g2;apply g2;refine iE ?_;refine nX ?_;refine tU ?_;refine iE ?_;apply g2;apply g2;refine iE ?_;apply g2;refine nX ?_;refine tU ?_;refine aK (ud n) ?_ (λhc=>?_) (λhc=>?_);simp only[ud,<-po,<-jp];rw[show n.bO.length=(n.bO.map c4).length by simp,show n.J.length=(n.J.map enc).length by simp];rfl;refine gj ?_;(have ae:eO n l 2=1:=by rw[eO,vF,hc];rfl);exact dt (by rw[j4,pp atw (by rw[ae];decide),ae]);apply co;(have pt:one n l=g8 (eO n l) 3 (8-3):=by rw[j4,pq atw (by rw[eO,vF,hc];rfl)]);refine p4 ?_;refine iE ?_;refine mQ ?_;refine⟨[.O n.target],_,λh=>ad' _ atw,ar,?_⟩;refine ib ?_;refine aK (ue n) (by simp only[ue,<-po,<-jp];rfl) ?_ ?_<;>intro hc;refine gj ?_;(have ae:eO n l 3=4:=by rw[eO,vG,hc];rfl);exact dt (by rw[pt,pp atw (by rw[ae];decide),ae]);apply co;(have It:one n l=g8 (eO n l) 4 (8-4):=by rw[pt,pq atw (by rw[eO,vG,hc];rfl)]);refine f_ ?_;refine eB ?_;refine⟨[aE n],_,λ_=>aef n,ar,?_⟩;refine aK (r0 n) ((show _=D.bool (!(!r0 n))from rfl).trans (atJ D.bool (Bool.not_not _))) ?_ ?_<;>intro hc;refine gj ?_;(have ae:eO n l 4=2:=by rw[eO,vH,hc];rfl);exact dt (by rw[It,pp atw (by rw[ae];decide),ae]);apply co;(have MY:one n l=g8 (eO n l) 5 (8-5):=by rw[It,pq atw (by rw[eO,vH,hc];rfl)]);refine f_ ?_;refine eB ?_;refine⟨[aE n,u l],_,λ_=>aeh n l atw,ar,?_⟩;refine aK _ rfl ?_ ?_<;>intro hc;refine gj ?_;(have ae:eO n l 5=7:=by rw[eO];(have oa:nv n l≠0:=by simpa using hc);unfold nv at oa⊢;split;rfl;rename_i h;rw[atH h]at oa;exact T4 n oa);exact dt (by rw[MY,pp atw (by rw[ae];decide),ae]);apply co;(have E':one n l=g8 (eO n l) 6 (8-6):=by rw[MY,pq atw (by rw[eO];simpa using hc)]);refine nn ?_;refine W.loop (α:={i:Nat // i<=n.bO.length/\Cj n=g8 (ps n) i (n.bO.length-i)}) (λx=>[(2,.box 2 b 0),(5,u x.1)]) (λ_=>[(2,.box b (yz n))]) (λx=>n.bO.length-x.1) ⟨0,by omega,rfl⟩ ar ⟨rfl,ak⟩ ?_;rintro⟨i,hi,ay⟩;dsimp only;refine p4 ?_;refine aK _ rfl ?_ ?_<;>intro hc;refine fg ?_;(have aI:i<n.bO.length:=by simpa using hc);have iT:=T2 n aI;(have MZ:∀e,ps n i=e->e≠0->one n l=e:=λe ao h0=>by(have h1:eO n l 6=e:=by rw[eO,ay,pp aI (by rw[ao];exact h0),ao]);rw[E',pp atw (by rw[h1];exact h0),h1]);refine kq ?_;refine f_ ?_;refine mg ?_;refine⟨c4 (gT n i),λ_=>uf n aI,?_⟩;(conv=>whnf);refine⟨[.O (gT n i).name],_,λ_=>MS _ atw,ar,?_⟩;refine aK _ rfl ?_ ?_<;>intro hc;refine gj ?_;exact dt (MZ 4 (by rw[ps,atH (by simpa using hc)]) atz).symm;apply co;(have cD:dX (gT n i).name=true:=by simpa using hc);refine Ek ?_;refine iE ?_;refine hv ?_;refine⟨λh=>by simp at h⊢;omega,?_⟩;refine hv ?_;refine⟨c4 (gT n i),λ_=>uf n aI,?_⟩;refine iE ?_;apply g2;refine g5 ?_;refine hv ?_;refine⟨λh=>by simp at h⊢;omega,?_⟩;refine hv ?_;refine⟨c4 (gT n (i-1)),λh=>by rw[w5 (by simpa using h)];exact uf n atw,?_⟩;refine nX ?_;refine aK _ rfl ?_ ?_<;>intro hc;refine gj ?_;(have A:0<i/\(gT n i).name=(gT n (i-1)).name:=axN);exact dt (MZ 5 (by rw[ps,atI cD,atI A.1,p',atI A.2.symm]) atz).symm;apply co;(have a7:0<i->(gT n (i-1)).name≠(gT n i).name:=λh0 e=>by(have M0:decide ((0:Int)<i)=true:=by simp;omega);rw[M0,e]at hc;simp at hc);refine oH ?_;refine iE ?_;refine hv ?_;refine⟨λh=>by simp at h⊢;omega,?_⟩;refine hv ?_;refine⟨c4 (gT n i),λ_=>uf n aI,?_⟩;refine iE ?_;apply g2;refine g5 ?_;refine hv ?_;refine⟨λh=>by simp at h⊢;omega,?_⟩;refine hv ?_;refine⟨c4 (gT n (i-1)),λh=>by rw[w5 (by simpa using h)];exact uf n atw,?_⟩;refine nX ?_;refine aK _ rfl ?_ ?_<;>intro hc;refine gj ?_;(have A:0<i/\Op.bytesLess (gT n i).name (gT n (i-1)).name=true:=axN);exact dt (MZ 1 (by rw[ps,atI cD,atI A.1,p',atH (a7 A.1),atI A.2]) atz).symm;refine rI ?_;(have M:ps n i=0:=by rw[ps,atI cD];by_cases h0:0<i;(have M0:decide ((0:Int)<i)=true:=by simp;omega);rw[M0]at hc;rw[atI h0,p',atH (a7 h0),atH (by simpa using hc)];rw[atH h0]);exact⟨⟨i+1,by omega,by rw[ay,pq aI M]⟩,by show _-(i+1)<_-i;omega,ar,⟨rfl,ak⟩⟩;refine W.exit ?_;apply el;(have M1:one n l=g8 (eO n l) 7 (8-7):=by rw[E',pq atw (by rw[eO,ay,Am (by simpa using hc)])]);apply b4;apply oG;refine W.loop (α:={i:Nat // 1<=i/\i<=n.J.length+1/\yy n=g8 (r2 n) i (n.J.length-i)}) (λx=>[(2,.box 2 b 0),(6,u x.1)]) (λ_=>[(2,.box b (yz n))]) (λx=>n.J.length+1-x.1) ⟨1,by omega,by omega,rfl⟩ ar ⟨rfl,ak⟩ ?_;rintro⟨i,n0,hi,ay⟩;dsimp only;refine p4 ?_;refine aK _ rfl ?_ ?_<;>intro hc;refine fg ?_;(have aI:i<n.J.length:=by simpa using hc);(have T5:∀e,r2 n i=e->e≠0->one n l=e:=λe ao h0=>by(have h1:eO n l 7=e:=by show yy n=e;rw[ay,pp aI (by rw[ao];exact h0),ao]);rw[M1,pp atw (by rw[h1];exact h0),h1]);refine kq ?_;refine Ek ?_;refine mg ?_;refine⟨aE (qa n i),λ_=>Ci n aI,?_⟩;apply cB;refine k6 ?_;refine p1 ?_;refine⟨aE (qa n (i-1)),λ_=>by rw[w5 atw];exact Ci n atw,?_⟩;refine aK _ rfl ?_ ?_<;>intro hc;refine gj ?_;exact dt (T5 5 (by rw[r2,p',atI (by have:=hc;simp at this;exact this.symm)]) atz).symm;apply co;(have a7:(qa n (i-1)).name≠(qa n i).name:=λe=>by rw[e]at hc;simp at hc);refine oH ?_;refine mg ?_;refine⟨aE (qa n i),λ_=>Ci n aI,?_⟩;apply cB;refine k6 ?_;refine p1 ?_;refine⟨aE (qa n (i-1)),λ_=>by rw[w5 atw];exact Ci n atw,?_⟩;refine aK _ rfl ?_ ?_<;>intro hc;refine gj ?_;exact dt (T5 1 (by rw[r2,p',atH a7,atI hc]) atz).symm;refine rI ?_;(have M:r2 n i=0:=by rw[r2,p',atH a7,atH (by rw[hc];simp)]);exact⟨⟨i+1,by omega,by omega,by rw[ay,pq aI M]⟩,by show _+1-(i+1)<_+1-i;omega,ar,⟨rfl,ak⟩⟩;refine qG ?_;exact dt (by rw[M1,pq atw (by show yy n=0;rw[ay,Am (by simpa using hc)])];rfl)
theorem T6:∀a b:List ad,eY (a++b)=eY a+eY b
 |[],b=>by simp[eY]
 |n::r,b=>by simp only[auS,eY];rw[T6 r b];omega
theorem aep{l:List ad}(h:i<l.length):eY (l.take (i+1))=eY (l.take i)+fC l[i]:=by rw[avI,atK h,T6];simp[eY]
theorem M2:∀(l:List ad) (i:Nat),eY (l.take i)<=eY l
 |[],i=>by simp[eY]
 |n::r,0=>by simp[eY]
 |n::r,i+1=>by simp only[avm,eY];have:=M2 r i;omega
theorem T7:∀(bD:Nat) (n:ad),aC n<bD->aC n<100000000->aU B 98 [aE n] (u (fC n)):=by refine λbD=>Nat.rec (λn h=>absurd h (avf _)) (λbD aZ n hN I=>?_) bD;have eS:=vq n;have hcs:=EK n.J;have qT:=lR n;refine bA Tryz.func98 Tryz.ntmps98 λU=>?_;refine cl ?_;intro b;apply b4;refine nn ?_;refine W.loop (α:={i:Nat // i<=n.J.length}) (λx=>[(1,.box 1 b 0),(3,u ((1+eY (n.J.take x.1):Nat):Int)),(4,u x.1)]) (λ_=>[(1,.box b (yz n))]) (λx=>n.J.length-x.1) ⟨0,by omega⟩ ar ⟨rfl,ak⟩ ?_;rintro⟨i,hi⟩;dsimp only;refine p4 ?_;refine aK _ rfl ?_ ?_<;>intro hc;refine fg ?_;(have aI:i<n.J.length:=by simpa using hc);have b6:=rP aI;have Iu:=M2 n.J i;have Bl:=BZ n.J[i];refine kq ?_;apply kp;refine mg ?_;refine⟨aE n.J[i],λ_=>rQ aI,?_⟩;(conv=>whnf);refine⟨[aE n.J[i]],_,λ_=>aZ _ atw atw,ar,?_⟩;refine g5 ?_;refine nl ?_;exact⟨⟨i+1,by omega⟩,by show _-(i+1)<_-i;omega,⟨E,dt (by rw[aep aI];omega),E,ak⟩,⟨rfl,ak⟩⟩;refine qG ?_;exact dt (by rw[EJ,aug (by simp at hc;omega)])
mutual
theorem M3:∀(n:ad) (p:atG) (l:Int),fK gU n p l (0,[])=(true,(0,[]))\/((fK gU n p l (0,[])).1=false/\(fK gU n p l (0,[])).2.1≠0)
 |.mk a b c d e f g h i j ag cC,p,l=>by
  simp only[fK];unfold gU;split
  ·rename_i bo jf;split at jf
   ·cases jf
   rename_i h0;cases jf;exact .inr ⟨rfl,h0⟩
  rename_i bo jf;split at jf
  ·cases jf;exact T8 ag p l
  cases jf
theorem T8:∀(ag:List ad) (p:atG) (l:Int),ks gU ag p l (0,[])=(true,(0,[]))\/((ks gU ag p l (0,[])).1=false/\(ks gU ag p l (0,[])).2.1≠0)
 |[],p,l=>.inl rfl
 |k::r,p,l=>by
  simp only[ks];rcases M3 k (below p k.name (l+1)) (l+1)with h|⟨h1,A⟩
  ·rw[h];exact T8 r p l
  generalize fK gU k (below p k.name (l+1)) (l+1) (0,[])=r at h1 A;obtain⟨x,y⟩:=r;simp only at h1 A;subst h1;exact .inr ⟨rfl,A⟩
end
def qU(n:ad)(p:atG)(l:Int):atG×Int:=if(fK gU n p l (0,[])).1 then([],0)else((fK gU n p l (0,[])).2.2,(fK gU n p l (0,[])).2.1)
theorem aeq:∀(bD:Nat) (n:ad) (p:atG) (l:Int),aC n<bD->p.length+aC n+l.toNat+n.name.length<10000000->1<=l->aU B 99 [aE n,.O p,u l] (.bp [.O (qU n p l).1,u (qU n p l).2]):=by refine λbD=>Nat.rec (λn p l h=>absurd h (avf _)) (λbD aZ n p l hN I al=>?_) bD;have eS:=vq n;refine bA Tryz.func99 Tryz.ntmps99 λU=>?_;refine cl ?_;intro b;refine f_ ?_;refine eB ?_;refine⟨[aE n,u l],_,λ_=>aeo n l atw,ar,?_⟩;apply b4;refine aK _ rfl ?_ ?_<;>intro hc;refine gj ?_;(have a7:one n l≠0:=by simpa using hc);(have cz:fK gU n p l (0,[])=(false,(one n l,p)):=by rw[H1,gU,atH a7]);(have fJ:qU n p l=(p,one n l):=by rw[qU,cz];rfl);rw[fJ];exact ar;apply co;(have h0:one n l=0:=by simpa using hc);(have cz:fK gU n p l (0,[])=ks gU n.J p l (0,[]):=by rw[H1,gU,atI h0]);refine nn ?_;refine W.loop (α:={i:Nat // i<=n.J.length/\fK gU n p l (0,[])=ks gU (n.J.drop i) p l (0,[])}) (λx=>[(1,.O p),(2,u l),(3,.box 3 b 0),(9,u x.1)]) (λ_=>[(3,.box b (yz n))]) (λx=>n.J.length-x.1) ⟨0,by omega,cz⟩ ar ⟨rfl,ak⟩ ?_;rintro⟨i,hi,ay⟩;dsimp only;refine p4 ?_;refine aK _ rfl ?_ ?_<;>intro hc;refine fg ?_;(have aI:i<n.J.length:=by simpa using hc);have b6:=rP aI;have eW:=BX p n.J[i].name (l+1);have k':=auQ aI;have BY:=M3 n.J[i] (below p n.J[i].name (l+1)) (l+1);refine kq ?_;refine oH ?_;refine mg ?_;refine⟨aE n.J[i],λ_=>rQ aI,?_⟩;refine mg ?_;refine⟨aE n.J[i],λ_=>rQ aI,?_⟩;(conv=>whnf);refine⟨[.O p,.O n.J[i].name,u l],_,λ_=>S9 p _ l atw al,ar,?_⟩;refine k6 ?_;refine⟨[aE n.J[i],.O (below p n.J[i].name (l+1)),u (l+1)],_,λ_=>aZ n.J[i] (below p n.J[i].name (l+1)) (l+1) atw atw atw,ar,?_⟩;apply b4;refine aK _ rfl ?_ ?_<;>intro hc;refine gj ?_;(have a7:(qU n.J[i] (below p n.J[i].name (l+1)) (l+1)).2≠0:=by simpa using hc);(have fJ:qU n p l=qU n.J[i] (below p n.J[i].name (l+1)) (l+1):=by unfold qU at a7⊢;rw[ay,k',ks];rcases BY with h|⟨h1,A⟩;rw[h]at a7;exact absurd rfl a7;generalize fK gU n.J[i] (below p n.J[i].name (l+1)) (l+1) (0,[])=r at*;obtain⟨x,y⟩:=r;simp only at h1;subst h1;rfl);rw[fJ];exact ar;refine rI ?_;(have h0:(qU n.J[i] (below p n.J[i].name (l+1)) (l+1)).2=0:=by simpa using hc);(have Y:fK gU n.J[i] (below p n.J[i].name (l+1)) (l+1) (0,[])=(true,(0,[])):=by rcases BY with h|⟨h1,A⟩;exact h;unfold qU at h0;rw[h1]at h0;exact absurd h0 A);exact⟨⟨i+1,by omega,by rw[ay,k',ks,Y]⟩,by show _-(i+1)<_-i;omega,ar,⟨rfl,ak⟩⟩;refine qG ?_;(have fJ:qU n p l=([],0):=by rw[qU,ay,av7 (by simp at hc;omega)];rfl);rw[fJ];exact ar
theorem T9(n:ad):(if(256:Int)<fC n then([],7)else qU n [] 1)=sZ n:=by unfold sZ qU;split;rfl;rcases M3 n [] 1 with h|⟨h1,A⟩;rw[h];rfl;rw[h1];rfl
theorem aer(n:ad)(bC:aC n+n.name.length<2200000):aU B 72 [aE n] (.bp [.O (sZ n).1,u (sZ n).2]):=by refine bA Tryz.func72 Tryz.ntmps72 λU=>?_;refine cl ?_;intro b;refine f_ ?_;refine eB ?_;refine⟨[aE n],_,λ_=>T7 _ n (auy _) atw,ar,?_⟩;refine aK _ rfl ?_ ?_<;>intro hc;refine gj ?_;rw[<-T9,atI (by simpa using hc)];exact ar;apply co;refine k7 ?_;refine⟨[aE n,.O [],u 1],_,λ_=>aeq _ n [] 1 (auy _) atx atw,ar,?_⟩;refine iD ?_;rw[<-T9,atH (by simpa using hc)];exact ar
theorem T_(n:ad)(bC:aC n+n.name.length<2200000):aU B 67 [aE n] (.bool (valid n)):=by refine bA Tryz.func67 Tryz.ntmps67 λU=>?_;refine cl ?_;intro b;refine k7 ?_;refine⟨[aE n],_,λ_=>aer n bC,ar,?_⟩;refine gj ?_;exact E
end Go.bR.ck


namespace Go.bR.ck
open Go Go.Proofs
variable{B:World}
def fr(n:ad):Prop:=aC n+n.name.length<2200000
mutual
def yA:ad->Nat
 |.mk _ _ _ _ _ _ _ _ _ _ ag _=>qb ag+1
def qb:List ad->Nat
 |[]=>0
 |n::r=>max (yA n) (qb r)
end
theorem aes(n:ad):yA n=qb n.J+1:=by cases n;simp only[yA]
theorem T':∀a b:List ad,qb (a++b)=max (qb a) (qb b)
 |[],b=>by simp[qb]
 |n::r,b=>by simp only[auS,qb];rw[T' r b];omega
variable{i:Nat}
theorem aet{l:List ad}(h:i<l.length):qb (l.take (i+1))=max (qb (l.take i)) (yA l[i]):=by rw[avI,atK h,T'];simp[qb]
mutual
theorem aeu:∀n:ad,yA n<=aC n
 |.mk a b c d e f g h i j ag cC=>by have:=M4 ag;simp only[yA,aC];omega
theorem M4:∀l:List ad,qb l<=eG l
 |[]=>by simp[qb,eG]
 |n::r=>by have:=aeu n;have:=M4 r;simp only[qb,eG];omega
end
theorem aev:∀(bD:Nat) (n:ad),aC n<bD->aC n<100000000->aU B 100 [aE n] (u (yA n)):=by refine λbD=>Nat.rec (λn h=>absurd h (avf _)) (λbD aZ n hN I=>?_) bD;have eS:=vq n;have hcs:=M4 n.J;have qT:=lR n;refine bA Tryz.func100 Tryz.ntmps100 λU=>?_;refine cl ?_;intro b;apply b4;refine nn ?_;refine W.loop (α:={i:Nat // i<=n.J.length}) (λx=>[(1,.box 1 b 0),(3,u (qb (n.J.take x.1):Nat)),(4,u x.1)]) (λ_=>[(1,.box b (yz n))]) (λx=>n.J.length-x.1) ⟨0,by omega⟩ ar ⟨rfl,ak⟩ ?_;rintro⟨i,hi⟩;dsimp only;refine p4 ?_;refine aK _ rfl ?_ ?_<;>intro hc;refine fg ?_;(have aI:i<n.J.length:=by simpa using hc);have b6:=rP aI;refine kq ?_;apply kp;refine mg ?_;refine⟨aE n.J[i],λ_=>rQ aI,?_⟩;(conv=>whnf);refine⟨[aE n.J[i]],_,λ_=>aZ _ atw atw,ar,?_⟩;refine nl ?_;exact⟨⟨i+1,by omega⟩,by show _-(i+1)<_-i;omega,⟨E,dt (by rw[aet aI];split<;>omega),E,ak⟩,⟨rfl,ak⟩⟩;refine sH ?_;have mO:n.J.take i=n.J:=aug (by simp at hc;omega);refine .inl ⟨λ_=>by simp only[du];rw[mO];omega,?_⟩;refine iD ?_;exact dt (by rw[aes,mO];omega)
def kS:List np->Nat
 |[]=>0
 |s::r=>20+s.name.length+s.target.length+kS r
mutual
def vI:ad->Nat
 |.mk a _ c d _ _ _ _ _ _ ag cC=>20+a.length+c.length+d.length+kS cC+lf ag
def lf:List ad->Nat
 |[]=>0
 |n::r=>vI n+lf r
end
theorem aew(n:ad):vI n=20+n.name.length+n.dW.length+n.target.length+kS n.bO+lf n.J:=by cases n;simp only[vI]
theorem Ua:∀l:List np,kS l<=10*lQ l
 |[]=>by simp[kS,lQ]
 |s::r=>by have:=Ua r;simp only[kS,lQ];omega
mutual
theorem Ub:∀n:ad,vI n<=n.name.length+10*aC n
 |.mk a b c d e f g h i j ag cC=>by have:=Uc ag;have:=Ua cC;simp only[vI,aC];omega
theorem Uc:∀l:List ad,lf l<=10*eG l
 |[]=>by simp[lf,eG]
 |n::r=>by have:=Ub n;have:=Uc r;simp only[lf,eG];omega
end
theorem Ud:∀a b:List np,kS (a++b)=kS a+kS b
 |[],b=>by simp[kS]
 |n::r,b=>by simp only[auS,kS];rw[Ud r b];omega
theorem aex(n:ad)(h:i<n.bO.length):kS (n.bO.take (i+1))=kS (n.bO.take i)+(20+(gT n i).name.length+(gT n i).target.length):=by rw[avI,atK h,Ud];simp[kS,gT,List.getD,h]
theorem Ue:∀(l:List np) (i:Nat),kS (l.take i)<=kS l
 |[],i=>by simp[kS]
 |n::r,0=>by simp[kS]
 |n::r,i+1=>by simp only[avm,kS];have:=Ue r i;omega
theorem Uf:∀a b:List ad,lf (a++b)=lf a+lf b
 |[],b=>by simp[lf]
 |n::r,b=>by simp only[auS,lf];rw[Uf r b];omega
theorem aey{l:List ad}(h:i<l.length):lf (l.take (i+1))=lf (l.take i)+vI l[i]:=by rw[avI,atK h,Uf];simp[lf]
theorem Ug:∀(l:List ad) (i:Nat),lf (l.take i)<=lf l
 |[],i=>by simp[lf]
 |n::r,0=>by simp[lf]
 |n::r,i+1=>by simp only[avm,lf];have:=Ug r i;omega
theorem aez:∀(bD:Nat) (n:ad),aC n<bD->aC n+n.name.length<10000000->aU B 101 [aE n] (u (vI n)):=by refine λbD=>Nat.rec (λn h=>absurd h (avf _)) (λbD aZ n hN I=>?_) bD;have eS:=vq n;have eJ:=E_ n;have Uh:=Ub n;have aeA:=aew n;refine bA Tryz.func101 Tryz.ntmps101 λU=>?_;refine cl ?_;intro b;refine iX ?_;refine g5 ?_;apply cB;refine g5 ?_;apply cB;refine g5 ?_;refine nn ?_;refine W.loop (α:={i:Nat // i<=n.bO.length}) (λx=>[(1,.box 1 b 0),(3,u ((20+n.name.length+n.dW.length+n.target.length+kS (n.bO.take x.1):Nat):Int)),(4,u x.1)]) (λ_=>[(1,.box b (yz n))]) (λx=>n.bO.length-x.1) ⟨0,by omega⟩ ⟨E,dt (by simp[kS]),E,ak⟩ ⟨rfl,ak⟩ ?_;rintro⟨i,hi⟩;dsimp only;refine p4 ?_;refine aK _ rfl ?_ ?_<;>intro hc;refine fg ?_;(have aI:i<n.bO.length:=by simpa using hc);have Fa:=Ue n.bO (i+1);have cS:=aex n aI;refine kq ?_;refine W.u' aM mixed atB ?_;refine g5 ?_;refine mg ?_;refine⟨c4 (gT n i),λ_=>uf n aI,?_⟩;refine g5 ?_;refine mg ?_;refine⟨c4 (gT n i),λ_=>uf n aI,?_⟩;refine g5 ?_;refine nl ?_;exact⟨⟨i+1,by omega⟩,by show _-(i+1)<_-i;omega,⟨E,dt (by rw[cS];omega),E,ak⟩,⟨rfl,ak⟩⟩;refine wT ?_;have ht:n.bO.take i=n.bO:=aug (by simp at hc;omega);refine nn ?_;refine W.loop (α:={i:Nat // i<=n.J.length}) (λx=>[(1,.box 1 b 0),(3,u ((20+n.name.length+n.dW.length+n.target.length+kS n.bO+lf (n.J.take x.1):Nat):Int)),(5,u x.1)]) (λ_=>[(1,.box b (yz n))]) (λx=>n.J.length-x.1) ⟨0,by omega⟩ ⟨E,dt (by rw[ht];simp[lf]),E,ak⟩ ⟨rfl,ak⟩ ?_;rintro⟨i,hi⟩;dsimp only;refine p4 ?_;refine aK _ rfl ?_ ?_<;>intro hc;refine fg ?_;(have aI:i<n.J.length:=by simpa using hc);have b6:=rP aI;have Fa:=Ug n.J (i+1);have cS:=aey aI;refine kq ?_;apply kp;refine mg ?_;refine⟨aE n.J[i],λ_=>rQ aI,?_⟩;(conv=>whnf);refine⟨[aE n.J[i]],_,λ_=>aZ _ atw atw,ar,?_⟩;refine g5 ?_;refine nl ?_;exact⟨⟨i+1,by omega⟩,by show _-(i+1)<_-i;omega,⟨E,dt (by rw[cS];omega),E,ak⟩,⟨rfl,ak⟩⟩;refine qG ?_;exact dt (by rw[aeA,aug (by simp at hc;omega)])
def qc(n:ad)(s:Int):Bool:=(decide ((fC n:Int)<=40)&&decide ((yA n:Int)<=20))&&decide ((vI n:Int)<=s)
theorem aeB(n:ad)(s:Int)(aw:fr n):aU B 73 [aE n,u s] (.bool (qc n s)):=by refine bA Tryz.func73 Tryz.ntmps73 λU=>?_;refine cl ?_;intro b;refine k7 ?_;unfold fr at aw;refine⟨[aE n],_,λ_=>T7 _ n (auy _) atw,ar,?_⟩;apply cB;refine mQ ?_;refine⟨[aE n],_,λh=>aev _ n (auy _) atw,ar,?_⟩;refine ib ?_;apply cB;refine mQ ?_;refine⟨[aE n],_,λh=>aez _ n (auy _) atw,ar,?_⟩;refine nX ?_;refine iD ?_;exact aq.of_eq (atJ D.bool (by simp only[qc,<-jp]))
def s0(n:ad)(q:atG):Int:=fd (λk:ad=>k.name==q) n.J
theorem aeC(n:ad)(q:atG)(aw:fr n):aU B 69 [aE n,.O q] (u (s0 n q)):=by refine bA Tryz.func69 Tryz.ntmps69 λU=>?_;refine cl ?_;intro b;refine nn ?_;have eS:=vq n;unfold fr at aw;refine W.loop (α:={i:Nat // i<=n.J.length/\∀j (h:j<n.J.length),j<i->((n.J[j]).name==q)=false}) (λx=>[(1,.O q),(2,.box 2 b 0),(5,u x.1)]) (λ_=>[(2,.box b (yz n))]) (λx=>n.J.length-x.1) ⟨0,by simp⟩ ar ⟨rfl,ak⟩ ?_;rintro⟨i,hi,ay⟩;dsimp only;refine p4 ?_;refine aK _ rfl ?_ ?_<;>intro hc;refine fg ?_;(have aI:i<n.J.length:=by simpa using hc);refine kq ?_;apply b4;refine mg ?_;refine⟨aE n.J[i],λ_=>rQ aI,?_⟩;refine aK _ rfl ?_ ?_<;>intro hc;refine gj ?_;exact dt (zP (p:=λk:ad=>k.name==q) aI ay hc).symm;refine rI ?_;exact⟨⟨i+1,by omega,λj aa bf=>(avL.1 bf).elim (ay j aa) λe=>by subst e;exact hc⟩,by show _-(i+1)<_-i;omega,ar,⟨rfl,ak⟩⟩;refine qG ?_;exact axM
theorem Fb:∀a:atG,Op.bytesLess a a=false
 |[]=>rfl
 |a::xs=>by simp[Op.bytesLess,Fb xs,awq]
theorem w6:∀a b:atG,Op.bytesLess a b=false->Op.bytesLess b a=false->a=b
 |[],[],_,_=>rfl
 |[],_::_,h,_=>by simp[Op.bytesLess]at h
 |_::_,[],_,h=>by simp[Op.bytesLess]at h
 |a::xs,b::a',h,bB=>by simp only[Op.bytesLess,avh,avn,avk,auA]at h bB;have pW:a=b:=UInt8.le_antisymm (awK.1 bB.1) (awK.1 h.1);subst pW;rw[w6 xs a' (by rcases h.2 with h|h;exact absurd rfl h;exact h) (by rcases bB.2 with h|h;exact absurd rfl h;exact h)]
theorem Ck:∀a b c:atG,Op.bytesLess a b=true->Op.bytesLess b c=true->Op.bytesLess a c=true
 |_,[],_,h,_=>by cases bB:(‹atG›:atG)<;>simp_all [Op.bytesLess]
 |_,_::_,[],_,h=>by simp[Op.bytesLess]at h
 |[],_::_,_::_,_,_=>rfl
 |a::xs,b::a',c::zs,h,bB=>by simp only[Op.bytesLess,au5,aut,atN,avp]at h bB⊢;rcases h with h|⟨rfl,h⟩;rcases bB with bB|⟨rfl,bB⟩;exact .inl (UInt8.lt_trans h bB);exact .inl h;rcases bB with bB|⟨rfl,bB⟩;exact .inl bB;exact .inr ⟨rfl,Ck xs a' zs h bB⟩
theorem Fc{a b:atG}(h:Op.bytesLess a b=true):Op.bytesLess b a=false:=by cases I:Op.bytesLess b a with|false=>rfl|true=>have:=Ck a b a h I;rw[Fb]at this;cases this
theorem s1{a b:atG}(h:Op.bytesLess a b=true):a≠b:=λe=>by rw[e,Fb]at h;cases h
def gN(l:List ad):Prop:=∀i,i+1<l.length->Op.bytesLess (l.getD i default).name (l.getD (i+1) default).name=true
theorem Ui{l:List ad}(h:gN l):∀{d i:Nat},i+d+1<l.length->Op.bytesLess (l.getD i default).name (l.getD (i+d+1) default).name=true
 |0,i,hi=>h i hi
 |d+1,i,hi=>Ck _ _ _ (Ui h (d:=d) (i:=i) atw) (h (i+d+1) hi)
variable{j:Nat}
theorem aeD{l:List ad}(h:gN l)(d9:i<j)(aa:j<l.length):Op.bytesLess (l.getD i default).name (l.getD j default).name=true:=by have:=Ui h (d:=j-i-1) (i:=i) atw;rwa [show i+(j-i-1)+1=j by omega]at this
end Go.bR.ck



namespace Go.bR.ck
open Go Go.Proofs
variable{B:World}
def j5(v:Int):Bool:=decide (0<=v)&&decide (v<4)
theorem Fd(v:Int):aU B 252 [u v] (.bool (j5 v)):=by refine bA Tryz.func252 Tryz.ntmps252 λU=>?_;apply b4;apply b4;refine ib ?_;refine iD ?_;exact aq.of_eq (atJ D.bool (jp _ _))
def Uj(h v:Int):Bool:=qv .and .i64 (h.fdiv (2 ^ min v.toNat IntKind.i64.bits)) 1==1
def lg(v:Int)(n:ad)(l:Int):Bool :=
 if !j5 v||Uj n.n6 v then false else if(v==0&&n.kind==0)&&decide (8<l)then false else(!(n.kind==2)||v==2)||v==3
theorem Fe(v:Int)(n:ad)(l:Int):aU B 183 [u v,aE n,u l] (.bool (lg v n l)):=by refine bA Tryz.func183 Tryz.ntmps183 λU=>?_;refine cl ?_;intro b;refine p3 ?_;refine⟨[u v],_,λ_=>Fd v,ar,?_⟩;refine iE ?_;refine hv ?_;refine⟨λh=>by unfold j5 at h;simp at h;omega,?_⟩;refine nX ?_;refine aK (!j5 v||Uj n.n6 v) (by simp only[<-po];rfl) ?_ ?_<;>intro hc;refine gj ?_;exact aq.of_eq (atJ D.bool (by rw[lg,atI hc]));apply co;have fc:=hc;refine f_ ?_;refine iE ?_;refine ib ?_;refine ib ?_;refine aK ((v==0&&n.kind==0)&&decide (8<l)) (by simp only[<-jp];rfl) ?_ ?_<;>intro hc;refine gj ?_;exact aq.of_eq (atJ D.bool (by rw[lg,atH (by rw[fc];simp),atI hc]));apply co;refine iX ?_;refine ib ?_;refine ib ?_;refine iD ?_;refine aq.of_eq (atJ D.bool ?_);rw[lg,atH (by rw[fc];simp),atH (by rw[hc];simp)];simp only[<-po];rfl
theorem Uk(p n:atG)(Ul:Bool)(h:p.length+n.length<1000000000):aU B 349 [.O p,.O n,.bool Ul] (.O (if Ul then n else p++[47]++n)):=by refine bA Tryz.func349 Tryz.ntmps349 λU=>?_;apply b4;refine f_ ?_;refine aK _ rfl ?_ ?_<;>intro hc;refine gj ?_;exact aq.of_eq (atJ D.O (by rw[atI hc]));apply co;refine cl ?_;refine p1 ?_;refine nW ?_;refine iD ?_;exact aq.of_eq (atJ D.O (by rw[atH (by rw[hc];simp)]))
open Go.RowKit
theorem aeE(a b:ByteArray)(cq d8 nu Ap ug Ff Um Un Uo Up Uq Ur Us Ut Uu Uv Uw Ux Uy Uz UA UB:Value)(w:World):
  Calls Tryz.prog 351 #[.agg #[.string a,cq,d8,nu,Ap,ug,Ff,Um,Un,Uo,Up,Uq],.agg #[.string b,Ur,Us,Ut,Uu,Uv,Uw,Ux,Uy,Uz,UA,UB]] w
   λe w'=>e=.returned (.int .i64 (Lib.compareBytes a.data.toList b.data.toList))/\∃q M5,w'=Sort.grow (w.drewN q) M5:=by
 go_enter Tryz.func351,Tryz.ntmps351
 go_wp2_with (first
  |(go_at_call 249;refine(Tryz.strings_Compare _ _ _).mono ?_;rintro e w' ⟨rfl,rfl⟩)
  |go_in)
 go_ret
 refine⟨rfl,0,#[.cells #[.string a,cq,d8,nu,Ap,ug,Ff,Um,Un,Uo,Up,Uq] 44,.cells #[.string b,Ur,Us,Ut,Uu,Uv,Uw,Ux,Uy,Uz,UA,UB] 44],?_⟩;simp only[Sort.grow,World.drewN,World.alloc,av'];congr 1
theorem aeF(d6 b o n cap i j:Nat)(x y:ByteArray)(w:World)(ars:w.cell? ⟨d6,0,none⟩=some (.slice (some ⟨b,o,none⟩) n cap))(hi:i<n)(aa:j<n)
  (F:w.cell? ⟨b,o+i*12,none⟩=some (.string x)) (hy:w.cell? ⟨b,o+j*12,none⟩=some (.string y)) :
  Calls Tryz.prog 254 #[.int .i64 i,.int .i64 j,.pointer (some ⟨d6,0,none⟩)] w
   λe w'=>e=.returned (.int .i64 (Lib.compareBytes x.data.toList y.data.toList))/\∃q M5,w'=Sort.grow (w.drewN q) M5:=by
 go_enter Tryz.func254,Tryz.ntmps254
 go_wp2_with (first
  |(go_at_call 249;refine(Tryz.strings_Compare _ _ _).mono ?_;rintro e w' ⟨rfl,rfl⟩)
  |go_in)
 go_quiet ((go_at_call 249;refine Calls.quiet_of_same (Tryz.strings_Compare _ _ _)))
 go_wp2
 go_ret
 exact⟨rfl,_,#[],(Sort.grow_empty _).symm⟩
open Go.Sort Go.Lib
variable{α:Type}{b:Nat}
theorem M6[Inhabited α](enc:α->Value)(w:World)(blk off n:Nat)(d:Array α)(os:Array Obj)(I:b<w.heap.size)(a7:b≠blk):(sortWorld enc w blk off n d os).heap[b]?=w.heap[b]?:=by simp only[sortWorld,Sort.grow,putRow,mapBlock,ahead];rw[awE (by simpa using I),awa,atH (Ne.symm a7)];rfl
theorem Iv[Inhabited α](enc:α->Value)(w:World)(blk off n:Nat)(d:Array α)(os:Array Obj){vs:Array Value}{e:TypeId}{kj:Nat×Nat}(I:w.heap[blk]?=some (.cells vs e kj)): (sortWorld enc w blk off n d os).heap[blk]?=some (.cells (putCells enc off d vs) e kj):=by have bf:=hD I;simp only[sortWorld,Sort.grow,putRow,mapBlock,ahead];rw[awE (by simpa using bf),awa,atI rfl];show Option.map _ w.heap[blk]?=_;rw[I];rfl
variable{aj:Value}
theorem M7[Inhabited α](enc:α->Value)(w:World)(blk off n:Nat)(d:Array α)(os:Array Obj){o:Nat}(a7:b≠blk)(h:w.cell? ⟨b,o,none⟩=some aj):(sortWorld enc w blk off n d os).cell? ⟨b,o,none⟩=some aj:=by(have bf:b<w.heap.size:=by simp only[World.cell?]at h;rcases at3 b w.heap.size with h1|h1;exact h1;rw[awU h1]at h;cases h);rw[<-h];simp only[World.cell?,M6 enc w blk off n d os bf a7]
theorem aeG[Inhabited α](enc:α->Value)(w:World)(blk off n:Nat)(d:Array α)(os:Array Obj):w.heap.size<=(sortWorld enc w blk off n d os).heap.size:=by simp[sortWorld,Sort.grow,putRow,mapBlock,ahead]
theorem c_.Iw[Inhabited α](enc:α->Value)(w:World)(C:Nat->Nat)(blk off n:Nat)(d:Array α)(os:Array Obj)(de:C blk=0):c_ (λx=>x=blk) w C (sortWorld enc w blk off n d os) C :=
 ⟨⟨aeG ..,λ_ _=>atQ _,λb o I ah=>by
   have a7:b≠blk:=λe=>by subst e;omega
   simp only[World.cell?,M6 enc w blk off n d os I a7]⟩,rfl,rfl,rfl,λb I a7=>⟨M6 enc w blk off n d os I a7,rfl⟩⟩
theorem M8(aX:α->atG)(x y:α):ltOf (λx y:α=>Lib.compareBytes (aX x) (aX y)) x y=Op.bytesLess (aX x) (aX y):=by unfold ltOf;show decide (Lib.compareBytes (aX x) (aX y)<0)=_;rcases T0 (aX x) (aX y)with h|h|h;rw[h];(cases I:Op.bytesLess (aX x) (aX y)with|true=>rfl|false =>(cases g0:Op.bytesLess (aX y) (aX x)with|true=>rw[(E9 (aX x) (aX y)).2 g0]at h;cases h|false=>have:=w6 _ _ I g0;rw[(E8 (aX x) (aX y)).2 this]at h;cases h));rw[h];have:=(E8 (aX x) (aX y)).1 h;rw[this,Fb];rfl;rw[h];rw[Fc ((E9 (aX x) (aX y)).1 h)];rfl
theorem UC(aX:α->atG):SWO (ltOf λx y:α=>Lib.compareBytes (aX x) (aX y)):=by have key:=M8 aX;refine⟨λx=>by rw[key,Fb],λx y V h1 A=>?_,λx y V h1 A=>?_⟩;rw[key]at*;exact Ck _ _ _ h1 A;rw[key]at*;cases I:Op.bytesLess (aX x) (aX V)with|false=>rfl|true =>(cases Z:Op.bytesLess (aX V) (aX y)with|true=>rw[Ck _ _ _ I Z]at h1;cases h1|false=>have:=w6 _ _ A Z;rw[this]at h1;rw[I]at h1;cases h1)
def encI(i:Nat):D:=u (i:Nat)
def Ix(n:Nat)(x:Fin n):Value:=.int .i64 ((x.1:Nat):Int)
variable{dj dn:aJ}
theorem Iy{a:Nat}{o:aJ}{s:Nat}(h:aL [(a,dj),(b,dn)] s=some o):(s=a/\o=dj)\/(s=b/\o=dn):=by simp only[aL]at h;cases h1:Nat.beq s a with|true=>rw[h1]at h;cases h;exact .inl ⟨auc h1,rfl⟩|false =>rw[h1]at h;(cases A:Nat.beq s b with|true=>rw[A]at h;cases h;exact .inr ⟨auc A,rfl⟩|false=>rw[A]at h;cases h)
theorem UD(v:Value)(M9:D)(o:aJ):c1 B 253 [.ai v,M9] (aL [(2001,.row v [] 1 3),(2000,o)]) λd aP=>d=.bp []/\aP=aL [(2001,.row v [] 1 3),(2000,o)]:=by refine⟨jn Tryz.func253 rfl atA,λw C args Ft pS qD hH ae=>?_⟩;obtain⟨al,ae⟩:=ae;match args,al with|[a0,gR],_ =>have h0:=(ae 0 _ a0 rfl rfl).f4;subst h0;obtain⟨a,cap,X,_⟩:kf w C a0 [] 1 3:=hH.cj 2001 _ rfl;subst X;refine(AnyF.slices_SortFunc_none Tryz.laysSlF0_f253 a cap gR w).mono ?_;rintro e w' ⟨rfl,rfl⟩;exact⟨.tuple #[],.bp [],C,_,rfl,⟨rfl,rfl⟩,.bp [] [] rfl (λi d v N _=>by simp at N),.refl _ _ _,⟨hH.cj,hH.inj,λs o b ah an=>.inl (hH.cI s o b ah an)⟩⟩
theorem UE(J:List ad)(aw:0<J.length)(hlen:J.length<1000000)(d6:Nat)(v:Value)(ds:List (Fin J.length))(qV:0<ds.length)(N:ds.length<1000000):
  c1 B 253 [.ai v,.fn (.func 254) [] [.box 2000 d6 0]] (aL [(2001,.row v (ds.map λx=>encI x.1) 1 3),(2000,.box d6 [.Q .none 12 (J.map enc)])]) λd aP =>
   d=.bp []/\∃kG:List (Fin J.length),kG.Perm ds/\(∀(i j:Nat) (hi:i<kG.length) (aa:j<kG.length),i<j->Op.bytesLess (J[kG[j].1]).name (J[kG[i].1]).name=false)/\
    aP=aL [(2001,.row v (kG.map λx=>encI x.1) 1 3),(2000,.box d6 [.Q .none 12 (J.map enc)])]:=by
 refine⟨jn Tryz.func253 rfl atA,λw C args Ft pS qD hH ae=>?_⟩;obtain⟨al,ae⟩:=ae
 match args,al with
 |[a0,gR],_ =>
  have h0:=(ae 0 _ a0 rfl rfl).f4;obtain⟨fM,he,h1,A,Z⟩:=(ae 1 _ gR rfl rfl).u3;subst h0;have M_:fM=[]:=atZ A.1.symm;subst M_
  have sG:he=[.pointer (some ⟨d6,0,none⟩)]:=by
   obtain⟨UF,Z⟩:=Z
   match he,UF with
   |[aj],_=>rw[(Z 0 _ aj rfl rfl).wC]
  subst sG;subst h1;have dF:kf w C a0 (ds.map λx=>encI x.1) 1 3:=hH.cj 2001 _ rfl;obtain⟨UG,art,nQ,Iz,aru⟩:ty w C (.box d6 [.Q .none 12 (J.map enc)]):=hH.cj 2000 _ rfl
  obtain⟨aj,rfl⟩:∃aj,UG=[aj]:=by
   match UG,Iz.1 with
   |[aj],_=>exact⟨aj,rfl⟩
  have an:=Iz.2 0 _ aj rfl rfl;obtain⟨b,cap,vs,X,hc,hm,Y,I,fy,de,hcells⟩:=kf.pos dF (i:=0) (by simpa using qV);have hcap:0<cap:=by simp at hc;omega
  have ee:∀x∈ds.map (λx=>encI x.1),x.cells=[x]:=λx F=>by obtain⟨y,_,rfl⟩:=aub.1 F;rfl
  rw[rD ee]at hcells;have eS:0<(J.map enc).length:=by simpa using aw
  rcases an.kh with⟨ao,_⟩|⟨Fg,o,M',g,rfl,_,pR,_,_,sR,aeH,aeI,_,aeJ⟩
  ·rw[ao]at eS;cases eS
  have UH:Fg≠b:=λe=>by rw[e]at aeH;omega
  have IA:d6≠b:=λe=>by
   subst e;exact hH.inj 2000 2001 _ _ d6 atz rfl rfl rfl ⟨_,cap,X,hcap⟩
  have gs:(J.map enc).length=J.length:=by simp
  have aeK:w.cell? ⟨d6,0,none⟩=some (.slice (some ⟨Fg,o,none⟩) J.length M'):=by
   have:w.cell? ⟨d6,0,none⟩=some (.slice (some ⟨Fg,o,none⟩) (J.map enc).length M'):=by simp only[World.cell?,nQ];rfl
   rwa [gs]at this
  have Fh:∀i:Fin J.length,w.cell? ⟨Fg,o+i.1*12,none⟩=some (.string ⟨⟨(J[i.1]).name⟩⟩):=λi=>by
   have M:(b2 (J.map enc))[i.1*12+0]?=some (.O (J[i.1]).name):=by rw[wH sR (n7 i.2) atw];rfl
   have aG:=aeI _ _ M;rw[(aeJ _ _ M).kD]at aG;simpa using aG
  haveI:Inhabited (Fin J.length):=⟨⟨0,aw⟩⟩
  have hU:∀(l:List (Fin J.length)) (j:Nat) (aa:j<l.length),l.toArray[j]! = l[j]:=λl j aa=>by simp[aa]
  have Na:∀args w,(callFunc 254 args).run Tryz.prog w=.ok (.enter 254 args) w:=λargs w=>by
   obtain⟨fn,jg,rA,l'⟩:=jn Tryz.func254 rfl atA;have oM:fn.body.isNone=false:=by cases I:fn.body<;>simp[I]at rA⊢
   simp only[callFunc,Sem.run_bind,run_program,Result.andThen_ok,jg,l',oM,auU,avs,Sem.run_pure]
  have Fi:=Tryz.slices_SortFunc (Ix J.length) (λ_=>rfl) (λx y=>Lib.compareBytes (J[x.1]).name (J[y.1]).name) (UC λx:Fin J.length=>(J[x.1]).name) 254 #[.pointer (some ⟨d6,0,none⟩)] b 0 cap ds.toArray w
   Na (λm os aeL aeM x y=>(aeF d6 Fg o J.length M' x.1 y.1 ⟨⟨(J[x.1]).name⟩⟩ ⟨⟨(J[y.1]).name⟩⟩ _ (M7 _ _ _ _ _ _ _ IA aeK) x.2 y.2
    (M7 _ _ _ _ _ _ _ UH (Fh x)) (M7 _ _ _ _ _ _ _ UH (Fh y))))
   (λj aa=>by
    have gi:j<ds.length:=by simpa using aa
    obtain⟨V,bb,cL,_⟩:=hcells j (encI ds[j].1) (by simp[gi]);refine⟨?_,by simp[World.frozen?,I]⟩;rw[hU ds j gi];simp only[World.cell?,I,auu]
    simp[bb,cL.fw,Ix]) (hD I) atx
  subst X;have hsz:(ds.map λx=>encI x.1).length=ds.toArray.size:=by simp
  have e8:∀(xs:List D),aJ.ef (.row (.slice (some ⟨b,0,none⟩) (ds.map λx=>encI x.1).length cap) xs 1 3) b:=λxs=>⟨_,cap,rfl,hcap⟩;have s2:=hH.cI 2001 _ b rfl (e8 _);have aeN:=hH.cI 2000 _ d6 rfl rfl;rw[hsz]at e8⊢;refine Fi.mono ?_;rintro e w' ⟨rfl,d',m,os,ay,hs,rfl⟩;obtain⟨gB,_,pt⟩:=ay;have jI:d'.toList.length=ds.length:=by simpa using gB
  have a6:=c_.Iw (Ix J.length) w C b 0 m d' os de;refine⟨.tuple #[],.bp [],C,_,rfl,⟨rfl,d'.toList,?_,?_,rfl⟩,.bp [] [] rfl (λi d v N _=>by simp at N),?_,⟨λs o ah=>?_,λs bo o bM x a7 h1 A an cV=>?_,λs o x ah an=>?_⟩⟩
  ·have bV:(d'.extract 0 ds.toArray.size).toList=d'.toList:=by rw[<-gB];simp
   have b9:(ds.toArray.extract 0 ds.toArray.size).toList=ds:=by simp
   rw[bV,b9]at pt;exact pt
  ·intro i j hi aa d9;have eV:=hs i j (at4 _) d9 (by rw[<-gB];simpa using aa);rw[M8 λx:Fin J.length=>(J[x.1]).name]at eV;have g1:d'[j]! = d'.toList[j]:=by rw[getElem!_pos d' j (by simpa using aa)];simp
   have fe:d'[i]! = d'.toList[i]:=by rw[getElem!_pos d' i (by simpa using hi)];simp
   rw[g1,fe]at eV;exact eV
  ·exact⟨a6.ext,a6.os,a6.tape,a6.output,λx F bN=>a6.ix x F λe=>by subst e;exact bN s2⟩
  ·rcases Iy ah with⟨rfl,rfl⟩|⟨rfl,rfl⟩
   ·have UI:∀x∈d'.toList.map (λx=>encI x.1),x.cells=[x]:=λx F=>by obtain⟨y,_,rfl⟩:=aub.1 F;rfl
    refine⟨some ⟨b,0,none⟩,cap,by simp[gB],by simp only[atL]at hc⊢;omega,hm,λx F=>by rw[UI x F];rfl,λdE gb=>⟨b,by cases gb;rfl,auz (hD I) a6.ext.size⟩,
     λ_=>⟨b,_,rfl,Iv _ _ _ _ _ _ _ I,ayy,de,λj d N=>?_⟩⟩
    rw[rD UI]at N;have aa:j<d'.size:=by have:=e7 N;simpa using this
    have Aq:j<vs.size:=by have:=gB;simp at this fy hc;omega
    have Fj:d=encI d'[j].1:=by simp[aa]at N;exact N.symm
    subst Fj;refine⟨Ix J.length d'[j],?_,.int _ _,rfl⟩;simp only[putCells,awA,ave Aq,au7,at4,true_and,auu,aa,auX,Nat.sub_zero];rw[getElem!_pos d' j aa]
   exact(hH.cj 2000 _ rfl).ix a6.ext λx F=>a6.ix x (by cases F;exact hD nQ) (by cases F;exact IA)
  ·rcases Iy h1 with⟨rfl,rfl⟩|⟨rfl,rfl⟩<;>rcases Iy A with⟨rfl,rfl⟩|⟨rfl,rfl⟩
   ·exact a7 rfl
   ·obtain⟨hM,vb,fZ,_⟩:=an;have:=o8 fZ;subst this
    exact IA cV.symm
   ·obtain⟨hM,vb,fZ,_⟩:=cV;have:=o8 fZ;subst this
    exact IA an.symm
   exact a7 rfl
  rcases Iy ah with⟨rfl,rfl⟩|⟨rfl,rfl⟩
  ·obtain⟨hM,vb,fZ,_⟩:=an;have:=o8 fZ;subst this
   exact .inl s2
  cases an;exact .inl aeN
def w7(L:List Int):List Int:=L.mergeSort λx y=>decide (x<=y)
theorem IB{a:Nat}{o:aJ}{s:Nat}(h:aL [(a,dj)] s=some o):s=a/\o=dj:=axz
theorem Nb(L:List Int):∀x∈br L,x.cells=[x]:=λx F=>ayD
variable{Ft:Nat->Prop}{w:World}{C:Nat->Nat}{cap:Nat}
theorem UJ{L ap:List Int}(hH:l6 Ft w C (aL [(2000,.row (.slice (some ⟨b,0,none⟩) L.length cap) (br L) 1 3)]))(h0:0<L.length)(gk:ap.length=L.length)(q:Nat)(os:Array Obj)(m:Nat)(hm:m<=L.length):
  c_ Ft w C (sortWorld (Value.int .i64) w b 0 q ap.toArray os) C/\l6 (λx=>Ft x\/w.heap.size<=x) (sortWorld (Value.int .i64) w b 0 q ap.toArray os) C (aL [(2000,.row (.slice (some ⟨b,0,none⟩) m cap) (br (ap.take m)) 1 3)]):=by
 have eJ:∀ap:List Int,(br ap).length=ap.length:=λap=>by simp[br]
 have dF:kf w C (.slice (some ⟨b,0,none⟩) L.length cap) (br L) 1 3:=hH.cj 2000 _ rfl;obtain⟨eo,hP,vs,dP,hc,BB,Y,I,fy,de,hcells⟩:=kf.pos dF (i:=0) (by rw[eJ];omega);simp only[Value.slice.injEq,aus,Addr.mk.injEq]at dP;obtain⟨⟨rfl,_⟩,_,rfl⟩:=dP;rw[eJ]at hc;have s2:=hH.cI 2000 _ b rfl ⟨_,cap,rfl,by omega⟩;have a6:=c_.Iw (Value.int .i64) w C b 0 q ap.toArray os de;have gs:(ap.take m).length=m:=by rw[at7];omega
 refine⟨⟨a6.ext,a6.os,a6.tape,a6.output,λx F bN=>a6.ix x F λe=>by subst e;exact bN s2⟩,⟨λs mN ah=>?_,λs bo mN arv x a7 h1 A an cV=>?_,λs mN x ah an=>?_⟩⟩
 ·obtain⟨rfl,rfl⟩:=IB ah
  refine⟨some ⟨b,0,none⟩,cap,by rw[eJ,gs],by rw[eJ,gs];omega,BB,λx F=>by rw[Nb _ x F];rfl,λdE gb=>⟨b,by cases gb;rfl,auz (hD I) a6.ext.size⟩,
   λ_=>⟨b,_,rfl,Iv _ _ _ _ _ _ _ I,ayy,de,λj d N=>?_⟩⟩
  rw[Go.bR.rD (Nb _)]at N;have aa:j<m:=by have:=e7 N;rwa [eJ,gs]at this
  have Nc:j<ap.length:=atw
  have Aq:j<vs.size:=by simp at fy;omega
  have Fj:d=.int .i64 ap[j]:=by simp[br,aa,Nc]at N;exact N.symm
  subst Fj;refine⟨.int .i64 ap[j],?_,.int _ _,rfl⟩;simp only[putCells,awA,ave Aq,au7];rw[atI ⟨at4 _,by simpa using Nc⟩,Nat.sub_zero,getElem!_pos ap.toArray j (by simpa using Nc)];rfl
 ·obtain⟨rfl,_⟩:=IB h1;obtain⟨rfl,_⟩:=IB A;exact a7 rfl
 obtain⟨rfl,rfl⟩:=IB ah;obtain⟨hM,vb,fZ,_⟩:=an;have:=o8 fZ;subst this
 exact .inl s2
theorem UK{a:Option Addr}{L:List Int}(hH:l6 Ft w C (aL [(2000,.row (.slice a L.length cap) (br L) 1 3)]))(h0:0<L.length):
  ∃b,a=some ⟨b,0,none⟩/\b<w.heap.size/\L.length<=cap/\Holds (Value.int .i64) w b 0 L.toArray:=by
 have eJ:∀ap:List Int,(br ap).length=ap.length:=λap=>by simp[br]
 have dF:kf w C (.slice a L.length cap) (br L) 1 3:=hH.cj 2000 _ rfl;obtain⟨b,hP,vs,dP,hc,BB,Y,I,fy,de,hcells⟩:=kf.pos dF (i:=0) (by rw[eJ];omega);simp only[Value.slice.injEq]at dP;obtain⟨rfl,_,rfl⟩:=dP;rw[eJ]at hc;rw[Go.bR.rD (Nb _)]at hcells;refine⟨b,rfl,hD I,hc,λj aa=>?_⟩;have gi:j<L.length:=by simpa using aa
 obtain⟨V,bb,cL,_⟩:=hcells j (u L[j]) (by simp[br,gi]);refine⟨?_,by simp[World.frozen?,I]⟩;have aW:L.toArray[j]! = L[j]:=by simp[gi]
 rw[aW];simp only[World.cell?,I,auu];simp[bb,cL.fw]
theorem Fk(L:List Int):(w7 L).length=L.length:=awz _
theorem aeO(L:List Int)(a:Option Addr)(n cap:Nat)(aw:n=L.length)(al:L.length<1000000): c1 B 49 [.ai (.slice a n cap)] (aL [(2000,.row (.slice a n cap) (br L) 1 3)]) λd aP=>d=.bp []/\aP=aL [(2000,.row (.slice a n cap) (br (w7 L)) 1 3)]:=by subst aw;refine⟨jn Tryz.func49 rfl atA,λw C args Ft pS qD hH ae=>?_⟩;obtain⟨nw,ae⟩:=ae;match args,nw with|[a0],_ =>have h1:=(ae 0 _ a0 rfl rfl).f4;subst h1;rcases auF L.length with h0|h0;have a1:L=[]:=atZ h0;subst a1;refine(Tryz.slices_Sort_int_none a cap w).mono ?_;rintro e w' ⟨rfl,rfl⟩;refine⟨.tuple #[],.bp [],C,_,rfl,⟨rfl,rfl⟩,.bp [] [] rfl (λi d v N _=>by simp at N),.refl _ _ _,?_⟩;rw[show w7 []=[] by simp[w7]];exact⟨hH.cj,hH.inj,λs mN x ah an=>.inl (hH.cI s mN x ah an)⟩;obtain⟨b,rfl,I,hc,cF⟩:=UK hH h0;refine(Tryz.slices_Sort_int b 0 cap L w cF I atw).mono ?_;rintro e w' ⟨rfl,q,os,rfl⟩;obtain⟨h1,A⟩:=UJ hH h0 (Fk L) q os L.length (atQ _);rw[aug (by rw[Fk];exact atQ _)]at A;exact⟨.tuple #[],.bp [],C,_,rfl,⟨rfl,rfl⟩,.bp [] [] rfl (λi d v N _=>by simp at N),h1,A⟩
theorem aeP(L:List Int):(Lib.compact L).length<=L.length:=by rw[Lib.compact,Lib.compactUpTo,atL];have:=aum (Lib.keeps L.toArray) (List.range L.length);simpa using this
theorem aeQ(L:List Int)(a:Option Addr)(n cap:Nat)(aw:n=L.length)(al:L.length<1000000): c1 B 50 [.ai (.slice a n cap)] (aL [(2000,.row (.slice a n cap) (br L) 1 3)]) λd aP=>∃m,m=(Lib.compact L).length/\d=.ai (.slice a m cap)/\aP=aL [(2000,.row (.slice a m cap) (br (Lib.compact L)) 1 3)]:=by subst aw;refine⟨jn Tryz.func50 rfl atA,λw C args Ft pS qD hH ae=>?_⟩;obtain⟨nw,ae⟩:=ae;match args,nw with|[a0],_ =>have h1:=(ae 0 _ a0 rfl rfl).f4;subst h1;rcases auF L.length with h0|h0;have a1:L=[]:=atZ h0;subst a1;refine(Tryz.slices_Compact_int_empty a cap w).mono ?_;rintro e w' ⟨rfl,rfl⟩;refine⟨_,_,C,_,rfl,⟨_,rfl,rfl,rfl⟩,.ai _,.refl _ _ _,?_⟩;exact⟨hH.cj,hH.inj,λs mN x ah an=>.inl (hH.cI s mN x ah an)⟩;obtain⟨b,rfl,I,hc,cF⟩:=UK hH h0;refine(Tryz.slices_Compact_int b 0 cap L w cF atw hc).mono ?_;rintro e w' ⟨rfl,q,rfl⟩;have jE:=aeP L;obtain⟨h1,A⟩:=UJ (ap:=Lib.compact L++List.replicate (L.length-(Lib.compact L).length) 0) hH h0 atx q #[] (Lib.compact L).length jE;rw[List.take_left'  rfl]at A;(have bV:sortWorld (Value.int .i64) w b 0 q (Lib.compact L++List.replicate (L.length-(Lib.compact L).length) 0).toArray #[]=putRow (Value.int .i64) (Sort.ahead w q) b 0 (Lib.compact L++List.replicate (L.length-(Lib.compact L).length) 0).toArray:=by rw[sortWorld,grow_empty]);rw[bV]at h1 A;exact⟨_,_,C,_,rfl,⟨_,rfl,rfl,rfl⟩,.ai _,h1,A⟩
theorem UL(cC:List np)(h:cC.length<1000000000):aU B 86 [.Q .none 2 (cC.map c4)] (.Q .none 2 (cC.map c4)):=by refine bA Tryz.func86 Tryz.ntmps86 λU=>?_;apply b4;apply nk;refine W.D' aM ?_;(conv=>whnf);refine .inr (af.Ht (bI:=147) aM rfl rfl rfl λkt nV=>?_);refine aK _ rfl ?_ ?_<;>intro hc;refine gj ?_;have pP:=nV hc;rw[pP];exact aq.nil;apply co;refine cl ?_;refine o' ?_;refine⟨by show(0+(cC.map c4).length)*32<=_;simp;omega,by show 0+(cC.map c4).length<=_;simp;omega,atD,λv=>?_⟩;refine iD ?_;exact aq.trans (aq.of_eq (atJ (D.Q _ 2) (au6 _))) aq.mL
def uh(dq:List ad)(vs:Array Value)(p:Fin dq.length):List Value:=.string ⟨⟨(dq[p.1]).name⟩⟩::(List.range 11).map λc=>vs.getD (p.1*12+(c+1)) undef
theorem UM(dq:List ad)(vs:Array Value)(p:Fin dq.length):(uh dq vs p).length=12:=rfl
theorem aeR(n:ad):(aE n).cells.length=12:=rfl
theorem Nd{dq:List ad}{vs:Array Value}(h:∀(j:Nat) d,(b2 (dq.map aE))[j]?=some d->∃aj,vs[j]?=some aj/\bh w C d aj/\aj.oneCell'=true)(p:Fin dq.length){c:Nat}(hc:c<12): ∃d aj,(aE dq[p.1]).cells[c]?=some d/\vs[p.1*12+c]?=some aj/\bh w C d aj/\aj.oneCell'=true/\(uh dq vs p)[c]?=some aj:=by(have Y:∀x∈dq.map aE,x.cells.length=12:=λx F=>ayD);(have F:(dq.map aE)[p.1]?=some (aE dq[p.1]):=by simp);obtain⟨d,N⟩:=lE (l:=(aE dq[p.1]).cells) (i:=c) (by rw[aeR];exact hc);obtain⟨aj,h1,A,Z⟩:=h (p.1*12+c) d (by rw[wH Y F hc];exact N);refine⟨d,aj,N,h1,A,Z,?_⟩;cases c with|zero =>(have:d=.O (dq[p.1]).name:=by cases N;rfl);subst this;rw[A.kD];rfl|succ c =>simp only[uh,List.getElem?_cons_succ,aud,List.getElem?_range (show c<11 by omega),au7];simp[avt,h1]
theorem aeS(dq:List ad)(aw:0<dq.length)(hlen:dq.length<1000000)(v:Value):
  c1 B 350 [.ai v,.fn (.func 351) [] []] (aL [(2001,.row v (dq.map aE) 12 44)]) λd aP =>
   d=.bp []/\∃Ar:List ad,Ar.Perm dq/\(∀(i j:Nat) (hi:i<Ar.length) (aa:j<Ar.length),i<j->Op.bytesLess (Ar[j]).name (Ar[i]).name=false)/\aP=aL [(2001,.row v (Ar.map aE) 12 44)]:=by
 refine⟨jn Tryz.func350 rfl atA,λw C args Ft pS qD hH ae=>?_⟩;obtain⟨al,ae⟩:=ae
 match args,al with
 |[a0,gR],_ =>
  have h0:=(ae 0 _ a0 rfl rfl).f4;obtain⟨fM,he,h1,A,Z⟩:=(ae 1 _ gR rfl rfl).u3;subst h0;have M_:fM=[]:=atZ A.1.symm;have sG:he=[]:=atZ Z.1.symm;subst M_ sG h1;have dF:kf w C a0 (dq.map aE) 12 44:=hH.cj 2001 _ rfl;obtain⟨b,cap,vs,X,hc,hm,Y,I,fy,de,hcells⟩:=kf.pos dF (i:=0) (by simpa using aw);have hcap:0<cap:=by simp at hc;omega
  haveI:Inhabited (Fin dq.length):=⟨⟨0,aw⟩⟩
  have Na:∀args w,(callFunc 351 args).run Tryz.prog w=.ok (.enter 351 args) w:=λargs w=>by
   obtain⟨fn,jg,rA,l'⟩:=jn Tryz.func351 rfl atA;have oM:fn.body.isNone=false:=by cases I:fn.body<;>simp[I]at rA⊢
   simp only[callFunc,Sem.run_bind,run_program,Result.andThen_ok,jg,l',oM,auU,avs,Sem.run_pure]
  have jI:(Array.ofFn (n:=dq.length) id).size=dq.length:=by simp
  have aeT:∀(p:Nat) (ay:p<dq.length),(Array.ofFn (n:=dq.length) id)[p]! = ⟨p,ay⟩:=λp ay=>by
   rw[getElem!_pos _ p (by simpa using ay)];simp
  have UN:∀(d:Array (Fin dq.length)) (j:Nat),j<d.size*12->(flatK (uh dq vs) 12 d)[j]! = ((uh dq vs d[j/12]!)[j%12]!):=λd j aa=>get_flatK _ _ _ _ aa
  have Fi:=AnyQ.slices_SortFunc Tryz.laysSlF0_f350 12 (λw=>by kernel_rfl) (λw=>by kernel_rfl) (uh dq vs) (UM dq vs) (λp aj an=>by
    obtain⟨c,Nf⟩:=auf.1 an;have aeU:c<12:=by have:=e7 Nf;rwa [UM]at this
    obtain⟨d,aeV,_,_,_,hw,sK⟩:=Nd hcells p aeU
    rw[sK]at Nf;cases Nf;exact hw)
   (λx y=>Lib.compareBytes (dq[x.1]).name (dq[y.1]).name) (UC λx:Fin dq.length=>(dq[x.1]).name) 351 #[] b 0 cap (Array.ofFn (n:=dq.length) id) w Na
   (λm os aeL aeM x y=>aeE ⟨⟨(dq[x.1]).name⟩⟩ ⟨⟨(dq[y.1]).name⟩⟩ _ _ _ _ _ _ _ _ _ _ _ _ _ _ _ _ _ _ _ _ _ _ _)
   (λj aa=>by
    rw[size_flatK,jI]at aa;have ay:j/12<dq.length:=atw
    obtain⟨d,aj,_,cL,_,_,sK⟩:=Nd hcells ⟨j/12,ay⟩ (c:=j%12) atw;have gi:j/12*12+j%12=j:=atw
    rw[gi]at cL;refine⟨?_,by simp[World.frozen?,I]⟩;rw[UN _ j (by rw[jI];exact aa),aeT _ ay];simp only[World.cell?,I,auu,id];rw[cL];congr 1
    simp[sK,List.getElem!_eq_getElem?_getD]) (hD I) (by rw[jI];omega)
  subst X;have hsz:(dq.map aE).length=(Array.ofFn (n:=dq.length) id).size:=by simp
  have e8:∀(xs:List D),aJ.ef (.row (.slice (some ⟨b,0,none⟩) (dq.map aE).length cap) xs 12 44) b:=λxs=>⟨_,cap,rfl,hcap⟩;have s2:=hH.cI 2001 _ b rfl (e8 _);rw[hsz]at e8⊢;refine Fi.mono ?_;rintro e w' ⟨rfl,d',m,os,ay,hs,rfl⟩;obtain⟨gB,_,pt⟩:=ay;have aeW:d'.size=dq.length:=by rw[gB,jI]
  have a6:c_ (λx=>x=b) w C (sortWorldK (uh dq vs) 12 w b 0 m d' os) C:=c_.Iw id w C b 0 m (flatK (uh dq vs) 12 d') os de;have aeX:(sortWorldK (uh dq vs) 12 w b 0 m d' os).heap[b]?=some (.cells (putCells id 0 (flatK (uh dq vs) 12 d') vs) 44 (0,0)):=Iv id w b 0 m (flatK (uh dq vs) 12 d') os I
  have IC:∀{s o} (l:aJ),aL [(2001,l)] s=some o->s=2001/\o=l:=λ{s o} l h=>by
   simp only[aL]at h
   cases h1:Nat.beq s 2001 with
   |true=>rw[h1]at h;cases h;exact⟨auc h1,rfl⟩
   |false=>rw[h1]at h;cases h
  have aeY:d'.toList.Perm (List.finRange dq.length):=by
   have bV:(d'.extract 0 (Array.ofFn (n:=dq.length) id).size).toList=d'.toList:=by rw[<-gB];simp
   have b9:((Array.ofFn (n:=dq.length) id).extract 0 (Array.ofFn (n:=dq.length) id).size).toList=List.finRange dq.length:=by
    simp only[Array.extract_size,Array.toList_ofFn];rfl
   rw[bV,b9]at pt;exact pt
  have aeZ:(List.finRange dq.length).map (λp=>dq[p.1])=dq:=by
   apply au4;intro j;by_cases aa:j<dq.length
   ·simp[aa]
   simp[atW (Nat.le_of_not_lt aa)];omega
  refine⟨.tuple #[],.bp [],C,_,rfl,⟨rfl,d'.toList.map (λp=>dq[p.1]),?_,?_,rfl⟩,.bp [] [] rfl (λi d v N _=>by simp at N),?_,⟨λs o ah=>?_,λs bo o bM x a7 h1 A an cV=>?_,λs o x ah an=>?_⟩⟩
  ·have:=aeY.map λp=>dq[p.1]
   rwa [aeZ]at this
  ·intro i j hi aa d9;have lN:i<d'.size:=by simpa using hi
   have gi:j<d'.size:=by simpa using aa
   have eV:=hs i j (at4 _) d9 (by rw[<-gB];exact gi);rw[M8 λx:Fin dq.length=>(dq[x.1]).name]at eV;rw[getElem!_pos d' j gi,getElem!_pos d' i lN]at eV;simpa using eV
  ·exact⟨a6.ext,a6.os,a6.tape,a6.output,λx F bN=>a6.ix x F λe=>by subst e;exact bN s2⟩
  ·obtain⟨rfl,rfl⟩:=IC _ ah;have fH:∀x∈(d'.toList.map (λp=>dq[p.1])).map aE,x.cells.length=12:=λx F=>by obtain⟨y,_,rfl⟩:=aub.1 F;rfl
   refine⟨some ⟨b,0,none⟩,cap,by simp[aeW],by simp at hc⊢;omega,hm,fH,λdE gb=>⟨b,by cases gb;rfl,auz (hD I) a6.ext.size⟩,
    λ_=>⟨b,_,rfl,aeX,ayy,de,λj d N=>?_⟩⟩
   have aa:j<d'.size*12:=by have:=e7 N;rw[pI fH]at this;simpa using this
   have G:j/12<d'.size:=atw
   have Aq:j<vs.size:=by rw[fy];simp at hc;omega
   have F:((d'.toList.map (λp=>dq[p.1])).map aE)[j/12]?=some (aE dq[(d'[j/12]).1]):=by simp[G]
   have ae0:j/12*12+j%12=j:=atw
   have rU:=wH fH F (j:=j%12) atw;rw[ae0,N]at rU;obtain⟨d2,aj,bb,cL,eV,fZ,hw⟩:=Nd hcells d'[j/12] (c:=j%12) atw;rw[bb]at rU;cases rU
   refine⟨aj,?_,eV.ext a6.ext,fZ⟩;simp only[putCells,awA,ave Aq,au7,at4,true_and,auu,size_flatK,aa,auX,Nat.sub_zero,id];rw[UN d' j aa,getElem!_pos d' _ G];simp[hw,List.getElem!_eq_getElem?_getD]
  ·obtain⟨rfl,rfl⟩:=IC _ h1;obtain⟨rfl,rfl⟩:=IC _ A;exact a7 rfl
  obtain⟨rfl,rfl⟩:=IC _ ah;obtain⟨hM,vb,fZ,_⟩:=an;have:=o8 fZ;subst this
  exact .inl s2
variable{i j:Nat}
theorem r3{l:List ad}(h:gN l)(d9:i<j)(aa:j<l.length):Op.bytesLess (l[i]' atw).name (l[j]).name=true:=by have:=aeD h d9 aa;simpa[List.getD,aa,show i<l.length by omega]using this
theorem ae1{l:List ad}(h:gN l):l.Pairwise λa b=>Op.bytesLess b.name a.name=false :=
 auZ.2 λi j hi aa d9=>Fc (r3 h d9 aa)
theorem Ng{l iZ:List ad}(h:gN l)(ay:iZ.Perm l)(hs:∀(i j:Nat) (hi:i<iZ.length) (aa:j<iZ.length),i<j->Op.bytesLess (iZ[j]).name (iZ[i]).name=false):iZ=l:=by refine awf (le:=λa b=>Op.bytesLess b.name a.name=false) (λa b ha I h1 A=>?_) (auZ.2 λi j hi aa d9=>hs i j hi aa d9) (ae1 h) ay;have l':=w6 _ _ A h1;obtain⟨i,hi,rfl⟩:=aur.1 (ay.subset ha);obtain⟨j,aa,rfl⟩:=aur.1 I;rcases awc i j with e|e|e;exact absurd l' (s1 (r3 h e aa));subst e;rfl;exact absurd l'.symm (s1 (r3 h e hi))
variable{J:List ad}
theorem ae2(h:gN J){l:List (Fin J.length)}(ay:l.Perm (List.finRange J.length))(hs:∀(i j:Nat) (hi:i<l.length) (aa:j<l.length),i<j->Op.bytesLess (J[l[j].1]).name (J[l[i].1]).name=false):l=List.finRange J.length:=by refine awf (le:=λa b=>Op.bytesLess (J[b.1]).name (J[a.1]).name=false) (λa b ha I h1 A=>?_) (auZ.2 λi j hi aa d9=>hs i j hi aa d9) ((List.pairwise_lt_finRange _).imp λ{a b} pW=>Fc (r3 h pW b.2)) ay;have l':=w6 _ _ A h1;rcases awc a.1 b.1 with e|e|e;exact absurd l' (s1 (r3 h e b.2));exact Fin.ext e;exact absurd l'.symm (s1 (r3 h e a.2))
def et(n:Nat):List D:=(List.range n).map λi=>u (i:Nat)
theorem Nh(n:Nat):(List.finRange n).map (λx=>encI x.1)=et n:=by apply au4;intro j;by_cases aa:j<n;simp[et,encI,aa];rw[atW atx,atW (by simp[et];omega)]
theorem UO(J:List ad)(h:gN J)(hlen:J.length<1000000)(d6:Nat)(v:Value): c1 B 253 [.ai v,.fn (.func 254) [] [.box 2000 d6 0]] (aL [(2001,.row v (et J.length) 1 3),(2000,.box d6 [.Q .none 12 (J.map enc)])]) λd aP => d=.bp []/\aP=aL [(2001,.row v (et J.length) 1 3),(2000,.box d6 [.Q .none 12 (J.map enc)])]:=by by_cases h0:0<J.length;have hc:=UE (B:=B) J h0 hlen d6 v (List.finRange J.length) (by simpa using h0) (by simpa using hlen);rw[Nh]at hc;refine hc.mono ?_;rintro d aP ⟨rfl,kG,ay,hs,rfl⟩;rw[ae2 h ay hs,Nh];exact⟨rfl,rfl⟩;(have aw:J.length=0:=by omega);rw[aw];exact UD v _ _
variable{f:FuncId}{ds:List D}{a8:D->bE->Prop}{k:Nat}
theorem _root_.Go.bR.c5.UP{H:bE}{s:Nat}{o:aJ}(h:H s=some o)(hc:c1 B f ds (aL [(k,o)]) a8):c1 B f ds (gx H [(k,s)]) a8:=axx
theorem ae3:∀(l:List Int),l.length<=3->l.Pairwise (·<=·)->(Lib.compact l).Pairwise (·<·)/\∀x,x∈Lib.compact l↔x∈l
 |[],_,_=>by simp[Lib.compact,Lib.compactUpTo]
 |[a],_,_=>by simp[Lib.compact,Lib.compactUpTo,Lib.keeps,avl]
 |[a,b],_,h=>by simp at h;by_cases h1:a=b;subst h1;simp[Lib.compact,Lib.compactUpTo,Lib.keeps,avl];have:¬b=a:=λe=>h1 e.symm;simp[Lib.compact,Lib.compactUpTo,Lib.keeps,avl,auM,h1,this];omega
 |[a,b,c],_,h=>by simp at h;by_cases h1:b=a<;>by_cases A:c=b;subst h1;subst A;simp[Lib.compact,Lib.compactUpTo,Lib.keeps,avl,auM];subst h1;simp[Lib.compact,Lib.compactUpTo,Lib.keeps,avl,auM,A];omega;subst A;simp[Lib.compact,Lib.compactUpTo,Lib.keeps,avl,auM,h1];omega;simp[Lib.compact,Lib.compactUpTo,Lib.keeps,avl,auM,h1,A];omega
 |_::_::_::_::_,h,_=>by simp at h
theorem ae4{a b:List Int}(ha:a.Pairwise (·<·))(I:b.Pairwise (·<·))(h:∀x,x∈a↔x∈b):a=b:=by
 have ID:a.Nodup:=ha.imp λh=>by omega
 have kt:b.Nodup:=I.imp λh=>by omega
 exact awf (le:=λx y:Int=>x<y) (λx y _ _ h1 A=>by omega) ha I ((List.perm_ext_iff_of_nodup ID kt).2 h)
theorem ae5(l:List Int):(w7 l).Pairwise (·<=·):=by have:=awl (le:=λx y:Int=>decide (x<=y)) (λx y V h1 A=>by simp only[aut]at*;omega) (λx y=>by simp only[au5,aut];omega) l;exact this.imp λh=>by simpa using h
theorem ae6(l:List Int)(x:Int):x∈w7 l↔x∈l:=(awJ l _).mem_iff
def qd(S L:Int):List Int:=[S+256,L-256,L]
def Cl(S L k:Int):Bool:=bif decide (S<=k)then decide (k<=L)else false
def qe(S L:Int)(i:Nat):List Int:=((qd S L).take i).filter (Cl S L)
theorem UQ(S L:Int)(i:Nat):(qe S L i).length<=3:=by have h1:=aum (Cl S L) ((qd S L).take i);rw[at7]at h1;have:(qd S L).length=3:=rfl;have A:(qe S L i).length<=_:=h1;omega
theorem ae7(S L:Int)(h:i<(qd S L).length):qe S L (i+1)=qe S L i++(if Cl S L ((qd S L)[i]'h)=true then[(qd S L)[i]'h]else[]):=by rw[qe,atM h,auY,<-qe,auM,List.filter_nil]
theorem ae8(S L:Int)(n:Nat):(Cf S L n).Pairwise (·<·):=by rw[Cf];refine List.Pairwise.sublist List.filter_sublist ?_;rw[avz];exact(List.pairwise_lt_range).imp λh=>by omega
theorem ae9{S C:Int}(h:yw S C=true):Lib.compact (w7 (qe S (S+C-1) 3))=yx S C:=by obtain⟨h1,A,Z,aG⟩:=MV.1 h;obtain⟨bb,cL⟩:=ae3 (w7 (qe S (S+C-1) 3)) (by rw[Fk];exact UQ _ _ _) (ae5 _);rw[yx,atI h];refine ae4 bb (ae8 _ _ _) λx=>?_;rw[cL,ae6,qe,Cf,auw,auw,aub];(have Y:Cl S (S+C-1) x=true↔S<=x/\x<=S+C-1:=by unfold Cl;cases eV:decide (S<=x)<;>simp at eV<;>simp<;>omega);(have hc:Is S (S+C-1) x=true↔x=S+256\/x=S+C-1-256\/x=S+C-1:=by unfold Is;cases eV:x==S+256<;>cases fZ:x==S+C-1-256<;>simp at eV fZ<;>simp<;>omega);rw[Y,hc];(have hm:x∈(qd S (S+C-1)).take 3↔x=S+256\/x=S+C-1-256\/x=S+C-1:=by simp[qd]);rw[hm];constructor;rintro⟨eV,fZ,hw⟩;exact⟨⟨(x-S).toNat,avg.2 atw,by omega⟩,eV⟩;rintro⟨⟨j,aa,rfl⟩,eV⟩;have:=avg.1 aa;exact⟨eV,by omega,by omega⟩
def Ni(S C:Int):Bool:=bif (bif (bif decide (S<0)then true else decide (C<1))then true else decide (4096<S))then true else decide (4096-S<C)
theorem UR(S C:Int):Ni S C=!yw S C:=by unfold Ni yw;cases h1:decide (S<0)<;>cases A:decide (C<1)<;>cases Z:decide (4096<S)<;>cases aG:decide (4096-S<C)<;>simp at h1 A Z aG<;>simp<;>omega
theorem ae_(S C:Int):aU B 16 [vB (S,C),.bool false] (.Q .none 1 (br (yx S C))):=by refine bA Tryz.func16 Tryz.ntmps16 λU=>?_;refine cl ?_;intro cm;refine p4 ?_;refine iE ?_;refine ib ?_;refine iE ?_;refine ib ?_;refine iE ?_;refine iE ?_;refine mQ ?_;refine .inl ⟨λh=>by simp only[du];revert h;cases h1:decide (S<0)<;>cases A:decide (C<1)<;>cases Z:decide (4096<S)<;>simp<;>simp at h1 A Z<;>omega,?_⟩;refine go ?_;refine aK (Ni S C) rfl ?_ ?_<;>intro hc;refine go ?_;(have h:¬yw S C=true:=by rw[UR]at hc;simpa using hc);rw[yx,atH h];exact aq.nil;apply co;(have h:yw S C=true:=by rw[UR]at hc;simpa using hc);obtain⟨h1,A,Z,aG⟩:=MV.1 h;apply b4;(conv=>whnf);refine da ?_;apply b4;(conv=>whnf);refine da ?_;refine W.lI (α:=Unit) (λx=>[(2,.box 2 cm 0),(5,u (S+C-1)),(6,.Q .none 1 (br (qd S (S+C-1))))]) (λx=>[(2,.box cm [u S,u C])]) ?_ ?_;apply b4;refine aK false rfl ?_ ?_<;>intro hc;cases hc;refine go ?_;exact⟨(),[(2,2)],⟨E,E,aq.iw _,ak⟩,rfl,bc⟩;rintro⟨⟩;apply b4;refine p3 ?_;refine W.qE 1000 1 3 ?_;refine go ?_;refine W.ec (α:={i:Nat // i<=3}×Option Addr×Nat×Nat) (λx=>[(2,.box 2 cm 0),(5,u (S+C-1)),(7,.ai (.slice x.2.1 x.2.2.1 x.2.2.2)),(47,.Q .none 1 (br (qd S (S+C-1)))),(48,u 3),(49,u x.1.1)]) (λx=>[(2,.box cm [u S,u C]),(1000,.row (.slice x.2.1 x.2.2.1 x.2.2.2) (br (qe S (S+C-1) x.1.1)) 1 3)]) (λx=>3-x.1.1) (⟨0,by omega⟩,none,0,0) [(2,2),(1000,1000)] ⟨⟨E,E,aq.rG,E,E,E,ak⟩,rfl,bc⟩ ?_;rintro⟨⟨i,hi⟩,bJ,cN,cap⟩;dsimp only at hi⊢;have gI:=UQ S (S+C-1) i;have Nj:(qd S (S+C-1)).length=3:=rfl;refine go ?_;refine aK (decide ((i:Int)<3)) rfl ?_ ?_<;>intro hc;refine go ?_;(have aI:i<3:=by have:=aua hc;omega);have IE:i<(qd S (S+C-1)).length:=aI;have cS:=ae7 S (S+C-1) IE;(have hU:(br (qd S (S+C-1)))[i]?=some (.int .i64 ((qd S (S+C-1))[i]'(IE))):=by rw[br,aud,atK IE];rfl);generalize(qd S (S+C-1))[i]'(IE)=hB at*;generalize arw:qe S (S+C-1) i=Nk at*;(have fq:(br Nk).length=Nk.length:=by simp[br]);refine go ?_;refine⟨λ_=>by simp[br];omega,?_⟩;refine go ?_;refine⟨u hB,λ_=>by rw[auj];exact hU,?_⟩;refine go ?_;refine aK (Cl S (S+C-1) hB) rfl ?_ ?_<;>intro hc;refine go ?_;refine .inr (af.nU aM 1000 rfl rfl rfl atD rfl rfl rfl (avY) (by show(_+1)*8<=_;omega) (by show _+1<=_;omega) λIF yB IG=>?_);refine go ?_;rw[atI hc]at cS;(have ao:br Nk++[u hB]=br (qe S (S+C-1) (i+1)):=by rw[cS];simp[br]);exact⟨(⟨i+1,by omega⟩,IF,yB,IG),[(2,2),(1000,65)],by show 3-(i+1)<3-i;omega,ar,rfl,rfl,rfl,rfl,atJ (λV=>some (aJ.row (.slice IF yB IG) V 1 3)) ao,ak⟩;refine go ?_;rw[atH (by rw[hc];decide),auG]at cS;exact⟨(⟨i+1,by omega⟩,bJ,cN,cap),[(2,2),(1000,1000)],by show 3-(i+1)<3-i;omega,ar,rfl,rfl,rfl,rfl,atJ (λV=>some (aJ.row (.slice bJ cN cap) (br V) 1 3)) cS.symm,ak⟩;(have ci:i=3:=by have:=at2 hc;omega);subst ci;refine W.B1 1000 rfl λa3 arx X pd x3=>?_;simp only[Value.slice.injEq]at X;obtain⟨rfl,sC,rfl⟩:=X;(have Fl:cN=(qe S (S+C-1) 3).length:=by rw[sC];simp[br]);refine go ?_;refine .inr (af.call rfl [.ai (.slice bJ cN cap)] [(2000,1000)] (c5.UP rfl (aeO (qe S (S+C-1) 3) bJ cN cap Fl atw)) rfl ar ?_);rintro d aP ⟨rfl,rfl⟩;refine⟨_,E,?_⟩;refine qH ?_;refine .inr (af.call rfl [.ai (.slice bJ cN cap)] [(2000,1000)] (c5.UP rfl (aeQ (w7 (qe S (S+C-1) 3)) bJ cN cap (by rw[Fk];exact Fl) (by rw[Fk];omega))) rfl ar ?_);rintro d aP ⟨m,hm,rfl,rfl⟩;rw[ae9 h];refine rH ?_;refine W.fb [(4,.ai (.slice bJ m cap))] [(1000,.row (.slice bJ m cap) (br (yx S C)) 1 3)] [(1000,1000)] ⟨ar,rfl,bc⟩ ?_;refine W.vp 1000 4 rfl ?_;refine go ?_;exact E
theorem US(m:fv)(S C:Int):aU B 39 [ih m,vB (S,C)] (.Q .none 1 (br (rZ m S C))):=by refine bA Tryz.func39 Tryz.ntmps39 λU=>?_;refine go ?_;intro cm;refine go ?_;intro eR;refine go ?_;refine bs (rV m.fP 3 atz) ?_;refine aK (!ku m.fP 3) rfl ?_ ?_<;>intro hc;refine go ?_;rw[rZ,atH (by simpa using hc)];exact aq.nil;refine go ?_;refine bs (ae_ S C) ?_;rw[rZ,atI (by simpa using hc)];exact E
structure cP where
 path:atG
 start:Int
 len:Int
def bl(f:cP):D:=.agg [.O f.path,u f.start,u f.len]
structure r4 where
 S:Int
 C:Int
 iS:Int
 iC:Int
 kind:Int
 opn:Bool
 uS:Int
 uC:Int
 recg:Int
 As:Int
 pC:Int
 At:List Int
 commit:Int
 spS:Int
 spC:Int
 files:List cP
def lV(l:r4):D:=.agg [u l.S,u l.C,u l.iS,u l.iC,u l.kind,.bool l.opn,u l.uS,u l.uC,u l.recg,u l.As,u l.pC,.Q .none 1 (br l.At),u l.commit,u l.spS,u l.spC,.Q .none 3 (l.files.map bl)]
theorem Nl{l:List cP}(h:i<l.length):(l.map bl)[((i:Int)).toNat]?=some (bl l[i]):=by simp[h]
theorem UT{l:List Int}(h:i<l.length):(br l)[((i:Int)).toNat]?=some (.int .i64 l[i]):=by simp[br,h]
theorem ae'(m:fv)(S C:Int):(rZ m S C).length<=C.toNat:=by unfold rZ;split;unfold yx;split;exact ad8 _ _ _;simp;simp
theorem afa{m:fv}{S C b:Int}(h:b∈rZ m S C):S<=b/\b<=8192:=by unfold rZ at h;split at h;unfold yx at h;split at h;rename_i h1 A;obtain⟨Z,aG,bb,cL⟩:=MV.1 A;rw[Cf,auw,aub]at h;obtain⟨⟨j,aa,rfl⟩,_⟩:=h;have:=avg.1 aa;omega;cases h;cases h
end Go.bR.ck

namespace Go.bR.ck
open Go Go.Proofs Go.RowKit Go.ChangeShapes Go.Deep Go.WideShapes Go.ChangeAt
open YtfnpcdbnoggloaaGreatDoor (Rows.uptoBulk Rows.uptoBulkAll)
variable{H:Type}{ez:TypeId×Value->H}{bq:World}
abbrev hX(d:DataW H):Nat:=YtfnpcdbnoggloaaGreatDoor.Rows.uptoBulk d
abbrev Au(d:List (DataW H)):Nat:=YtfnpcdbnoggloaaGreatDoor.Rows.uptoBulkAll d
theorem UU{α:Type}{m:α->Nat}{c:Nat}:∀{l:List α} {ds:List (DataW H)},ds.length=l.length->(∀(i:Nat) a y,l[i]?=some a->ds[i]?=some y->m a<=c*hX y)->(l.map m).sum<=c*Au ds
 |[],[],_,_=>by simp
 |a::l,y::ds,al,h=>by have h1:=h 0 a y rfl rfl;have A:=UU (l:=l) (ds:=ds) (by simpa using al) λi a y Z aG=>h (i+1) a y (by simpa using Z) (by simpa using aG);(have Z:c*Au (y::ds)=c*hX y+c*Au ds:=by simp only[Au,hX,YtfnpcdbnoggloaaGreatDoor.Rows.uptoBulkAll,Nat.mul_add]);rw[Z,aui,awX];omega
variable{α:Type}
theorem IH{m:α->Nat}{c:Nat}{l:List α}{d:DataW H}(h:Si (λa y=>m a<=c*hX y) l d):(l.map m).sum<=c*hX d:=by rcases h with⟨rfl,rfl⟩|⟨ds,pZ,rfl,al,aW⟩;simp;have:=UU al aW;(have Z:c*hX (.slice ds pZ)=c*Au ds+c*Au pZ+c*1:=by simp only[Au,hX,YtfnpcdbnoggloaaGreatDoor.Rows.uptoBulk,Nat.mul_add]);rw[Z];omega
theorem UV:∀l:List np,lQ l=(l.map λs=>2+s.name.length+s.target.length).sum
 |[]=>rfl
 |s::r=>by simp only[lQ,aui,awX,UV r]
theorem UW:∀l:List ad,eG l=(l.map λn=>2*n.name.length+2+aC n).sum
 |[]=>by simp[eG]
 |s::r=>by simp only[eG,aui,awX,UW r]
theorem afb(n:Nat):e0 ez Tryz.prog bq n 147 c4 (λs d=>2+s.name.length+s.target.length<=1*hX d):=by intro aB x h;obtain⟨xs,m,rfl,F,jE,hC,M⟩:=Eh Tryz.underlying147 atB atB h;match aB,jE,xs,hC with|[hY,ev],_,[nx,oc],_ =>obtain⟨gl,gz,lL,_⟩:=e0.O (enc:=ez) (bq:=bq) (n:=m) Tryz.underlying9 [hY] nx (M 0 _ hY nx rfl rfl rfl);obtain⟨fa,lh,bV,_⟩:=e0.O (enc:=ez) (bq:=bq) (n:=m) Tryz.underlying9 [ev] oc (M 1 _ ev oc rfl rfl rfl);refine⟨⟨gl,fa⟩,.cons gz.head (.cons lh.head (.nil _ _)),?_⟩;rw[F];simp only[aui,avr,lL,bV,hX,YtfnpcdbnoggloaaGreatDoor.Rows.uptoBulk,YtfnpcdbnoggloaaGreatDoor.Rows.uptoBulkAll];omega
theorem UX:∀(bD n:Nat),n<bD->e0 ez Tryz.prog bq n 44 enc (λs d=>2*s.name.length+2+aC s<=2*hX d)
 |0,n,aw=>absurd aw (avf _)
 |bD+1,n,aw=>by intro aB x h;obtain⟨xs,m,rfl,F,jE,hC,M⟩:=Eh Tryz.underlying44 atB atB h;match aB,jE,xs,hC with|[hY,ev,dB,lW,od,pu,r5,r6,vJ,vK,mr,vL],_,[nx,oc,qf,s3,ui,uj,Fm,Fo,UY,UZ,U0,U1],_ =>obtain⟨gl,gz,lL,_⟩:=e0.O (enc:=ez) (bq:=bq) (n:=m) Tryz.underlying9 [hY] nx (M 0 _ hY nx rfl rfl rfl);obtain⟨fa,lh,bV,_⟩:=e0.int (enc:=ez) (bq:=bq) (n:=m) Tryz.underlying3 [ev] oc (M 1 _ ev oc rfl rfl rfl);obtain⟨gw,ms,b9,_⟩:=e0.O (enc:=ez) (bq:=bq) (n:=m) Tryz.underlying9 [dB] qf (M 2 _ dB qf rfl rfl rfl);obtain⟨ii,oe,kl,_⟩:=e0.O (enc:=ez) (bq:=bq) (n:=m) Tryz.underlying9 [lW] s3 (M 3 _ lW s3 rfl rfl rfl);obtain⟨Av,qg,zT,_⟩:=e0.int (enc:=ez) (bq:=bq) (n:=m) Tryz.underlying3 [od] ui (M 4 _ od ui rfl rfl rfl);obtain⟨Aw,vM,BL,_⟩:=e0.int (enc:=ez) (bq:=bq) (n:=m) Tryz.underlying3 [pu] uj (M 5 _ pu uj rfl rfl rfl);obtain⟨Fp,Cm,Er,_⟩:=e0.int (enc:=ez) (bq:=bq) (n:=m) Tryz.underlying3 [r5] Fm (M 6 _ r5 Fm rfl rfl rfl);obtain⟨Fq,Cn,Fr,_⟩:=e0.int (enc:=ez) (bq:=bq) (n:=m) Tryz.underlying3 [r6] Fo (M 7 _ r6 Fo rfl rfl rfl);obtain⟨Nm,afc,afd,_⟩:=e0.int (enc:=ez) (bq:=bq) (n:=m) Tryz.underlying3 [vJ] UY (M 8 _ vJ UY rfl rfl rfl);obtain⟨Nn,afe,aff,_⟩:=e0.int (enc:=ez) (bq:=bq) (n:=m) Tryz.underlying3 [vK] UZ (M 9 _ vK UZ rfl rfl rfl);obtain⟨ag,afg,afh⟩:=e0.slice (enc:=ez) (bq:=bq) (iU:=m) Tryz.underlying41 (k:=12) (f:=enc) atB atw (λa=>by rw[rJ];exact⟨rfl,rfl⟩) (λnT tW=>UX bD nT atw) [mr] U0 (M 10 _ mr U0 rfl rfl rfl);obtain⟨cC,afi,TK⟩:=e0.slice (enc:=ez) (bq:=bq) (iU:=m) Tryz.underlying42 (k:=2) (f:=c4) atB atw (λa=>⟨rfl,rfl⟩) (λnT _=>afb nT) [vL] U1 (M 11 _ vL U1 rfl rfl rfl);refine⟨⟨gl,fa,gw,ii,Av,Aw,Fp,Fq,Nm,Nn,ag,cC⟩,?_,?_⟩;rw[rJ];exact .cons gz.head (.cons lh.head (.cons ms.head (.cons oe.head (.cons qg.head (.cons vM.head (.cons Cm.head (.cons Cn.head (.cons afc.head (.cons afe.head (.cons afg.head (.cons afi.head (.nil _ _))))))))))));have sK:=IH afh;have rM:=IH TK;rw[<-UW]at sK;rw[<-UV]at rM;rw[F];dsimp only;rw[lR];simp only[aui,avr,lL,bV,b9,kl,zT,BL,Er,Fr,afd,aff,hX,YtfnpcdbnoggloaaGreatDoor.Rows.uptoBulk,YtfnpcdbnoggloaaGreatDoor.Rows.uptoBulkAll]at sK rM⊢;omega
variable{v:Value}
theorem afj{d:DataW H}{p:List MemPlace}{base:Nat}(X:Value.okWide Tryz.prog bq .any base 44 v)(h:DataW.Trod ez Tryz.prog bq 0 (λ_=>true) true 44 v d p): ∃n:ad,bh bq (tQ bq) (aE n) v/\2*n.name.length+2+aC n<=2*hX d:=by obtain⟨iU,M⟩:=h;obtain⟨aB,rfl,_⟩:=okWide_struct Tryz.underlying44 X;obtain⟨n,ae,aW⟩:=UX (ez:=ez) (bq:=bq) _ iU (auy _) _ _ M;rw[rJ]at ae;obtain⟨l⟩:=aB;exact⟨n,.agg _ _ ae.1 ae.2,aW⟩
variable{ds:List D}
theorem afk{f:Nat}{args:Array Value}(h:mI Tryz.prog bq f ds (.bool true))(ae:c' bq (tQ bq) ds args.toList): Calls Tryz.prog f args bq λe w'=>e=.returned (.bool true)/\Below bq.heap.size bq w':=by obtain⟨l⟩:=args;refine(h.2 bq (tQ bq) l (Below.refl _ _) ae).mono ?_;rintro e w' ⟨v,aR,rfl,X,hs⟩;rw[X.hL];exact⟨rfl,pK.step (Below.refl _ _) hs λ_ h=>h.elim⟩
theorem afl:laidOutB Tryz.prog=true:=by kernel_rfl
theorem U2{iW:World}(I:Below bq.heap.size bq iW){pZ:Nat->Bool}:∀{Co:List TypeId} {vs:List Value} {ds:List (DataW H)} {bU:List MemPlace},(∀t∈Co,Tryz.prog.readableRec t=true/\t<Tryz.prog.types.size)->DataW.TrodAll ez Tryz.prog bq 0 (λ_=>true) true Co vs ds bU->(∀x∈bU,x.block<bq.heap.size)->(∀x∈bU,pZ x.block=true)->DataW.TrodAll ez Tryz.prog iW 0 pZ true Co vs ds bU
 |[],[],[],_,_,h,_,_=>h
 |t::Co,v::vs,d::ds,_,av,⟨p,q,h1,A,e⟩,bf,nj=>by subst e;exact⟨p,q,ack afl (av t atU).1 (av t atU).2 h1 I (λx F=>bf x (by simp[F])) pZ (λx F=>nj x (by simp[F])),U2 I (λt h=>av t (atY _ h)) A (λx F=>bf x (by simp[F])) (λx F=>nj x (by simp[F])),rfl⟩
def No:List (String×DataW Unit):=YtfnpcdbnoggloaaGreatDoor.Rows.layoutSpansRow.laid
theorem afm(a1:laidMetH Tryz.prog No bq)(je:bq.ShapedOpen Tryz.prog):db bq:=by have Np:laidMet Tryz.prog No bq:=a1;refine⟨utf8Tabs_of_reads (ρ:=Tryz.lays260_ren) Tryz.lays260 ⟨by kernel_rfl,by kernel_rfl,by kernel_rfl,by kernel_rfl,by kernel_rfl,by kernel_rfl,by kernel_rfl⟩ (Lib.laidMet.reads Np (.tail _ (.tail _ (.tail _ (.tail _ (.head _)))))) (Lib.laidMet.reads Np (.tail _ (.tail _ (.tail _ (.head _))))),?_,?_⟩;obtain⟨h1,_⟩:=je;obtain⟨aB,hcs,hsz,dF⟩:=h1 0 #[.int .i64 0] 3 atA atB;obtain⟨Co,Uh,_,ga⟩:=dF atB;(have afn:Co=[3]:=by(have:Tryz.prog.cellTypes Tryz.prog.depth 3=some [3]:=by kernel_rfl);exact auD (Uh.symm.trans this));subst afn;have h0:aB[0]?=some (aB[0]'(by rw[hsz];decide)):=ave _;obtain⟨aj,an,cD⟩:=ga 0 _ h0;(have cV:aj=3:=by simpa using an.symm);subst cV;(have hc:bq.cell? ⟨0,0,none⟩=some (aB[0]'(by rw[hsz];decide)):=by simp only[World.cell?,hcs];simpa using h0);generalize aB[0]'(by rw[hsz];decide)=v at cD hc;unfold Cell.ok at cD;rw[Tryz.underlying3]at cD;(cases v with|int k n=>obtain⟨rfl,_⟩:=cD;exact⟨n,hc⟩|_=>exact cD.elim);exact Lib.tabIs_of_head (rest:=_) (g:=3) (t:=423) (e:=190) (n:=20) atB atB atB atB atB atB Np.tail.tail
structure afo where
 name:atG
 set:atG
 pl:atG
 pm:atG
 lP:atG
 Cc:Int
 Cd:Int
 fh:Int
def afp(v:afo):D:=.agg [.O v.name,.O v.set,.O v.pl,.O v.pm,.O v.lP,u v.Cc,u v.Cd,u v.fh]
theorem U3(d:DataW H):1<=hX d:=by cases d with|lit l=>cases l<;>simp[hX,YtfnpcdbnoggloaaGreatDoor.Rows.uptoBulk]|_=>simp[hX,YtfnpcdbnoggloaaGreatDoor.Rows.uptoBulk]
theorem afq(n:Nat):e0 ez Tryz.prog bq n 140 pk (λ_ d=>2<=1*hX d):=by intro aB x h;obtain⟨xs,m,rfl,F,jE,hC,M⟩:=Eh Tryz.underlying140 atB atB h;match aB,jE,xs,hC with|[hY,ev,dB,lW,od,pu],_,[nx,oc,qf,s3,ui,uj],_ =>obtain⟨gl,gz,_⟩:=e0.O (enc:=ez) (bq:=bq) (n:=m) Tryz.underlying9 [hY] nx (M 0 _ hY nx rfl rfl rfl);obtain⟨fa,lh,_⟩:=e0.int (enc:=ez) (bq:=bq) (n:=m) Tryz.underlying3 [ev] oc (M 1 _ ev oc rfl rfl rfl);obtain⟨gw,ms,_⟩:=e0.int (enc:=ez) (bq:=bq) (n:=m) Tryz.underlying3 [dB] qf (M 2 _ dB qf rfl rfl rfl);obtain⟨ii,oe,_⟩:=e0.int (enc:=ez) (bq:=bq) (n:=m) Tryz.underlying3 [lW] s3 (M 3 _ lW s3 rfl rfl rfl);obtain⟨Av,qg,_⟩:=e0.int (enc:=ez) (bq:=bq) (n:=m) Tryz.underlying3 [od] ui (M 4 _ od ui rfl rfl rfl);obtain⟨Aw,vM,_⟩:=e0.bool (enc:=ez) (bq:=bq) (n:=m) Tryz.underlying4 [pu] uj (M 5 _ pu uj rfl rfl rfl);refine⟨⟨gl,fa,gw,ii,Av,Aw⟩,.cons gz.head (.cons lh.head (.cons ms.head (.cons oe.head (.cons qg.head (.cons vM.head (.nil _ _)))))),?_⟩;rw[F];simp only[hX,YtfnpcdbnoggloaaGreatDoor.Rows.uptoBulk,aui,YtfnpcdbnoggloaaGreatDoor.Rows.uptoBulkAll];have bb:=U3 nx.1;simp only[hX]at bb;omega
theorem afr(n:Nat):e0 ez Tryz.prog bq n 31 afp (λv d=>v.name.length+v.set.length+v.pl.length+v.pm.length+v.lP.length<=hX d):=by intro aB x h;obtain⟨xs,m,rfl,F,jE,hC,M⟩:=Eh Tryz.underlying31 atB atB h;match aB,jE,xs,hC with|[hY,ev,dB,lW,od,pu,r5,r6],_,[nx,oc,qf,s3,ui,uj,Fm,Fo],_ =>obtain⟨gl,gz,lL,_⟩:=e0.O (enc:=ez) (bq:=bq) (n:=m) Tryz.underlying9 [hY] nx (M 0 _ hY nx rfl rfl rfl);obtain⟨fa,lh,bV,_⟩:=e0.O (enc:=ez) (bq:=bq) (n:=m) Tryz.underlying9 [ev] oc (M 1 _ ev oc rfl rfl rfl);obtain⟨gw,ms,b9,_⟩:=e0.O (enc:=ez) (bq:=bq) (n:=m) Tryz.underlying9 [dB] qf (M 2 _ dB qf rfl rfl rfl);obtain⟨ii,oe,kl,_⟩:=e0.O (enc:=ez) (bq:=bq) (n:=m) Tryz.underlying9 [lW] s3 (M 3 _ lW s3 rfl rfl rfl);obtain⟨Av,qg,zT,_⟩:=e0.O (enc:=ez) (bq:=bq) (n:=m) Tryz.underlying9 [od] ui (M 4 _ od ui rfl rfl rfl);obtain⟨Aw,vM,BL,_⟩:=e0.int (enc:=ez) (bq:=bq) (n:=m) Tryz.underlying3 [pu] uj (M 5 _ pu uj rfl rfl rfl);obtain⟨Fp,Cm,Er,_⟩:=e0.int (enc:=ez) (bq:=bq) (n:=m) Tryz.underlying3 [r5] Fm (M 6 _ r5 Fm rfl rfl rfl);obtain⟨Fq,Cn,Fr,_⟩:=e0.int (enc:=ez) (bq:=bq) (n:=m) Tryz.underlying3 [r6] Fo (M 7 _ r6 Fo rfl rfl rfl);refine⟨⟨gl,fa,gw,ii,Av,Aw,Fp,Fq⟩,.cons gz.head (.cons lh.head (.cons ms.head (.cons oe.head (.cons qg.head (.cons vM.head (.cons Cm.head (.cons Cn.head (.nil _ _)))))))),?_⟩;rw[F];simp only[aui,avr,lL,bV,b9,kl,zT,BL,Er,Fr,hX,YtfnpcdbnoggloaaGreatDoor.Rows.uptoBulk,YtfnpcdbnoggloaaGreatDoor.Rows.uptoBulkAll];omega
theorem afs(n:Nat):e0 ez Tryz.prog bq n 34 ih (λm d=>m.name.length+m.set.length+m.pl.length+m.pm.length+m.lP.length<=hX d/\2*m.gL.length<=hX d):=by intro aB x h;obtain⟨xs,m,rfl,rfl,al,hC,M⟩:=DataW.trod_struct Tryz.underlying34 h;(have de:Tryz.prog.cellsOf 34=13:=by kernel_rfl);(have aft:Tryz.prog.cellsOf 31=8:=by kernel_rfl);(have g3:Tryz.prog.cellsOf 3=1:=by kernel_rfl);(have afu:Tryz.prog.cellsOf 32=1:=by kernel_rfl);(have g4:Tryz.prog.cellsOf 4=1:=by kernel_rfl);match aB,al.trans de,xs,hC with|[hY,ev,dB,lW,od,pu,r5,r6,vJ,vK,mr,vL,Ax],_,[nx,oc,qf,s3,ui,uj],_ =>have h0:DataW.trod ez Tryz.prog bq 0 (λ_=>true) true m 31 (List.take (Tryz.prog.cellsOf 31) (List.drop 0 [hY,ev,dB,lW,od,pu,r5,r6,vJ,vK,mr,vL,Ax]))=some nx:=M 0 _ rfl;have h1:DataW.trod ez Tryz.prog bq 0 (λ_=>true) true m 3 (List.take (Tryz.prog.cellsOf 3) (List.drop 8 [hY,ev,dB,lW,od,pu,r5,r6,vJ,vK,mr,vL,Ax]))=some oc:=M 1 _ rfl;have A:DataW.trod ez Tryz.prog bq 0 (λ_=>true) true m 3 (List.take (Tryz.prog.cellsOf 3) (List.drop 9 [hY,ev,dB,lW,od,pu,r5,r6,vJ,vK,mr,vL,Ax]))=some qf:=M 2 _ rfl;have Z:DataW.trod ez Tryz.prog bq 0 (λ_=>true) true m 32 (List.take (Tryz.prog.cellsOf 32) (List.drop 10 [hY,ev,dB,lW,od,pu,r5,r6,vJ,vK,mr,vL,Ax]))=some s3:=M 3 _ rfl;have aG:DataW.trod ez Tryz.prog bq 0 (λ_=>true) true m 3 (List.take (Tryz.prog.cellsOf 3) (List.drop 11 [hY,ev,dB,lW,od,pu,r5,r6,vJ,vK,mr,vL,Ax]))=some ui:=M 4 _ rfl;have bb:DataW.trod ez Tryz.prog bq 0 (λ_=>true) true m 4 (List.take (Tryz.prog.cellsOf 4) (List.drop 12 [hY,ev,dB,lW,od,pu,r5,r6,vJ,vK,mr,vL,Ax]))=some uj:=M 5 _ rfl;rw[aft]at h0;rw[g3]at h1 A aG;rw[afu]at Z;rw[g4]at bb;obtain⟨⟨gl,fa,gw,ii,Av,Aw,Fp,Fq⟩,gz,lL⟩:=afr m [hY,ev,dB,lW,od,pu,r5,r6] nx h0;obtain⟨Nm,lh,bV,_⟩:=e0.int (enc:=ez) (bq:=bq) (n:=m) Tryz.underlying3 [vJ] oc h1;obtain⟨Nn,ms,b9,_⟩:=e0.int (enc:=ez) (bq:=bq) (n:=m) Tryz.underlying3 [vK] qf A;obtain⟨aS,oe,kl⟩:=e0.slice (enc:=ez) (bq:=bq) (iU:=m) Tryz.underlying32 (k:=6) (f:=pk) atB atw (λa=>⟨rfl,rfl⟩) (λnT _=>afq nT) [mr] s3 Z;obtain⟨afv,qg,zT,_⟩:=e0.int (enc:=ez) (bq:=bq) (n:=m) Tryz.underlying3 [vL] ui aG;obtain⟨afw,vM,BL⟩:=e0.bool (enc:=ez) (bq:=bq) (n:=m) Tryz.underlying4 [Ax] uj bb;refine⟨⟨gl,fa,gw,ii,Av,Aw,Fp,Fq,Nm,Nn,aS,afv,afw⟩,c'.append gz (.cons lh.head (.cons ms.head (.cons oe.head (.cons qg.head (.cons vM.head (.nil _ _)))))),?_⟩;have I:=IH (m:=λ_=>2) kl;simp only[List.map_const',List.sum_replicate_nat,Nat.one_mul]at I;simp only[aui,avr,hX,YtfnpcdbnoggloaaGreatDoor.Rows.uptoBulk,YtfnpcdbnoggloaaGreatDoor.Rows.uptoBulkAll]at lL I⊢;constructor<;>omega
theorem afx{d:DataW H}{p:List MemPlace}{base:Nat}(X:Value.okWide Tryz.prog bq .any base 34 v)(h:DataW.Trod ez Tryz.prog bq 0 (λ_=>true) true 34 v d p): ∃m:fv,bh bq (tQ bq) (ih m) v/\m.name.length+m.set.length+m.pl.length+m.pm.length+m.lP.length<=hX d/\2*m.gL.length<=hX d:=by obtain⟨iU,M⟩:=h;obtain⟨aB,rfl,_⟩:=okWide_struct Tryz.underlying34 X;obtain⟨m,ae,aW⟩:=afs (ez:=ez) (bq:=bq) iU _ _ M;obtain⟨l⟩:=aB;exact⟨m,.agg _ _ ae.1 ae.2,aW⟩
theorem afy{k:Int}(h:(Lit.int .i64 k).wf=true):k<=9223372036854775807:=by simp[Lit.wf,IntKind.wrap,IntKind.bits,IntKind.signed]at h;omega
def qw:Int:=9223372036854775807
theorem afz(n:Nat):e0 ez Tryz.prog bq n 53 bl (λf d=>f.len<=qw/\2<=1*hX d):=by intro aB x h;obtain⟨xs,m,rfl,F,jE,hC,M⟩:=Eh Tryz.underlying53 atB atB h;match aB,jE,xs,hC with|[hY,ev,dB],_,[nx,oc,qf],_ =>obtain⟨gl,gz,lL,_⟩:=e0.O (enc:=ez) (bq:=bq) (n:=m) Tryz.underlying9 [hY] nx (M 0 _ hY nx rfl rfl rfl);obtain⟨fa,lh,bV,Nq⟩:=e0.int (enc:=ez) (bq:=bq) (n:=m) Tryz.underlying3 [ev] oc (M 1 _ ev oc rfl rfl rfl);obtain⟨gw,ms,b9,gm⟩:=e0.int (enc:=ez) (bq:=bq) (n:=m) Tryz.underlying3 [dB] qf (M 2 _ dB qf rfl rfl rfl);refine⟨⟨gl,fa,gw⟩,.cons gz.head (.cons lh.head (.cons ms.head (.nil _ _))),afy gm,?_⟩;rw[F];have:=U3 nx.1;simp only[hX,YtfnpcdbnoggloaaGreatDoor.Rows.uptoBulk,aui,YtfnpcdbnoggloaaGreatDoor.Rows.uptoBulkAll]at*;omega
theorem afA{d:DataW H}{p:List MemPlace}{base:Nat}(X:Value.okWide Tryz.prog bq .any base 27 v)(h:DataW.Trod ez Tryz.prog bq 0 (λ_=>true) true 27 v d p): ∃l:List cP,bh bq (tQ bq) (.Q .none 3 (l.map bl)) v/\2*l.length<=hX d/\∀g∈l,g.len<=qw:=by obtain⟨iU,M⟩:=h;obtain⟨a,n,c,rfl⟩:=okWide_slice Tryz.underlying27 X;obtain⟨l,ae,aW⟩:=e0.slice (enc:=ez) (bq:=bq) (iU:=iU) (f:=bl) (k:=3) Tryz.underlying27 atB atw (λa=>⟨rfl,rfl⟩) (λm _=>afz m) _ _ M;have I:=IH (m:=λ_=>2) (c:=1) (by rcases aW with h|⟨ds,pZ,h1,A,Z⟩;exact .inl h;exact .inr ⟨ds,pZ,h1,A,λi a y aG bb=>(Z i a y aG bb).2⟩);simp only[List.map_const',List.sum_replicate_nat,Nat.one_mul]at I;refine⟨l,ae.head,by omega,λg U4=>?_⟩;rcases aW with⟨rfl,_⟩|⟨ds,pZ,h1,A,Z⟩;cases U4;obtain⟨i,hi,rfl⟩:=aur.1 U4;exact(Z i l[i] (ds[i]' atw) (atK hi) (atK _)).1
theorem own:ownKnob Tryz.prog.godebug=none:=by kernel_rfl
noncomputable def Nr(os:Os):World :=
 let w0:=World.holding Tryz.prog os ⟨#[],#[],[]⟩
 let put (h:Array Obj) (g:Nat) (aB:Array Value):Array Obj:=h.modify g fun
  |.cells _ t frozen=>.cells aB t frozen
  |o=>o
 let h1:=put w0.heap 1 (Lib.firstTab.map λV=>Value.int .u8 V).toArray
 let A:=put h1 2 ((List.range 16).flatMap λi=>[Value.int .u8 (Lib.accLo i),Value.int .u8 (Lib.accHi i)]).toArray
 let Z:=put A 3 (Lib.pow10Tab.map λV=>Value.int .u64 V).toArray
 let aG:=put Z 4 ([0,1,28,2,29,14,24,3,30,22,20,15,25,17,4,8,31,27,13,23,21,19,16,7,26,12,18,6,11,5,10,9].map λV=>Value.int .u8 V).toArray
 let bb:=put aG 5 ([0,1,56,2,57,49,28,3,61,58,42,50,38,29,17,4,62,47,59,36,45,43,51,22,53,39,33,30,24,18,12,5,63,55,48,27,60,41,37,16,46,35,44,21,52,32,23,11,54,26,40,15,34,20,31,10,25,14,19,9,13,8,7,6].map λV=>Value.int .u8 V).toArray
 {w0 with heap:=bb}
theorem afB(os:Os)(args:Array Value):laidMet Tryz.prog No ((Nr os).forCall (λ_ _=>0) ⟨#[],args,[]⟩).memory :=
 laidMet_of_run' 8 atB atB
variable{B:World}
def Fs(c:Int):List Int:=[IntKind.wrap .u8 (c.fdiv (2 ^ min (8:Int).toNat IntKind.i64.bits)),IntKind.wrap .u8 c]
def r7(l:List Int):List Int:=l.flatMap Fs
theorem afC(l:List Int):∀x∈r7 l,0<=x/\x<=255:=λx F=>by
 obtain⟨c,_,h⟩:=avG.1 F;have e:∀m,IntKind.wrap .u8 m=m%256:=λm=>by simp[IntKind.wrap,IntKind.bits,IntKind.signed]
 simp only[Fs,at5,awh,awB,e]at h;rcases h with rfl|rfl<;>omega
theorem U5(l:List Int):(r7 l).length=2*l.length:=by unfold r7;induction l with|nil=>rfl|cons x r aZ=>rw[auL,atP,aZ,atT];simp only[Fs,atT,auh];omega
theorem afD(l:List Int)(c:Int):r7 (l++[c])=r7 l++Fs c:=by simp[r7]
def fj(s:atG):atG:=if(chars s).2=0 then(r7 (chars s).1).map oP else[]
theorem U6{s:atG}:(chars s).1.length<=s.length/\(chars s).1.length<=65536:=by unfold chars;split;simp;cases hc:jo s with|none=>simp|some l=>have:=B_ s.length s (atQ _) l hc;simp only;omega
theorem afE(s:atG):(fj s).length<=2*s.length/\(fj s).length<=131072:=by have:=@U6 s;unfold fj;split;rw[atL,U5];omega;simp
theorem afF(a1:db B)(s:atG)(hs:s.length<1000000):aU B 184 [.O s] (.bp [.O (fj s),u (chars s).2]):=by have afG:=ML (B:=B) a1 s atw;have jE:=@U6 s;unfold fj;generalize(chars s).1=l at*;generalize(chars s).2=e at*;have fq:(fL .i64 l).length=l.length:=atL _;refine fn Tryz.func184 Tryz.ntmps184 λU=>?_;refine go ?_;refine bs afG ?_;refine cb (t:=!(e==0)) ?_ ?_<;>intro hc;rw[atH (by simpa using hc)];refine go ?_;exact ar;rw[atI (by simpa using hc)];refine go ?_;rw[fq,show(2:Int)*(l.length:Nat)=((2*l.length:Nat):Int) by omega];refine .inr (af.LP aM (n:=2*l.length) (cq:=.i64) (d8:=.i64) rfl rfl rfl rfl rfl rfl (by show 1*(2*l.length)<=_;omega) atw λw0=>?_);(conv=>whnf);refine go ?_;rw[fq];refine gf (λx:Nat×Value=>x.1<=l.length) [21,22] [] (λx=>[(6,.Q (.own 20 x.2) 1 ((r7 (l.take x.1)).map (D.int .u8))),(23,u x.1)]) (λx=>[(20,.own x.2 ((r7 (l.take x.1)).map (D.int .u8)).length 1 5)]) (λx=>l.length-x.1) (0,w0) (at4 _) [(20,20)] ?_;rintro⟨k,w⟩ Y;dsimp only at Y⊢;refine go ?_;refine cb (t:=decide ((k:Int)<(l.length:Nat))) ?_ ?_<;>intro bu;(·(have eS:k<l.length:=by have:=aua bu;omega);(have h':(fL .i64 l)[k]?=some (.int .i64 l[k]):=by simp[fL,eS]);(have Fa:l.take (k+1)=l.take k++[l[k]]:=by rw[atM eS]);(have hlen:(r7 (l.take k)).length=2*k:=by rw[U5,at7];omega);generalize l[k]=c at*;refine go ?_;refine⟨u c,λ_=>h',?_⟩;(conv=>whnf);apply cB;(conv=>whnf);refine z1 ?_;(conv=>whnf);refine W.S4 aM (by rfl) ?_;(conv=>whnf);(iterate 3 (refine And.intro rfl ?_;(conv=>whnf);refine z1 ?_;(conv=>whnf)));refine And.intro (λ_=>by decide) ?_;(conv=>whnf);refine And.intro rfl ?_;(conv=>whnf);refine z1 ?_;(conv=>whnf);refine .inr ?_;(conv=>whnf);refine And.intro rfl ?_;(conv=>whnf);refine z1 ?_;(conv=>whnf);refine And.intro rfl ?_;(conv=>whnf);refine z1 ?_;(conv=>whnf);refine .inr ?_;(conv=>whnf);refine go ?_;intro gm;(conv=>whnf);refine go ?_;(have rB:(r7 (l.take k)).map (D.int .u8)++(Fs c).map (D.int .u8)=(r7 (l.take (k+1))).map (D.int .u8):=by rw[Fa,afD,auq]);refine eI (k+1,gm) [(20,34)] (by dsimp only;omega) (A:=⟨⟨E,E,aq.jK rB,E,ak⟩,rfl,rfl,j2 (by rw[<-rB,atP];rfl),ak⟩));(have fA:k=l.length:=by have:=at2 bu;omega);subst fA;refine W.exit ?_;(conv=>whnf);refine go ?_;rw[atX];refine .inr (af.vd aM (aS:=(r7 l).map oP) (tg:=.own 20 w) rfl rfl rfl rfl rfl rfl (atJ (D.Q _ 1) (yt _ (afC l))) ?_);(conv=>whnf);refine go ?_;exact⟨E,dt (by simp at hc;omega),ak⟩
def j6(n:Int):Int:=(n+2048-1).tdiv 2048
def kT(n:Int):Int:=if n<=1872 then 0 else j6 n
def yC(n:Int):Int:=if(bif decide (n<0)then true else decide (4096<n))=true then 0 else(n+8-1).tdiv 8*8
def Ns(n:Int):Int:=(n+3).tdiv 4*4
def afH(n:Int):Bool:=bif decide (0<=n)then decide (n<4294967296)else false
def Ay(n:Int):Bool:=bif decide (0<=n)then decide (n<=3)else false
theorem afI(n:Int)(h0:0<=n)(h1:n<1000000000000):aU B 314 [u n] (u (j6 n)):=by refine bA Tryz.func314 Tryz.ntmps314 λU=>?_;exact axu
theorem U7(n:Int)(h0:0<=n)(h1:n<1000000000000):aU B 271 [u n] (u (kT n)):=by refine bA Tryz.func271 Tryz.ntmps271 λU=>?_;refine go ?_;refine aK _ rfl ?_ ?_<;>intro hc;refine go ?_;rw[kT,atI (by simpa using hc)];exact E;refine go ?_;refine bs (afI n h0 h1) ?_;rw[kT,atH (by simpa using hc)];exact E
theorem afJ(n:Int):aU B 272 [u n] (u (yC n)):=by refine bA Tryz.func272 Tryz.ntmps272 λU=>?_;refine go ?_;refine aK _ rfl ?_ ?_<;>intro hc;refine go ?_;rw[yC,atI hc];exact E;apply co;have bu:=hc;rw[yC,atH (by rw[bu];decide)];(have h0:0<=n/\n<=4096:=by revert hc;cases h:decide (n<0)<;>simp at h⊢<;>omega);apply b4;refine vi ?_;refine⟨λ_=>by omega,?_⟩;refine go ?_;have G:(n+8-1).tdiv 8=(n+8-1)/8:=at6 atw;refine go ?_;exact E
theorem afK(n:Int)(h0:0<=n)(h1:n<1000000000000):aU B 313 [u n] (u (Ns n)):=by refine bA Tryz.func313 Tryz.ntmps313 λU=>?_;apply b4;apply b4;refine k6 ?_;refine⟨λ_=>by omega,?_⟩;refine go ?_;have G:(n+3).tdiv 4=(n+3)/4:=at6 atw;refine go ?_;exact E
theorem U8(n:Int):aU B 354 [u n] (.bool (afH n)):=by refine bA Tryz.func354 Tryz.ntmps354 λU=>?_;refine go ?_;exact E
theorem afL(n:Int):aU B 139 [u n] (.bool (Ay n)):=by refine bA Tryz.func139 Tryz.ntmps139 λU=>?_;refine go ?_;exact E
def w8(l:List Int):Int:=(l.drop 1).foldl (λm x=>if x>m then x else m) (l.headD 0)
variable{i:Nat}
theorem afM{l:List Int}(h:0<i)(hi:i<l.length):w8 (l.take (i+1))=if l[i]>w8 (l.take i)then l[i]else w8 (l.take i):=by
 rw[w8,w8,atM hi,av1 (by rw[at7];omega),auT]
 have e:(l.take i++[l[i]]).headD 0=(l.take i).headD 0:=by
  cases l with
  |nil=>simp at hi
  |cons a r=>cases i with
   |zero=>omega
   |succ i=>rfl
 rw[e];rfl
theorem afN(l:List Int)(h0:0<l.length)(al:l.length<1000000000):aU B 352 [.Q .none 1 (fL .i64 l)] (u (w8 l)):=by refine bA Tryz.func352 Tryz.ntmps352 λU=>?_;refine cl ?_;refine W.lI (α:=Unit) (λx=>[(0,.Q .none 1 (fL .i64 l))]) (λx=>[]) ?_ ?_;refine go ?_;refine aK _ rfl ?_ ?_<;>intro hc;exfalso;simp[fL]at hc;omega;refine go ?_;exact⟨(),[],ar,rfl,ak⟩;rintro⟨⟩;refine go ?_;refine⟨λ_=>by simp[fL];omega,?_⟩;refine go ?_;refine⟨u l[0],λ_=>by simp[fL,h0],?_⟩;refine go ?_;refine W.loop (α:={i:Nat // 1<=i/\i<=l.length}) (λx=>[(0,.Q .none 1 (fL .i64 l)),(3,u (w8 (l.take x.1))),(4,u x.1)]) (λ_=>[]) (λx=>l.length-x.1) ⟨1,by omega⟩ ⟨E,aq.of_eq (atJ (D.int .i64) (by cases l with|nil=>simp at h0|cons a r=>rfl)),E,ak⟩ trivial ?_;rintro⟨i,n0,hi⟩;dsimp only at hi n0⊢;refine go ?_;refine aK (decide ((i:Int)<((fL .i64 l).length:Nat))) rfl ?_ ?_<;>intro hc;apply co;refine kq ?_;(have aI:i<l.length:=by simpa[fL]using hc);refine mS ?_;refine⟨λ_=>by simp[fL];omega,?_⟩;refine go ?_;refine⟨u l[i],λ_=>by simp[fL,aI],?_⟩;refine go ?_;exact⟨⟨i+1,by omega,aI⟩,ayp,⟨E,aq.of_eq (atJ (D.int .i64) (afM n0 aI).symm),E,ak⟩,ak⟩;refine go ?_;(have ci:i=l.length:=by simp[fL]at hc;omega);subst ci;refine go ?_;rw[atX];exact E
def vN(size:Nat)(c:Int)(k:Nat):Int:=IntKind.wrap .u8 (c.fdiv (2 ^ min (8*((size:Int)-1-(k:Int))).toNat IntKind.i64.bits))
def qW(size:Nat)(l:List Int):List Int:=(8*(size:Int))::l.flatMap λc=>(List.range size).map (vN size c)
def Cp(size:Nat)(l:List Int):atG:=(qW size l).map oP
theorem afO{size:Nat}{l:List Int}(h:i<l.length):qW size (l.take (i+1))=qW size (l.take i)++(List.range size).map (vN size l[i]):=by rw[qW,qW,atM h,avy];simp
theorem afP(f:Nat->Int)(k:Nat):(List.range (k+1)).map f=(List.range k).map f++[f k]:=by rw[avl,auq];rfl
theorem Nt(n:Int):0<=IntKind.wrap .u8 n/\IntKind.wrap .u8 n<=255:=by unfold IntKind.wrap;dsimp only[IntKind.bits,IntKind.signed];simp only[Bool.false_and,auU,avs];omega
theorem afQ{size:Nat}(hs:size=1\/size=2)(l:List Int):∀n∈qW size l,0<=n/\n<=255:=λn aw=>by
 simp only[qW,at5,avG,aub]at aw;rcases aw with rfl|⟨c,_,k,_,rfl⟩
 ·omega
 exact Nt _
theorem U9(size:Nat):∀l:List Int,(l.flatMap λc=>(List.range size).map (vN size c)).length=l.length*size
 |[]=>by simp
 |c::r=>by rw[auL,atP,U9 size r,atL,List.length_range,atT,avS];omega
theorem U_(size:Nat)(l:List Int):(qW size l).length=l.length*size+1:=by rw[qW,atT,U9]
theorem afR(size:Nat)(l:List Int):(Cp size l).length=l.length*size+1:=by rw[Cp,atL,U_]
abbrev yD(l:List Int):List D:=l.map (D.int .u8)
theorem U'(l:List Int)(size:Nat)(hs:size=1\/size=2)(al:l.length<1000000):aU B 353 [.Q .none 1 (fL .i64 l),u (size:Nat)] (.O (Cp size l)):=by refine bA Tryz.func353 Tryz.ntmps353 λU=>?_;apply b4;apply b4;(conv=>whnf);refine da ?_;refine p3 ?_;refine W.own 5 1000 1 5 rfl (λw=>?_);refine go ?_;refine W.ec (α:={i:Nat // i<=l.length}×Value) (λx=>[(1,u (size:Nat)),(5,.Q (.own 1000 x.2) 1 (yD (qW size (l.take x.1.1)))),(13,.Q .none 1 (fL .i64 l)),(14,u ((fL .i64 l).length:Nat)),(15,u x.1.1)]) (λx=>[(1000,.own x.2 (yD (qW size (l.take x.1.1))).length 1 5)]) (λx=>l.length-x.1.1) (⟨0,by omega⟩,w) [(1000,1000)] ⟨ar,rfl,bc⟩ ?_;rintro⟨⟨i,hi⟩,w⟩;dsimp only at hi⊢;refine go ?_;refine aK (decide ((i:Int)<((fL .i64 l).length:Nat))) rfl ?_ ?_<;>intro hc;apply co;(have aI:i<l.length:=by simpa[fL]using hc);have cS:=afO (size:=size) aI;(have mO:(qW size (l.take i)).length<=i*size+1:=by rw[U_,at7,awp hi];omega);(have DL:i*size<=2*i:=by rcases hs with rfl|rfl<;>omega);generalize qW size (l.take i)=L at*;refine gJ ?_;refine⟨λ_=>by simp[fL];omega,?_⟩;refine go ?_;refine⟨u l[i],λ_=>by simp[fL,aI],?_⟩;refine go ?_;refine W.ec (α:={k:Nat // k<=size}×Value) (λx=>[(1,u (size:Nat)),(5,.Q (.own 1000 x.2) 1 (yD (L++(List.range x.1.1).map (vN size l[i])))),(7,u l[i]),(13,.Q .none 1 (fL .i64 l)),(14,u ((fL .i64 l).length:Nat)),(15,u i),(19,u (size:Nat)),(20,u x.1.1)]) (λx=>[(1000,.own x.2 (yD (L++(List.range x.1.1).map (vN size l[i]))).length 1 5)]) (λx=>size-x.1.1) (⟨0,by omega⟩,w) [(1000,1000)] ⟨⟨E,aq.jK aty,E,E,E,E,E,E,ak⟩,rfl,rfl,j2 aty,ak⟩ ?_;rintro⟨⟨k,Y⟩,w⟩;dsimp only at Y⊢;refine go ?_;refine aK (decide ((k:Int)<(size:Nat))) rfl ?_ ?_<;>intro bu;apply co;(have iA:k<size:=by simpa using bu);have yE:=afP (vN size l[i]) k;(have Va:(L++(List.range k).map (vN size l[i])).length<=2*i+1+k:=by simp;omega);generalize gk:L++(List.range k).map (vN size l[i])=ap at*;(have Vb:L++(List.range (k+1)).map (vN size l[i])=ap++[vN size l[i] k]:=by rw[yE,<-aup,gk]);refine kq ?_;apply b4;apply kp;refine g5 ?_;refine vi ?_;refine⟨λ_=>by omega,?_⟩;refine go ?_;refine .inr ?_;(conv=>whnf);refine nm ?_;refine⟨by simp only[yD,atL,atT,auh];omega,by simp only[yD,atL,atT,auh];omega,atD,λgm=>?_⟩;refine go ?_;exact⟨(⟨k+1,iA⟩,gm),[(1000,33)],by show size-(k+1)<size-k;omega,⟨E,aq.jK (by rw[Vb,yD,yD,auq];rfl),E,E,E,E,E,E,ak⟩,rfl,rfl,j2 (by rw[Vb];simp),ak⟩;refine go ?_;(have fA:k=size:=by simp at bu;omega);subst fA;refine go ?_;exact⟨(⟨i+1,aI⟩,w),[(1000,1000)],ayp,⟨E,aq.jK (by rw[cS]),E,E,E,ak⟩,rfl,rfl,j2 (by rw[cS]),ak⟩;refine go ?_;(have ci:i=l.length:=by simp[fL]at hc;omega);subst ci;rw[atX];refine go ?_;refine .inr (af.vd aM (aS:=Cp size l) (tg:=.own 1000 w) rfl rfl rfl rfl rfl rfl (atJ (D.Q (.own 1000 w) 1) (yt (qW size l) (afQ hs l))) ?_);refine go ?_;exact E
def s4(s:atG):atG×Int :=
 if(65536:Int)<(s.length:Nat)then([],7)else if(chars s).2≠0 then([],3)else if(chars s).1=[]then([],0)else if w8 (chars s).1<=255 then(Cp 1 (chars s).1,0)else(Cp 2 (chars s).1,0)
theorem Vc(s:atG):(chars s).1.length<=65536:=by unfold chars;split;simp;split;rename_i l h;have:=(B_ s.length s (atQ _) l h).1;simp only;omega;simp
theorem Vd(a1:db B)(s:atG)(hs:s.length<1000000000):aU B 311 [.O s] (.bp [.O (s4 s).1,u (s4 s).2]):=by refine bA Tryz.func311 Tryz.ntmps311 λU=>?_;refine go ?_;refine aK (decide ((65536:Int)<(s.length:Nat))) rfl ?_ ?_<;>intro hc;refine go ?_;rw[s4,atI (by simpa using hc)];exact ar;refine go ?_;(have h1:¬(65536:Int)<(s.length:Nat):=by simpa using hc);rw[s4,atH h1];have jE:=Vc s;refine go ?_;refine bs (ML a1 s hs) ?_;refine aK ((chars s).2 !=0) rfl ?_ ?_<;>intro hc;refine go ?_;rw[atI (by simpa using hc)];exact ar;refine go ?_;(have A:¬(chars s).2≠0:=by simpa using hc);rw[atH A];generalize(chars s).1=l at*;refine go ?_;refine aK ((((fL .i64 l).length:Nat):Int)==0) rfl ?_ ?_<;>intro hc;refine go ?_;rw[atI (by simpa[fL]using hc)];exact ar;refine go ?_;(have Z:¬l=[]:=by simpa[fL]using hc);rw[atH Z];have r8:0<l.length:=au8.2 Z;refine go ?_;refine bs (afN l r8 atw) ?_;refine aK (decide (w8 l<=255)) rfl ?_ ?_<;>intro hc;refine go ?_;refine bs (U' l 1 (.inl rfl) atw) ?_;rw[atI (by simpa using hc)];exact ar;refine go ?_;refine bs (U' l 2 (.inr rfl) atw) ?_;rw[atH (by simpa using hc)];exact ar
def Ve(s:atG)(bd dr:Bool):D:=.agg [.O s,.bool false,.bool bd,.bool false,.bool dr,.bool false,u 0,u 0,u 0]
def vO(s:atG)(bd dr:Bool):atG×Bool :=
 if dr=true then([],bif bd then s==[]else false)else((s4 s).1,bif (bif (s4 s).2==0 then !(s==[])else false)then decide ((((s4 s).1.length:Nat):Int)<=255)else false)
theorem afS(a1:db B)(s:atG)(bd dr:Bool)(hs:s.length<1000000000):aU B 312 [Ve s bd dr] (.bp [.O (vO s bd dr).1,.bool (vO s bd dr).2]):=by refine bA Tryz.func312 Tryz.ntmps312 λU=>?_;refine go ?_;intro dC;refine go ?_;refine bs (U8 0) ?_;refine⟨[u 0],_,λh=>U8 0,ar,?_⟩;refine ib ?_;refine aK false rfl ?_ ?_<;>intro hc;cases hc;refine go ?_;refine aK dr rfl ?_ ?_<;>intro hc;refine oH ?_;refine go ?_;rw[vO,atI hc];exact ar;refine go ?_;refine bs (Vd a1 s hs) ?_;rw[vO,atH (by rw[hc];decide)];exact ar
def uk(s:atG)(bd dr:Bool):Int×Int:=if(vO s bd dr).2=true then(Ns (38+((vO s bd dr).1.length:Nat)),0)else(0,1)
theorem Nu(s:atG):(s4 s).1.length<=131073:=by have:=Vc s;unfold s4;split;simp;split;simp;split;simp;split<;>simp only[afR]<;>omega
theorem Vf(s:atG)(bd dr:Bool):(vO s bd dr).1.length<=131073:=by have:=Nu s;unfold vO;split;simp;exact this
theorem Vg(a1:db B)(s:atG)(bd dr:Bool)(hs:s.length<1000000000):aU B 270 [Ve s bd dr] (.bp [u (uk s bd dr).1,u (uk s bd dr).2]):=by refine bA Tryz.func270 Tryz.ntmps270 λU=>?_;refine go ?_;intro dC;refine go ?_;refine bs (afS a1 s bd dr hs) ?_;refine aK (!(vO s bd dr).2) rfl ?_ ?_<;>intro hc;refine go ?_;rw[uk,atH (by simpa using hc)];exact ar;apply co;have dm:=Vf s bd dr;apply b4;refine k6 ?_;refine⟨[u (38+((vO s bd dr).1.length:Nat))],_,λ_=>afK _ atw atw,ar,?_⟩;refine iD ?_;rw[uk,atI (by simpa using hc)];exact ar
def iH(y:Int):Bool:=bif y.tmod 400==0 then true else(bif y.tmod 4==0 then y.tmod 100 !=0 else false)
def ny(y:Int):Int:=if iH y=true then 366 else 365
def Cq(m:Int):Int:=([31,28,31,30,31,30,31,31,30,31,30,31]:List Int).getD (m-1).toNat 31
def nz(y m:Int):Int:=if(bif m==2 then iH y else false)=true then 29 else Cq m
def II(t:Int):Bool:=bif decide (315532800<=t)then decide (t<=4102444799)else false
def IJ(V:Int):Bool:=bif decide (-1440<=V)then decide (V<=1440)else false
def Nv(V:Int):Bool:=bif (bif V.tmod 15==0 then decide (-720<=V)else false)then decide (V<=780)else false
theorem Vh(y:Int):aU B 274 [u y] (.bool (iH y)):=by refine bA Tryz.func274 Tryz.ntmps274 λU=>?_;refine pa ?_;refine⟨λ_=>by omega,?_⟩;refine mQ ?_;refine⟨λh=>by omega,?_⟩;apply g2;refine hv ?_;refine⟨λh=>by omega,?_⟩;refine go ?_;exact E
theorem Vi(y:Int):aU B 222 [u y] (u (ny y)):=by refine bA Tryz.func222 Tryz.ntmps222 λU=>?_;refine go ?_;refine bs (Vh y) ?_;refine aK _ rfl ?_ ?_<;>intro hc;refine go ?_;rw[ny,atI hc];exact E;refine go ?_;rw[ny,atH (by rw[hc];decide)];exact E
theorem afT(m:Int)(h1:1<=m)(A:m<=12):([D.int .i64 31,D.int .i64 28,D.int .i64 31,D.int .i64 30,D.int .i64 31,D.int .i64 30,D.int .i64 31,D.int .i64 31,D.int .i64 30,D.int .i64 31,D.int .i64 30,D.int .i64 31])[0+(m-1).toNat*1]?=some (.int .i64 (Cq m)):=by(have hm:(m-1).toNat<12:=by omega);unfold Cq;rw[auu,awv];generalize(m-1).toNat=k at*;match k,hm with|0,_=>rfl|1,_=>rfl|2,_=>rfl|3,_=>rfl|4,_=>rfl|5,_=>rfl|6,_=>rfl|7,_=>rfl|8,_=>rfl|9,_=>rfl|10,_=>rfl|11,_=>rfl
theorem Vj(y m:Int)(h1:1<=m)(A:m<=12):aU B 223 [u y,u m] (u (nz y m)):=by refine bA Tryz.func223 Tryz.ntmps223 λU=>?_;apply b4;apply el;refine W.Hz aM ?_;apply tT;refine af.ac4 rfl rfl rfl atE rfl rfl rfl rfl rfl rfl rfl rfl rfl rfl rfl rfl ?_;apply eb;refine go ?_;intro cK;apply eb;refine go ?_;refine bs (Vh y) ?_;refine aK (bif m==2 then iH y else false) rfl ?_ ?_<;>intro hc;refine go ?_;rw[nz,atI hc];exact E;apply co;refine no ?_;apply eb;refine k6 ?_;refine⟨rfl,ak,.inr (af.ac5 rfl rfl rfl rfl atw atw ?_)⟩;(conv=>whnf);refine⟨rfl,ak,.inr (af.ac6 aM rfl rfl rfl rfl (afT m h1 A) ?_)⟩;apply eb;refine go ?_;rw[nz,atH (by rw[hc];decide)];exact E
theorem afU(t:Int):aU B 220 [u t] (.bool (II t)):=by refine bA Tryz.func220 Tryz.ntmps220 λU=>?_;refine go ?_;exact E
theorem afV(t:Int):aU B 221 [u t] (.bool (IJ t)):=by refine bA Tryz.func221 Tryz.ntmps221 λU=>?_;refine go ?_;exact E
theorem afW(t:Int):aU B 157 [u t] (.bool (Nv t)):=by refine bA Tryz.func157 Tryz.ntmps157 λU=>?_;refine pa ?_;refine⟨λ_=>by omega,?_⟩;refine go ?_;exact E
theorem Vk(y:Int):365<=ny y/\ny y<=366:=by unfold ny;split<;>omega
theorem afX(y m:Int)(h1:1<=m)(A:m<=12):28<=nz y m/\nz y m<=31:=by unfold nz Cq;split;omega;(have hm:(m-1).toNat<12:=by omega);generalize(m-1).toNat=k at*;match k,hm with|0,_=>decide|1,_=>decide|2,_=>decide|3,_=>decide|4,_=>decide|5,_=>decide|6,_=>decide|7,_=>decide|8,_=>decide|9,_=>decide|10,_=>decide|11,_=>decide
def s5(y m:Int):Int:=([0,31,59,90,120,151,181,212,243,273,304,334]:List Int).getD (m-1).toNat 0+(if(decide (2<m)&&iH y)=true then 1 else 0)
theorem afY(y m:Int)(h1:1<=m)(A:m<12):s5 y (m+1)=s5 y m+nz y m:=by obtain⟨k,Y,rfl⟩:∃k:Nat,k<11/\m=(k:Int)+1:=⟨(m-1).toNat,by omega,by omega⟩;unfold s5 nz Cq;match k,Y with|0,_=>cases iH y<;>decide|1,_=>cases iH y<;>decide|2,_=>cases iH y<;>decide|3,_=>cases iH y<;>decide|4,_=>cases iH y<;>decide|5,_=>cases iH y<;>decide|6,_=>cases iH y<;>decide|7,_=>cases iH y<;>decide|8,_=>cases iH y<;>decide|9,_=>cases iH y<;>decide|10,_=>cases iH y<;>decide
theorem afZ(y m:Int)(h1:1<=m)(A:m<=12):0<=s5 y m:=by obtain⟨k,Y,rfl⟩:∃k:Nat,k<12/\m=(k:Int)+1:=⟨(m-1).toNat,by omega,by omega⟩;unfold s5;match k,Y with|0,_=>cases iH y<;>decide|1,_=>cases iH y<;>decide|2,_=>cases iH y<;>decide|3,_=>cases iH y<;>decide|4,_=>cases iH y<;>decide|5,_=>cases iH y<;>decide|6,_=>cases iH y<;>decide|7,_=>cases iH y<;>decide|8,_=>cases iH y<;>decide|9,_=>cases iH y<;>decide|10,_=>cases iH y<;>decide|11,_=>cases iH y<;>decide
theorem af0(y:Int):s5 y 12+nz y 12=ny y:=by unfold s5 nz Cq ny;cases iH y<;>decide
def Cr(d y:Int):Int×Int:=if h:ny y<=d then Cr (d-ny y) (y+1)else(d,y)
termination_by d.toNat
decreasing_by have:=Vk y;omega
def w9(n:Nat)(y d m:Int):Int×Int:=match n with
 |0=>(d,m)
 |n+1=>if nz y m<=d then w9 n y (d-nz y m) (m+1)else(d,m)
theorem af1{n:Nat}{y d m:Int}(h:¬nz y m<=d):w9 n y d m=(d,m):=by cases n with|zero=>rfl|succ n=>rw[w9,atH h]
def Vl(y:Int)(b:Int×Int)(er:Int):List Int:=[y,b.2,b.1+1,er.tdiv 3600,(er.tdiv 60).tmod 60,er.tmod 60]
def Vm(a:Int×Int)(er:Int):List Int:=Vl a.2 (w9 12 a.2 a.1 1) er
def ER(D er:Int):List Int:=Vm (Cr D 1970) er
def Vn(t V:Int):List Int:=ER ((t+60*V).tdiv 86400) ((t+60*V).tmod 86400)
def yF(t V:Int):Bool:=!(bif !II t then true else !IJ V)
def oQ(t V:Int):List Int:=if yF t V=true then Vn t V else[0,0,0,0,0,0]
def Vo(l:List Int):D:=.agg (l.map (D.int .i64))
theorem af2(t V:Int):aU B 156 [u t,u V] (.bp [Vo (oQ t V),u (if yF t V=true then 0 else 2)]):=by
 refine bA Tryz.func156 Tryz.ntmps156 λU=>?_;refine go ?_;intro cT;refine go ?_;refine bs (afU t) ?_;refine bs (afV V) ?_;refine aK (bif !II t then true else !IJ V) rfl ?_ ?_<;>intro hc
 ·refine go ?_;have hs:¬yF t V=true:=by unfold yF;rw[hc];decide
  rw[oQ,atH hs,atH hs];refine go ?_;exact ar
 have hs:yF t V=true:=by unfold yF;rw[hc];rfl
 have ae:315532800<=t/\t<=4102444799/\-1440<=V/\V<=1440:=by
  revert hc;unfold II IJ
  cases h1:decide (315532800<=t)<;>cases A:decide (t<=4102444799)<;>cases Z:decide (-1440<=V)<;>cases aG:decide (V<=1440)<;>simp at h1 A Z aG⊢<;>omega
 rw[oQ,atI hs,atI hs,Vn];have Nw:(t+60*V).tdiv 86400=(t+60*V)/86400:=at6 atw;have Nx:(t+60*V).tmod 86400=(t+60*V)%86400:=au2 atw;apply co;apply b4;refine g5 ?_;refine g5 ?_;refine cl ?_;refine⟨λ_=>by omega,?_⟩;refine k6 ?_;refine⟨λ_=>by omega,?_⟩;(conv=>whnf);generalize s6:(t+60*V).tdiv 86400=yG at*;generalize mU:(t+60*V).tmod 86400=er at*;have af3:0<=yG/\yG<60000:=atw
 have ary:0<=er/\er<86400:=atw
 have IK:er.tdiv 3600=er/3600:=at6 atw;have arz:er.tdiv 60=er/60:=at6 atw;refine cl ?_;refine⟨λ_=>by omega,?_⟩;refine k6 ?_;refine⟨λ_=>by omega,?_⟩;refine k6 ?_;refine⟨λ_=>by omega,?_⟩;(conv=>whnf);refine⟨λ_=>by omega,?_⟩;refine go ?_;intro ij;refine go ?_;unfold ER;generalize EW:Cr yG 1970=Ny at*;generalize de:Vm Ny er=af4 at*;refine go ?_
 refine W.ec (α:={p:Int×Int // Cr p.1 p.2=Ny/\0<=p.1/\p.1<=yG/\1970<=p.2/\p.2<=1970+(yG-p.1)}) (λx=>[(4,.box 4 cT 0),(7,u x.1.1),(9,.box 9 ij 0)])
  (λx=>[(4,.box cT [u 0,u 0,u 0,u 0,u 0,u 0]),(9,.box ij [u x.1.2,u 1,u 0,u (er.tdiv 3600),u ((er.tdiv 60).tmod 60),u (er.tmod 60)])]) (λx=>x.1.1.toNat) ⟨(yG,1970),EW,af3.1,auN _,auN _,by omega⟩ [(4,4),(9,9)]
  ⟨ar,rfl,bc⟩ ?_
 rintro⟨⟨d,y⟩,hy,qV,E1,EC,Nz⟩;dsimp only at hy qV E1 EC Nz⊢;have arA:=Vk y;refine go ?_;refine bs (Vi y) ?_;refine aK (decide (ny y<=d)) rfl ?_ ?_<;>intro bu
 ·refine go ?_;have dO:ny y<=d:=by simpa using bu
  refine go ?_;refine bs (Vi y) ?_;exact⟨⟨(d-ny y,y+1),by rw[<-hy];conv=>{rhs;rw[Cr,avw dO]},by show 0<=d-ny y;omega,by show d-ny y<=yG;omega,by show 1970<=y+1;omega,by show y+1<=1970+(yG-(d-ny y));omega⟩,[(4,4),(9,9)],by show(d-ny y).toNat<d.toNat;omega,ar,rfl,bc⟩
 have af5:Ny=(d,y):=by rw[<-hy,Cr,awM (by simpa using bu)]
 have bf : d < ny y := by have : ¬ny y<=d := by simpa using bu
                          omega
 refine go ?_
 refine W.ec (α:={p:Int×Int×Nat // w9 p.2.2 y p.1 p.2.1=w9 12 y d 1/\0<=p.1/\1<=p.2.1/\p.2.1<=12/\p.1+s5 y p.2.1=d/\(p.2.2:Int)+p.2.1=13}) (λx=>[(4,.box 4 cT 0),(7,u x.1.1),(9,.box 9 ij 0)])
  (λx=>[(4,.box cT [u 0,u 0,u 0,u 0,u 0,u 0]),(9,.box ij [u y,u x.1.2.1,u 0,u (er.tdiv 3600),u ((er.tdiv 60).tmod 60),u (er.tmod 60)])]) (λx=>x.1.1.toNat) ⟨(d,1,12),rfl,qV,by show(1:Int)<=1;decide,by show(1:Int)<=12;decide,by show d+s5 y 1=d;rw[show s5 y 1=0 from by unfold s5;cases iH y<;>decide];omega,by show((12:Nat):Int)+1=13;decide⟩ [(4,4),(9,9)]
  ⟨ar,rfl,bc⟩ ?_
 rintro⟨⟨e,m,n⟩,hm,ob,mq,qQ,l9,mt⟩;dsimp only at hm ob mq qQ l9 mt⊢;have arB:=afX y m mq qQ;have Fu:=afZ y m mq qQ;refine go ?_;refine bs (Vj y m mq qQ) ?_;refine aK (decide (nz y m<=e)) rfl ?_ ?_<;>intro dK
 ·refine go ?_;have dO:nz y m<=e:=by simpa using dK
  have af6:m<12:=by
   rcases Int.lt_or_le m 12 with h|h
   ·exact h
   have:m=12:=atw
   subst this;have:=af0 y;omega
  obtain⟨n,rfl⟩:∃k,n=k+1:=⟨n-1,by omega⟩;refine go ?_;refine bs (Vj y m mq qQ) ?_;exact⟨⟨(e-nz y m,m+1,n),by rw[<-hm];conv=>{rhs;rw[w9,atI dO]},by show 0<=e-nz y m;omega,by show 1<=m+1;omega,by show m+1<=12;omega,by show e-nz y m+s5 y (m+1)=d;rw[afY y m mq af6];omega,by show(n:Int)+(m+1)=13;omega⟩,[(4,4),(9,9)],by show(e-nz y m).toNat<e.toNat;omega,ar,rfl,bc⟩
 have af7:w9 12 y d 1=(e,m):=by rw[<-hm];exact af1 (by simpa using dK)
 have af8:af4=[y,m,e+1,er.tdiv 3600,(er.tdiv 60).tmod 60,er.tmod 60]:=by rw[<-de,af5];show Vl y (w9 12 y d 1) er=_;rw[af7];rfl
 subst af8;have Cs:e<1000000:=atw
 refine go ?_;exact ar
def Fv(t V:Int):Bool:=yF t V&&Nv V
def Ct(t V:Int):List Int:=[IntKind.wrap .u8 (IntKind.wrap .i64 ((oQ t V).getD 0 0-1900)),IntKind.wrap .u8 ((oQ t V).getD 1 0),IntKind.wrap .u8 ((oQ t V).getD 2 0),IntKind.wrap .u8 ((oQ t V).getD 3 0),IntKind.wrap .u8 ((oQ t V).getD 4 0),IntKind.wrap .u8 ((oQ t V).getD 5 0),IntKind.wrap .u8 (IntKind.wrap .i8 (IntKind.wrap .i64 (V.tdiv 15)))]
def vP(t V:Int):atG×Int:=if Fv t V=true then((Ct t V).map oP,0)else([],2)
theorem af9(t V:Int):∀n∈Ct t V,0<=n/\n<=255:=λn aw=>by
 simp only[Ct,at5,awh,awB]at aw;rcases aw with rfl|rfl|rfl|rfl|rfl|rfl|rfl<;>exact Nt _
theorem af_(t V:Int):Vo (oQ t V)=.agg [u ((oQ t V).getD 0 0),u ((oQ t V).getD 1 0),u ((oQ t V).getD 2 0),u ((oQ t V).getD 3 0),u ((oQ t V).getD 4 0),u ((oQ t V).getD 5 0)]:=by unfold oQ;split<;>rfl
theorem Vp(t V:Int):aU B 108 [u t,u V] (.bp [.O (vP t V).1,u (vP t V).2]):=by refine bA Tryz.func108 Tryz.ntmps108 λU=>?_;refine pa ?_;refine⟨[u t,u V],_,λ_=>af2 t V,ar,?_⟩;rw[af_];refine go ?_;intro d_;refine go ?_;refine bs (afW V) ?_;refine aK (!Fv t V) (atJ D.bool (by unfold Fv;cases yF t V<;>cases Nv V<;>rfl)) ?_ ?_<;>intro hc;refine go ?_;(have hs:¬Fv t V=true:=by simpa using hc);rw[vP,atH hs];exact ar;apply co;refine vf ?_;apply mf;refine eB ?_;refine .inr ?_;refine nY ?_;refine .inr ?_;apply mf;apply cB;refine nY ?_;refine .inr ?_;apply mf;apply cB;refine nY ?_;refine .inr ?_;apply mf;apply cB;refine nY ?_;refine .inr ?_;apply mf;apply cB;refine nY ?_;refine .inr ?_;apply mf;apply cB;refine nY ?_;refine .inr ?_;(conv=>whnf);refine⟨λ_=>by omega,?_⟩;refine go ?_;refine x5 ?_;refine x5 ?_;refine x5 ?_;refine .inr (af.vd aM (aS:=(Ct t V).map oP) (tg:=.dV) rfl rfl rfl rfl rfl rfl (atJ (D.Q .dV 1) (yt (Ct t V) (af9 t V))) ?_);refine go ?_;(have hs:Fv t V=true:=by simpa using hc);rw[vP,atI hs];exact ar
theorem Vq(t V:Int):(vP t V).1.length<=7:=by unfold vP Ct;split<;>simp
def qX(n:ad)(o:f0):Int:=if(!valid n)=true then 1 else if(32:Int)<((o.gL.map pk).length:Nat)then 7 else(vP 315619200 o.c3).2
theorem af'(a1:db B)(n:ad)(o:f0)(bC:aC n+n.name.length<10000000):aU B 75 [aE n,rX o] (u (qX n o)):=by refine bA Tryz.func75 Tryz.ntmps75 λU=>?_;refine go ?_;intro cm;refine go ?_;intro eR;refine go ?_;refine bs (Ao a1 n bC) ?_;refine aK (!valid n) rfl ?_ ?_<;>intro hc;refine go ?_;rw[qX,atI hc];exact E;refine go ?_;rw[qX,atH (by rw[hc];decide)];refine go ?_;refine aK (decide ((32:Int)<((o.gL.map pk).length:Nat))) rfl ?_ ?_<;>intro hc;refine go ?_;rw[atI (by simpa using hc)];exact E;refine go ?_;rw[atH (by simpa using hc)];refine go ?_;refine bs (Vp 315619200 o.c3) ?_;exact E
theorem aga:aU B 320 [u 4] (.bool true):=by refine bA Tryz.func320 Tryz.ntmps320 λU=>?_;apply b4;apply b4;refine ib ?_;refine ib ?_;refine iD ?_;exact E
theorem agb(n:Int)(h0:0<=n)(h1:n<4294967296):aU B 321 [u n,u 4] (.bool true):=by
 refine bA Tryz.func321 Tryz.ntmps321 λU=>?_;apply b4;apply b4;apply g2;refine hv ?_;refine .inl ⟨λh=>by simp[du],?_⟩;refine mQ ?_;refine⟨λh=>by omega,?_⟩;apply g2;refine nX ?_;refine tU ?_;refine iD ?_;have e:IntKind.i64.wrap (2 ^ min 32 IntKind.i64.bits)=4294967296:=by decide
 have bV:decide (0<=n)=true:=auC h0;have b9:decide (n<4294967296)=true:=auC h1;refine aq.of_eq (atJ D.bool ?_);simp[e,bV,b9,h0,h1]
theorem agc:aU B 323 [u 4] (.fn (.func 361) [] []):=by refine bA Tryz.func323 Tryz.ntmps323 λU=>?_;apply b4;refine gj ?_;exact E
theorem agd(i:Int):aU B 361 [u i] (u i):=by refine bA Tryz.func361 Tryz.ntmps361 λU=>?_;apply b4;refine gj ?_;exact E
theorem age:aU B 324 [u 4] (.fn (.func 362) [] [.a_ 1 [u 4] 0 0]):=by refine bA Tryz.func324 Tryz.ntmps324 λU=>?_;refine cl ?_;intro b;(conv=>whnf);refine W.BI 1 1 (u 4) rfl rfl rfl rfl ?_;refine gj ?_;exact E
theorem agf(i:Int)(h0:0<=i)(h1:i<=3):aU B 362 [u i,.a_ 1 [u 4] 0 0] (u (3-i)):=by refine bA Tryz.func362 Tryz.ntmps362 λU=>?_;apply b4;apply b4;refine x4 (u 4) ?_;refine g5 ?_;refine g5 ?_;refine iD ?_;exact dt atw
def agh(n:Int)(k:Nat):Int:=IntKind.wrap .u8 (n.fdiv (2 ^ min (8*(k:Int)).toNat IntKind.i64.bits))
def vQ(n:Int)(iI:Nat->Nat):Nat->List Int
 |0=>[0,0,0,0]
 |k+1=>(vQ n iI k).set (iI k) (agh n k)
theorem NA(n:Int)(iI:Nat->Nat):∀k,(vQ n iI k).length=4
 |0=>rfl
 |k+1=>by simp only[vQ,avd];exact NA n iI k
theorem agi(m:Int):0<=IntKind.wrap .u8 m/\IntKind.wrap .u8 m<=255:=by
 have e:IntKind.wrap .u8 m=m%256:=by simp[IntKind.wrap,IntKind.bits,IntKind.signed]
 rw[e];omega
theorem Vr(n:Int)(iI:Nat->Nat):∀k,∀x∈vQ n iI k,0<=x/\x<=255
 |0,x,h=>by simp[vQ]at h;omega
 |k+1,x,h=>by rcases avV h with h|h;exact Vr n iI k x h;subst h;exact agi _
def Cu(n:Int)(iI:Nat->Nat):atG:=(vQ n iI 4).map oP
theorem Vs(n:Int)(iI:Nat->Nat):(Cu n iI).length=4:=by simp[Cu,NA]
theorem Vt(n:Int)(b8:Nat)(cu:List D)(iI:Nat->Nat)(ay:∀k,k<4->iI k<4/\aU B b8 ([u (k:Nat)]++cu) (u (iI k:Nat))):aU B 322 [u n,u 4,.fn (.func b8) [] cu] (.O (Cu n iI)):=by refine bA Tryz.func322 Tryz.ntmps322 λU=>?_;refine go ?_;refine .inr (af.x2 aM (n:=4) rfl rfl rfl rfl rfl rfl rfl atz atz λgO=>?_);refine go ?_;refine W.ec (α:={k:Nat // k<=4}) (λx=>[(0,u n),(1,u 4),(2,.fn (.func b8) [] cu),(7,.ai gO),(11,u 4),(12,u (x.1:Nat))]) (λx=>[(10,.row gO ((vQ n iI x.1).map (D.int .u8)) 1 5)]) (λx=>4-x.1) ⟨0,by omega⟩ [(10,10)] ⟨ar,rfl,bc⟩ ?_;rintro⟨k,Y⟩;refine go ?_;refine aK (decide ((k:Int)<4)) rfl ?_ ?_<;>intro hc;apply co;(have Az:k<4:=by have:=aua hc;omega);have Al:=NA n iI k;refine gJ ?_;refine W.zL aM 9 mixed atB ?_;refine go ?_;refine⟨[u (k:Nat)]++cu,_,λ_=>(ay k Az).2,dN.refl _,?_⟩;refine k6 ?_;refine⟨λ_=>by omega,?_⟩;refine go ?_;refine x5 ?_;refine .inr (af.ey aM 10 rfl rfl rfl rfl rfl rfl rfl atw (by simp[Al];have:=(ay k Az).1;omega) ?_);refine go ?_;refine .inr (af.ni aM 10 (i:=iI k) (by simp;rfl) rfl rfl rfl (by simp[Al];exact(ay k Az).1) rfl ?_);refine go ?_;exact⟨⟨k+1,by omega⟩,[(10,10)],by show 4-(k+1)<4-k;omega,ar,rfl,rfl,atJ (λV=>some (aJ.row gO V 1 5)) (by simp only[vQ,aw7];rfl),ak⟩;refine wT ?_;(have Az:k=4:=by have:=at2 hc;omega);subst Az;refine W.fb [(7,.ai gO)] [(10,.row gO ((vQ n iI 4).map (D.int .u8)) 1 5)] [(10,10)] ⟨ar,rfl,bc⟩ ?_;refine W.vp 10 7 rfl ?_;refine go ?_;refine .inr (af.vd aM (aS:=Cu n iI) (tg:=.none) rfl rfl rfl rfl rfl rfl (atJ (D.Q .none 1) (yt (vQ n iI 4) (Vr n iI 4))) ?_);refine go ?_;exact E
def Cv(n:Int):atG:=Cu n (λk=>k)++Cu n (λk=>3-k)
theorem IL(n:Int):(Cv n).length=8:=by simp[Cv,Vs]
theorem agj(n:Int)(h0:0<=n)(h1:n<4294967296):aU B 278 [u n,u 4] (.bp [.O (Cv n),u 0]):=by refine bA Tryz.func278 Tryz.ntmps278 λU=>?_;apply b4;refine p3 ?_;refine⟨_,_,λ_=>aga,ar,?_⟩;refine W.cond false rfl (λhc=>nomatch hc) (λhc=>?_);apply co;refine p3 ?_;refine⟨_,_,λ_=>agb n h0 h1,ar,?_⟩;refine W.cond false rfl (λhc=>nomatch hc) (λhc=>?_);apply co;refine cl ?_;refine⟨_,_,λ_=>agc,ar,?_⟩;refine go ?_;refine⟨_,_,λ_=>Vt n 361 [] (λk=>k) (λk Y=>⟨Y,agd _⟩),ar,?_⟩;refine go ?_;refine⟨_,_,λ_=>age,ar,?_⟩;refine go ?_;refine⟨_,_,λ_=>Vt n 362 [.a_ 1 [u 4] 0 0] (λk=>3-k) (λk Y=>⟨by omega,by have:=agf (B:=B) (k:Nat) atw atw;rw[show((3-k:Nat):Int)=3-(k:Int) by omega];exact this⟩),ar,?_⟩;refine go ?_;refine⟨λ_=>by simp[Vs],?_⟩;refine go ?_;exact ar
def s7(p:Int->Bool):Nat->List Int->Int
 |_,[]=>-1
 |i,x::r=>if p x then(i:Int)else s7 p (i+1) r
theorem Vu(p:Int->Bool):∀(l:List Int) (i:Nat),decide (0<=s7 p i l)=l.any p
 |[],i=>by simp[s7]
 |x::r,i=>by by_cases F:p x=true;simp[s7,F];have:=Vu p r (i+1);simp[s7,F,this]
theorem agk(tg:iv)(T:List Int)(hT:T.length<1000000)(b8:Nat)(cu:List D)(p:Int->Bool)(m2:∀k∈T,aU B b8 (u k::cu) (.bool (p k))):aU B 143 [.Q tg 1 (T.map (D.int .i64)),.fn (.func b8) [] cu] (u (s7 p 0 T)):=by refine bA Tryz.func143 Tryz.ntmps143 λU=>?_;refine go ?_;refine W.loop (α:={i:Nat // i<=T.length/\s7 p 0 T=s7 p i (T.drop i)}) (λx=>[(0,.Q tg 1 (T.map (D.int .i64))),(1,.fn (.func b8) [] cu),(7,u (T.map (D.int .i64)).length),(8,u x.1)]) (λ_=>[]) (λx=>T.length-x.1) ⟨0,by simp⟩ ar trivial ?_;rintro⟨i,hi,bi⟩;refine go ?_;refine aK (decide ((i:Int)<(T.map (D.int .i64)).length)) rfl ?_ ?_<;>intro hc;apply co;(have aI:i<T.length:=by simpa using hc);have k':=auQ aI;refine kq ?_;refine pa ?_;refine p1 ?_;refine⟨u T[i],λ_=>by simp[aI],?_⟩;refine go ?_;refine⟨u T[i]::cu,_,λ_=>m2 T[i] (atO aI),⟨E,dN.refl _⟩,?_⟩;refine go ?_;refine aK (p T[i]) rfl ?_ ?_<;>intro hc;refine go ?_;exact dt (bi.trans (by show s7 p i (T.drop i)=(i:Int);rw[k'];simp[s7,hc])).symm;refine go ?_;exact⟨⟨i+1,aI,by rw[bi,k'];simp[s7,hc]⟩,ayq,ar,ak⟩;refine go ?_;(have ci:i=T.length:=by simp at hc;omega);refine go ?_;exact dt (bi.trans (by rw[ci];simp[s7])).symm
theorem agl(tg:iv)(T:List Int)(hT:T.length<1000000)(b8:Nat)(cu:List D)(p:Int->Bool)(m2:∀k∈T,aU B b8 (u k::cu) (.bool (p k))):aU B 146 [.Q tg 1 (T.map (D.int .i64)),.fn (.func b8) [] cu] (.bool (T.any p)):=by refine bA Tryz.func146 Tryz.ntmps146 λU=>?_;refine pa ?_;refine⟨_,_,λ_=>agk tg T hT b8 cu p m2,ar,?_⟩;refine go ?_;exact aq.of_eq (atJ D.bool (Vu p T 0))
def AA(n:Int):Bool:=decide (n<0)||decide (4294967296<=n)
theorem agm(n:Int):aU B 319 [u n] (.bool (AA n)):=by refine bA Tryz.func319 Tryz.ntmps319 λU=>?_;refine go ?_;refine aq.of_eq (atJ D.bool ?_);unfold AA;cases decide (n<0)<;>rfl
theorem Vv(tg:iv)(T:List Int)(hT:T.length<1000000):aU B 277 [.Q tg 1 (T.map (D.int .i64))] (.bool (!T.any AA)):=by refine bA Tryz.func277 Tryz.ntmps277 λU=>?_;refine pa ?_;refine⟨_,_,λ_=>agl tg T hT 319 [] AA (λk _=>agm k),ar,?_⟩;refine go ?_;exact E
def li(Fw agn:atG):D:=.agg [.O Fw,u 1,.O agn]
theorem ago:aU B 161 [u 0] (.bp [li [83,80] [190,239,0],u 0]):=by refine bA Tryz.func161 Tryz.ntmps161 λU=>?_;refine cl ?_;intro b;refine f_ ?_;refine ib ?_;refine W.cond false rfl (λhc=>nomatch hc) (λhc=>?_);apply co;refine qH ?_;refine .inl (.inl ⟨by simp[du],?_⟩);refine go ?_;refine .inr (af.vd aM (aS:=[190,239,0]) (tg:=.dV) rfl rfl rfl rfl rfl rfl rfl ?_);refine go ?_;exact ar
theorem agp:aU B 236 [.O [82,82,73,80,95,49,57,57,49,65],.O [82,79,67,75,32,82,73,68,71,69],.O [77,65,83,84,69,82,68,73,83,67],u 1] (.bp [li [69,82] ([10,10,10,1]++[82,82,73,80,95,49,57,57,49,65]++[82,79,67,75,32,82,73,68,71,69]++[77,65,83,84,69,82,68,73,83,67]),u 0]):=by refine bA Tryz.func236 Tryz.ntmps236 λU=>?_;refine cl ?_;intro b;refine f_ ?_;refine ib ?_;refine W.cond false rfl (λhc=>nomatch hc) (λhc=>?_);apply co;refine f_ ?_;refine g5 ?_;refine g5 ?_;refine W.cond false rfl (λhc=>nomatch hc) (λhc=>?_);apply co;refine cl ?_;refine .inl ⟨by simp[du],?_⟩;(conv=>whnf);refine .inl ⟨by simp[du],?_⟩;(conv=>whnf);refine .inl ⟨by simp[du],?_⟩;(conv=>whnf);refine .inl ⟨by simp[du],?_⟩;refine go ?_;refine .inr (af.vd aM (aS:=[10,10,10,1]) (tg:=.dV) rfl rfl rfl rfl rfl rfl rfl ?_);refine go ?_;refine mR ?_;refine mR ?_;refine mR ?_;exact ar
def Vw:D:=li [69,82] ([10,10,10,1]++[82,82,73,80,95,49,57,57,49,65]++[82,79,67,75,32,82,73,68,71,69]++[77,65,83,84,69,82,68,73,83,67])
theorem agq:aU B 164 [] (Vw):=by refine bA Tryz.func164 Tryz.ntmps164 λU=>?_;refine go ?_;intro b;refine cl ?_;refine⟨_,_,λ_=>agp,ar,?_⟩;refine go ?_;intro b;refine go ?_;exact E
def r9(oR:Bool)(kind g9 j7 j8 j9:Int)(named:Bool)(name target:atG)(agr:Bool)(fh b0 cA:Int)(jQ:Bool):D:=.agg [.bool oR,u kind,u g9,u j7,u j8,u j9,.bool named,.O name,.O target,.bool agr,u fh,u b0,u cA,.bool jQ]
structure NB (kind g9 j7 j8 j9:Int) (named:Bool) (name target:atG) (fh b0:Int):Prop where
 gy:0<=kind
 cq:kind<=2
 nA:0<=g9
 m1:g9<=4095
 w:[j7,j8,j9,b0,0].any AA=false
 n:named=true->dX name=true
 hM:named=false->name=[]
 t:target=[]\/kR target=true
 t0:315532800<=fh
 IM:fh<=4102444799
 Cw:name.length<1000000000
 Fx:target.length<1000000000
theorem ags(a1:db B)(kind g9 j7 j8 j9:Int)(named:Bool)(name target:atG)(fh b0:Int)(jQ:Bool)(h:NB kind g9 j7 j8 j9 named name target fh b0):aU B 230 [r9 true kind g9 j7 j8 j9 named name target true fh b0 0 jQ] (u 0):=by
 refine bA Tryz.func230 Tryz.ntmps230 λU=>?_;refine cl ?_;intro b;refine gJ ?_
 repeat ((first|refine⟨rfl,?_⟩|refine⟨λh=>h,?_⟩|refine⟨λh0 h=>ayg,?_⟩);(conv=>whnf))
 obtain⟨gy,cq,nA,m1,cz,aw,wM,av,t0,IM,Cw,Fx⟩:=h;refine W.cond false rfl (λhc=>nomatch hc) (λhc=>?_);refine go ?_
 repeat ((first|refine⟨rfl,?_⟩|refine⟨λh=>h,?_⟩|refine⟨λh0 h=>ayg,?_⟩);(conv=>whnf))
 refine aK _ rfl (λhc=>?_) (λbu=>?_)
 ··exact False.elim (by revert hc;cases named<;>simp_all)
 refine go ?_
 repeat ((first|refine⟨rfl,?_⟩|refine⟨λh=>h,?_⟩|refine⟨λh0 h=>ayg,?_⟩);(conv=>whnf))
 refine aK _ rfl (λhc=>?_) (λdK=>?_)
 ··exact False.elim (by have bV : decide (kind < 0) = false := by simp;omega
                        have b9:decide (2<kind)=false:=by simp;omega
                        rw[bV,b9]at hc;cases hc)
 refine go ?_
 repeat ((first|refine⟨rfl,?_⟩|refine⟨λh=>h,?_⟩|refine⟨λh0 h=>ayg,?_⟩);(conv=>whnf))
 refine⟨_,_,λh=>yv a1 name Cw,ar,?_⟩;refine go ?_
 repeat ((first|refine⟨rfl,?_⟩|refine⟨λh=>h,?_⟩|refine⟨λh0 h=>ayg,?_⟩);(conv=>whnf))
 refine⟨_,_,λh=>Ip a1 target Fx,ar,?_⟩;refine go ?_
 repeat ((first|refine⟨rfl,?_⟩|refine⟨λh=>h,?_⟩|refine⟨λh0 h=>ayg,?_⟩);(conv=>whnf))
 refine aK _ rfl (λhc=>?_) (λmo=>?_)
 ··exact False.elim (by revert hc;rcases av with rfl|av<;>cases named<;>simp_all)
 refine go ?_
 repeat ((first|refine⟨rfl,?_⟩|refine⟨λh=>h,?_⟩|refine⟨λh0 h=>ayg,?_⟩);(conv=>whnf))
 refine go ?_;refine⟨_,_,λ_=>Vv .dV [j7,j8,j9,b0,0] aty,ar,?_⟩;refine go ?_;refine aK _ rfl (λhc=>?_) (λw_=>?_)
 ··exact False.elim (by have bV : decide (g9 < 0) = false := by simp;omega
                        have b9:decide (4095<g9)=false:=by simp;omega
                        rw[bV,b9,cz]at hc;cases hc)
 refine go ?_
 repeat ((first|refine⟨rfl,?_⟩|refine⟨λh=>h,?_⟩|refine⟨λh0 h=>ayg,?_⟩);(conv=>whnf))
 refine aK _ rfl (λhc=>?_) (λul=>?_)
 ··exact False.elim (by have bV : decide (fh < 315532800) = false := by simp;omega
                        have b9:decide (4102444799<fh)=false:=by simp;omega
                        rw[bV,b9]at hc;cases hc)
 refine go ?_;exact E
theorem agt(a1:db B) : aU B 230 [r9 false 0 0 0 0 0 false [] [] false 0 0 1 false] (u 0):=by refine bA Tryz.func230 Tryz.ntmps230 λU=>?_;refine cl ?_;intro b;refine gJ ?_;(repeat ((first|refine⟨rfl,?_⟩|refine⟨λh=>h,?_⟩|refine⟨λh0 h=>ayg,?_⟩);(conv=>whnf)));refine W.cond false rfl (λhc=>nomatch hc) (λhc=>?_);refine cl ?_;(repeat ((first|refine⟨rfl,?_⟩|refine⟨λh=>h,?_⟩|refine⟨λh0 h=>ayg,?_⟩);(conv=>whnf)));refine W.cond false rfl (λhc=>nomatch hc) (λbu=>?_);refine cl ?_;(repeat ((first|refine⟨rfl,?_⟩|refine⟨λh=>h,?_⟩|refine⟨λh0 h=>ayg,?_⟩);(conv=>whnf)));refine W.cond false rfl (λhc=>nomatch hc) (λdK=>?_);refine go ?_;(repeat ((first|refine⟨rfl,?_⟩|refine⟨λh=>h,?_⟩|refine⟨λh0 h=>ayg,?_⟩);(conv=>whnf)));refine⟨_,_,λh=>yv a1 [] atz,ar,?_⟩;refine go ?_;(repeat ((first|refine⟨rfl,?_⟩|refine⟨λh=>h,?_⟩|refine⟨λh0 h=>ayg,?_⟩);(conv=>whnf)));refine⟨_,_,λh=>Ip a1 [] atz,ar,?_⟩;(conv=>whnf);(repeat ((first|refine⟨rfl,?_⟩|refine⟨λh=>h,?_⟩|refine⟨λh0 h=>ayg,?_⟩);(conv=>whnf)));refine W.cond false rfl (λhc=>nomatch hc) (λmo=>?_);refine go ?_;(repeat ((first|refine⟨rfl,?_⟩|refine⟨λh=>h,?_⟩|refine⟨λh0 h=>ayg,?_⟩);(conv=>whnf)));refine go ?_;refine⟨_,_,λ_=>Vv .dV [0,0,0,0,1] atz,ar,?_⟩;refine ib ?_;refine W.cond false rfl (λhc=>nomatch hc) (λw_=>?_);refine cl ?_;(repeat ((first|refine⟨rfl,?_⟩|refine⟨λh=>h,?_⟩|refine⟨λh0 h=>ayg,?_⟩);(conv=>whnf)));refine W.cond false rfl (λhc=>nomatch hc) (λul=>?_);refine go ?_;exact E
def s8(l:Int)(k:ad):Bool:=k.kind==0&&lg 2 k (l+1)
def kU(m:ad)(l:Int):Int:=if m.kind=0 then 2+(m.J.countP (s8 l):Nat)else 1
theorem agu(p:ad->Bool)(L:List ad)(h:i<L.length):(L.take (i+1)).countP p=(L.take i).countP p+if p L[i]then 1 else 0:=by rw[atM h,List.countP_append];simp[List.countP_cons]
theorem Vx(b:D)(m:ad)(l:Int)(r8:0<=l)(ko:l<=1000000)(hm:m.J.length<=1000000):aU B 163 [b,aE m,u l] (r9 true m.kind m.cN (kU m l) m.n2 m.n3 false [] [] true m.n4 0 0 false):=by refine bA Tryz.func163 Tryz.ntmps163 λU=>?_;refine cl ?_;intro cT;(conv=>whnf);intro d_;refine cl ?_;refine W.lI (α:=Unit) (λx=>[(4,.box 4 cT 0),(6,.box 6 d_ 0),(7,u (kU m l))]) (λx=>[(4,.box cT (aE m).cells),(6,.box d_ [.bool false,u 0,u 0,u 0,u 0,u 0,.bool false,.O [],.O [],.bool false,u 0,u 0,u 0,.bool false])]) ?_ ?_;refine iX ?_;refine aK (m.kind==0) rfl ?_ ?_<;>intro hc;apply b4;refine iX ?_;apply oG;refine W.ec (α:={i:Nat // i<=m.J.length}) (λx=>[(2,u l),(4,.box 4 cT 0),(6,.box 6 d_ 0),(7,u (2+((m.J.take x.1).countP (s8 l):Nat))),(14,.Q .none 12 (m.J.map enc)),(15,u (m.J.map enc).length),(16,u x.1)]) (λx=>[(4,.box cT (aE m).cells),(6,.box d_ [.bool false,u 0,u 0,u 0,u 0,u 0,.bool false,.O [],.O [],.bool false,u 0,u 0,u 0,.bool false])]) (λx=>m.J.length-x.1) ⟨0,by omega⟩ [(4,4),(6,6)] ⟨ar,rfl,bc⟩ ?_;rintro⟨i,hi⟩;apply b4;apply el;refine aK (decide ((i:Int)<(m.J.map enc).length)) rfl ?_ ?_<;>intro bu;apply co;(have aI:i<m.J.length:=by simpa using bu);have Iu:=agu (s8 l) m.J aI;have jE:(m.J.take i).countP (s8 l)<=i:=avc (List.countP_le_length) atx;refine vh ?_;refine⟨aE m.J[i],λ_=>n7 aI,?_⟩;(conv=>whnf);intro ij;apply cB;refine iX ?_;apply cB;apply g2;refine g5 ?_;refine hv ?_;refine⟨[u 2,aE m.J[i],u (l+1)],_,λh=>Fe 2 m.J[i] (l+1),ar,?_⟩;refine tU ?_;refine aK (s8 l m.J[i]) (by rw[s8];cases(m.J[i].kind==0)<;>rfl) ?_ ?_<;>intro dK;apply kp;refine g5 ?_;refine nl ?_;exact⟨⟨i+1,aI⟩,[(4,4),(6,6)],by show m.J.length-(i+1)<m.J.length-i;omega,⟨E,E,E,dt (by show(2:Int)+((m.J.take i).countP (s8 l):Nat)+1=2+((m.J.take (i+1)).countP (s8 l):Nat);rw[Iu,atI dK];omega),E,E,E,ak⟩,rfl,bc⟩;refine rI ?_;exact⟨⟨i+1,aI⟩,[(4,4),(6,6)],by show m.J.length-(i+1)<m.J.length-i;omega,⟨E,E,E,dt (by show(2:Int)+((m.J.take i).countP (s8 l):Nat)=2+((m.J.take (i+1)).countP (s8 l):Nat);rw[Iu,atH (by simp[dK])];rfl),E,E,E,ak⟩,rfl,bc⟩;refine wT ?_;(have ci:i=m.J.length:=by simp at bu;omega);(have jO:m.kind=0:=by simpa using hc);exact⟨(),[(4,4),(6,6)],⟨E,E,dt (by show(2:Int)+((m.J.take i).countP (s8 l):Nat)=kU m l;rw[ci,atX,kU,atI jO]),ak⟩,rfl,bc⟩;refine fg ?_;exact⟨(),[(4,4),(6,6)],⟨E,E,dt (by unfold kU;rw[atH (by simpa using hc)]),ak⟩,rfl,bc⟩;rintro⟨⟩;refine iX ?_;apply cB;apply cB;apply cB;apply cB;apply cB;apply Ei;refine eB ?_;exact E
theorem NC:Tryz.prog.underlying 161=some (.pointer 164):=by kernel_rfl
theorem Vy:Tryz.prog.underlying 300=some .unsafePointer:=by kernel_rfl
theorem Vz:(Tryz.prog.info? 164).map (·.size)=some 2:=by kernel_rfl
theorem agv:liesAt Tryz.prog Tryz.prog.depth 164 (2/Tryz.prog.cellsOf 164) 0 164 1=true:=by kernel_rfl
theorem agw(b:Nat)(w:World)(h0:w.cell? ⟨b,0,none⟩=some (.pointer (some ⟨b,0,none⟩))): Calls Tryz.prog 154 #[.pointer (some ⟨b,0,none⟩)] w λe w'=>e=.returned (.tuple #[])/\w'=w:=by obtain⟨j,aa,_⟩:=auP.1 Vz;go_enter Tryz.func154,Tryz.ntmps154;go_wp2;rw[Lib.run_neq_ptr_same w _ NC aa];go_wp2;go_end0;exact⟨rfl,rfl⟩
theorem agx(b:Nat)(w:World)(h0:w.cell? ⟨b,0,none⟩=some (.pointer none))(je:w.shape? b=some (164,2))(Mn:w.frozen? ⟨b,0,none⟩=false): Calls Tryz.prog 154 #[.pointer (some ⟨b,0,none⟩)] w λe w'=>e=.returned (.tuple #[])/\w'=w.setCell ⟨b,0,none⟩ (.pointer (some ⟨b,0,none⟩)):=by obtain⟨j,aa,agy⟩:=auP.1 Vz;go_enter Tryz.func154,Tryz.ntmps154;go_wp2;rw[Lib.run_to_unsafe w ⟨b,0,none⟩ NC Vy aa (by rw[agy];decide) je (Nat.zero_lt_succ 1)];simp only[Result.andThen];rw[Oper.upon_value];go_wp2;rw[run_callFunc_extern Tryz.func218 atB atB atB (e:=Extern.AbiNoEscape.same) atB];rw[Lib.run_noEscape];simp only[Result.andThen];rw[Oper.upon_value];go_wp2;rw[Lib.run_from_unsafe w ⟨b,0,none⟩ Vy NC aa je agv];simp only[Result.andThen];rw[Oper.upon_value];go_wp2;go_end0;exact⟨rfl,rfl⟩
theorem VA(w:World)(C:Nat->Nat):bh w C (.bp []) (.tuple #[]):=by exact .bp [] [] rfl (λj d v N X=>by simp at N)
def IN(b:Nat):D:=.ai (.pointer (some ⟨b,0,none⟩))
theorem VB(b:Nat)(p:Value)(d:D)(o:aJ)(ay:p=.pointer none\/p=.pointer (some ⟨b,0,none⟩)):c1 B 154 [.box 6000 b 0] (aL [(6000,.kE b 164 [.ai p,d]),(6001,o)]) λr aP=>r=.bp []/\aP=aL [(6000,.kE b 164 [IN b,d]),(6001,o)]:=by refine⟨jn Tryz.func154 rfl atA,λw C args Ft gc qD hH kJ=>?_⟩;obtain⟨nw,ae⟩:=kJ;match args,nw with|[a],_ =>have ha:=(ae 0 _ a rfl rfl).wC;subst ha;obtain⟨vs,I,hQ,de⟩:=hH.cj 6000 _ rfl;(match vs,hQ.1 with|[wY,v],_ =>have zW:=(hQ.2 0 _ wY rfl rfl).f4;subst zW;(have hY:w.cell? ⟨b,0,none⟩=some wY:=by rw[Lib.cell_of_heap I];rfl);rcases ay with rfl|rfl;refine(agx b w hY (by simp[World.shape?,I]) (Lib.frozen_of_heap I 0)).mono ?_;rintro e w' ⟨rfl,rfl⟩;have bf:b<w.heap.size:=(avu.1 I).1;(have bV:w.setCell ⟨b,0,none⟩ (.pointer (some ⟨b,0,none⟩))={w with heap:=w.heap.setIfInBounds b (.cells #[.pointer (some ⟨b,0,none⟩),v] 164 (0,0))}:=by(have aW:w.heap[b]=.cells #[.pointer none,v] 164 (0,0):=by have:=ave bf;rw[this]at I;exact auD I);unfold World.setCell;congr 1;apply Array.ext;simp;intro i h1 A;by_cases hi:i=b;subst hi;simp[Array.getElem_modify,aW];rw[Array.getElem_setIfInBounds];simp[Array.getElem_modify,Ne.symm hi];simpa using A);have a6:=c_.Hr (bM:=.cells #[.pointer (some ⟨b,0,none⟩),v] 164 (0,0)) I de;(have nV:({w with heap:=w.heap.setIfInBounds b (.cells #[.pointer (some ⟨b,0,none⟩),v] 164 (0,0))}:World).heap[b]?=some (.cells #[.pointer (some ⟨b,0,none⟩),v] 164 (0,0)):=by simp[bf]);rw[<-bV]at a6 nV;have bN:=hH.cI 6000 _ b rfl rfl;(have key:∀s x,aL [(6000,aJ.kE b 164 [IN b,d]),(6001,o)] s=some x->(s=6000/\x=.kE b 164 [IN b,d])\/(s=6001/\x=o):=λs x h=>by simp only[aL]at h;cases h1:Nat.beq s 6000 with|true=>rw[h1]at h;exact .inl ⟨auc h1,(auD h).symm⟩|false =>rw[h1]at h;(cases A:Nat.beq s 6001 with|true=>rw[A]at h;exact .inr ⟨auc A,(auD h).symm⟩|false=>rw[A]at h;cases h));(have kn:∀s x,aL [(6000,aJ.kE b 164 [IN b,d]),(6001,o)] s=some x->∃y,aL [(6000,aJ.kE b 164 [.ai (.pointer none),d]),(6001,o)] s=some y/\∀V,x.ef V->y.ef V:=λs x h=>by rcases key s x h with⟨rfl,rfl⟩|⟨rfl,rfl⟩;exact⟨_,rfl,λV bC=>bC⟩;exact⟨_,rfl,λV bC=>bC⟩);refine⟨_,_,C,_,rfl,⟨rfl,rfl⟩,VA _ _,(c_.refl Ft w C).trans a6 (λx _ F=>by subst F;exact bN),⟨λs x h=>?_,λs bo x y V aw h1 A an cV=>?_,λs x V h an=>?_⟩⟩;rcases key s x h with⟨rfl,rfl⟩|⟨rfl,rfl⟩;exact⟨[_,v],nV,.cons (.ai _) (.cons ((hQ.2 1 _ v rfl rfl).ext a6.ext) (.nil _ _)),de⟩;exact(hH.cj 6001 _ rfl).ix a6.ext λV bC=>a6.ix V ((hH.cj 6001 _ rfl).lt bC) (λe=>by subst e;exact hH.inj 6001 6000 _ _ V atz rfl rfl bC rfl);obtain⟨b1,Z,aG⟩:=kn s x h1;obtain⟨Sj,bb,cL⟩:=kn bo y A;exact hH.inj s bo b1 Sj V aw Z bb (aG V an) (cL V cV);obtain⟨b1,Z,aG⟩:=kn s x h;exact .inl (hH.cI s b1 V Z (aG V an));refine(agw b w hY).mono ?_;rintro e w' ⟨rfl,rfl⟩;exact⟨_,_,C,_,rfl,⟨rfl,rfl⟩,VA _ _,.refl _ _ _,⟨hH.cj,hH.inj,λs x y h1 A=>.inl (hH.cI s x y h1 A)⟩⟩)
def nB(l:atG):List D:=l.map λc=>D.int .u8 c.toNat
theorem VC(a b:atG):nB (a++b)=nB a++nB b:=auq
theorem um(a:atG):(nB a).length=a.length:=atL _
abbrev yH(b:Nat)(p v:Value)(xs:atG):List (Nat×aJ):=[(6000,.kE b 164 [.ai p,.ai v]),(6001,.row v (nB xs) 1 5)]
abbrev qh(b:Nat):Value:=.pointer (some ⟨b,0,none⟩)
theorem VD(b:Nat)(p v:Value)(xs s:atG)(ay:p=.pointer none\/p=qh b)(al:xs.length+s.length<=100000000): c1 B 105 [.box 6000 b 0,.O s] (aL (yH b p v xs)) λd aP=>∃c9,True/\d=.bp [u s.length,.ai .nilIface]/\aP=aL (yH b (qh b) c9 (xs++s)):=by refine EM Tryz.func105 Tryz.ntmps105 λU=>?_;refine go ?_;refine mj [(6000,6000),(6001,6001)] (VB b p (.ai v) (.row v (nB xs) 1 5) ay) ?_;refine .inr (af.HS aM rfl rfl ?_);refine eB ?_;refine da ?_;refine .inr (af.adk aM 6001 rfl rfl rfl atz rfl atB rfl rfl rfl (by rw[um];show _*1<=_;omega) (by rw[um];omega) λgR cN AB=>?_);(conv=>whnf);refine da ?_;refine .inr (af.SL aM rfl rfl rfl ?_);(conv=>whnf);refine da ?_;refine W.BT 14 6001 rfl ?_;refine go ?_;exact⟨.bp [u s.length,.ai .nilIface],ar,.slice gR cN AB,ak,rfl,rfl,by rw[VC];rfl,ak⟩
theorem agz(b:Nat)(p v:Value)(tg:iv)(xs s:atG)(ay:p=.pointer none\/p=qh b)(h0:0<s.length)(al:xs.length+s.length<=100000000): c1 B 280 [.box 6000 b 0,.Q tg 1 (nB s)] (aL (yH b p v xs)) λd aP=>∃c9,True/\d=.bp [u (nB s).length,.ai .nilIface]/\aP=aL (yH b (qh b) c9 (xs++s)):=by refine EM Tryz.func280 Tryz.ntmps280 λU=>?_;refine go ?_;refine mj [(6000,6000),(6001,6001)] (VB b p (.ai v) (.row v (nB xs) 1 5) ay) ?_;refine .inr (af.HS aM rfl rfl ?_);refine eB ?_;refine da ?_;refine .inr (af.nU aM 6001 rfl rfl rfl atz rfl rfl rfl (by rw[um];exact h0) (by rw[um,um];show _*1<=_;omega) (by rw[um,um];omega) λgR cN AB=>?_);(conv=>whnf);refine da ?_;refine .inr (af.SL aM rfl rfl rfl ?_);(conv=>whnf);refine da ?_;refine W.BT 14 6001 rfl ?_;refine go ?_;exact⟨.bp [u (nB s).length,.ai .nilIface],ar,.slice gR cN AB,ak,rfl,rfl,by rw[VC];rfl,ak⟩
theorem VE(b:Nat)(p v:Value)(xs:atG)(al:xs.length<=100000000)(h0:0<xs.length): c1 B 107 [.box 6000 b 0] (aL (yH b p v xs)) λd aP=>d=.O xs/\aP=aL []:=by refine kj Tryz.func107 Tryz.ntmps107 λU=>?_;apply el;refine go ?_;refine W.ac3 6001 rfl (by rw[um];exact h0) λd6 cap X pd x3=>?_;subst X;refine' eH (yH b p (.slice (some ⟨d6,0,none⟩) (nB xs).length cap) xs) 0 (λy=>[_,_,_,.ai (.slice (some ⟨d6,0,none⟩) (nB xs).length cap),.ai (.pointer (some ⟨d6,0,none⟩)),_,_,_,.ai (.slice (some ⟨d6,0,none⟩) (nB xs).length cap),u (nB xs).length,.O xs,_]) (λy=>[(10,6001,none)]) [0,1,3,7,15,0,32,96,224,480,1023,2047] [(10,6001)] ?_ ?_;rotate_left 7;refine dw ?_;refine bS (λy=>af.HS aM rfl rfl ⟨rfl,cw y⟩) ?_;refine bS (λy=>af.acW rfl (by rw[um]at pd;omega) (cw y)) ?_;refine bS (λy=>af.HS aM rfl rfl ⟨rfl,cw y⟩) ?_;refine bS (λy=>af.acZ aM (b:=d6) (cap:=cap) (aS:=xs) 6001 atB rfl rfl (by rw[um];rfl) rfl (by rw[um];rfl) h0 atw (cw y)) ?_;exact trivial;intro _;(conv=>whnf);refine go ?_;exact⟨.O xs,E,rfl,ak⟩
end Go.bR.ck
