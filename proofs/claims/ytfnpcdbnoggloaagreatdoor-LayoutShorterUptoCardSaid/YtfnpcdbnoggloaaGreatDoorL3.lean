/- Contracts of the program's functions, part 3. No conditions of its own. -/
import Derived.Test.YtfnpcdbnoggloaaGreatDoorL2
import Derived.Test.YtfnpcdbnoggloaaGreatDoorShelf
import Derived.BigQuiet
import Derived.Sort.Grow
import Derived.Test.YtfnpcdbnoggloaaGreatDoorCards
import Derived.LaidByTextLater
import Derived.SevenTiedAt
import Derived.LaidSub
import Derived.LaidOnce
import Derived.ProofKit
import Derived.OpenShut
import Derived.Deep.DeepHandedRow
import Derived.Lib.LaidTab
import Derived.Lib.LaidU8
import Derived.Stop.LaidErr
import Derived.Lib.Builder
import Derived.Lib.FrozenHead
import Derived.Lib.UnsafeStr
import Derived.Laws.Externs
import Derived.WalkKit
set_option linter.unnecessarySimpa false
set_option linter.unusedSimpArgs false
set_option linter.unusedVariables false
set_option maxRecDepth 100000
set_option maxHeartbeats 16000000
namespace Go.bV.ct
open Go Go.Proofs
variable{B:World}
structure dk (B:World):Prop where
 aeI:Lib.Utf8Tabs 1 2 B
 Ug:∃m,B.cell? ⟨0,0,none⟩=some (.int .i64 m)
 asy : Lib.TabIs Tryz.prog B "internal/strconv.uint64pow10" .u64 Lib.pow10Tab
variable{w:World}{v:Value}
theorem E1(G:pV B w){a:Addr}(h:B.cell? a=some v):w.cell? a=some v:=by(have bg:a.block<B.heap.size:=by simp only[World.cell?]at h;rcases au6 a.block B.heap.size with h1|h1;exact h1;rw[axT h1]at h;cases h);rw[<-h];simp only[World.cell?,G.block _ bg]
theorem aeJ(G:pV B w)(h:Lib.Utf8Tabs 1 2 B):Lib.Utf8Tabs 1 2 w :=
 ⟨λc hc=>E1 G (h.1 c hc),λi hi=>⟨E1 G (h.2 i hi).1,E1 G (h.2 i hi).2⟩⟩
variable{f:FuncId}
theorem jt{fn:Func}(h : Tryz.prog.funcs[f]?=some fn)(G : fn.body.isSome = true)(ar : (fn.name == "runtime.NumGoroutine") = false): Bj Tryz.prog f := ⟨fn,h,G,ar⟩
def dV(s:auM):Nat×Nat:=Lib.decodeGo ⟨⟨s⟩⟩
theorem aeK(aX:dk B)(s:auM):aT B 261 [.N s] (.bm [.int .i32 (dV s).1,u (dV s).2]) :=
 .zK (jt Tryz.func261 rfl auH) rfl λw G=>(Tryz.utf8_DecodeRuneInString ⟨⟨s⟩⟩ w (aeJ G aX.aeI)).mono λe w' ⟨aq,cz⟩ =>
  ⟨_,aq,λC=>.bm _ _ rfl λi d v O X=>by
   match i with
   |0=>cases O;cases X;exact .int _ _
   |1=>cases O;cases X;exact .int _ _
   |i+2=>simp at O,cz⟩
theorem Uh(a b:auM):aT B 249 [.N a,.N b] (u (Lib.compareBytes a b)) :=
 .pure (jt Tryz.func249 rfl auH) rfl rfl λw _=>Tryz.strings_Compare ⟨⟨a⟩⟩ ⟨⟨b⟩⟩ w
theorem Ui(s:auM)(c:UInt8):aT B 259 [.N s,.N [c]] (.bool (decide (0<=Lib.indexByte s c))) :=
 .pure (jt Tryz.func259 rfl auH) rfl rfl λw _=>Tryz.strings_Contains_one ⟨⟨s⟩⟩ c w
theorem aeL(s p:auM):aT B 260 [.N s,.N p] (.N (Lib.trimPrefix s p)) :=
 .pure (jt Tryz.func260 rfl auH) rfl rfl λw _=>Tryz.strings_TrimPrefix ⟨⟨s⟩⟩ ⟨⟨p⟩⟩ w
theorem M7(s:auM)(c:Int)(hs:s.length<4611686018427387904):aT B 24 [.N s,.int .u8 c] (u (Lib.lastIndexByte ⟨⟨s⟩⟩ c)) :=
 .pure (jt Tryz.func24 rfl auH) rfl rfl λw _=>Tryz.strings_LastIndexByte ⟨⟨s⟩⟩ c hs w
def et(r:Int):Bool:=decide (32<=r)&&(decide (r<=65533)&&(decide (r<55296)||decide (57343<r)))
theorem aeM(r:Int):aT B 302 [u r] (.bool (et r)):=by refine bB Tryz.func302 Tryz.ntmps302 λW=>?_;exact ayr
theorem aeN(r:Int):aT B 355 [u r] (.bool (et r)):=by refine bB Tryz.func355 Tryz.ntmps355 λW=>?_;exact ayr
theorem w3(s:auM)(h:s≠[]):1<=(dV s).2/\(dV s).2<=s.length/\(dV s).2<=4/\(dV s).1<=1114111:=by
 have h0:¬(⟨⟨s⟩⟩:ByteArray).size=0:=λe=>h (au1 e);have aj:(⟨⟨s⟩⟩:ByteArray).size=s.length:=rfl;have aw:0<s.length:=avY.2 h;unfold dV Lib.decodeGo;rw[auN h0];unfold Utf8.decode;dsimp only;rw[aj];have E2:Utf8.runeError=65533:=rfl
 repeat' split
 all_goals simp only[E2,auQ,av3,avp,ge_iff_le,Utf8.valid]at*
 all_goals omega
def l8(s:auM):Bool:=!et (dV s).1||((dV s).1==65533&&(dV s).2==1)
theorem Uj(s:auM):l8 s=(bif !et ((dV s).1:Nat)then true else bif (((dV s).1:Nat):Int)==65533 then(((dV s).2:Nat):Int)==1 else false):=by
 unfold l8;have h1:((((dV s).1:Nat):Int)==65533)=((dV s).1==65533):=by rw[axp];simp;omega
 have A:((((dV s).2:Nat):Int)==1)=((dV s).2==1):=by rw[axp];simp;omega
 rw[h1,A];cases et ((dV s).1:Nat)<;>cases(dV s).1==65533<;>rfl
def yp:Nat->auM->Option (List Int)
 |0,s=>if s=[]then some []else none
 |f+1,s=>if s=[]then some []else if l8 s then none else(yp f (s.drop (dV s).2)).map (((dV s).1:Int)::·)
theorem M8:∀(f:Nat) (s:auM),s.length<=f->yp f s=yp s.length s
 |0,s,h=>by have:s=[]:=au1 auD;subst this;rfl
 |f+1,s,h=>by by_cases hs:s=[];subst hs;rfl;obtain⟨h1,A,_⟩:=w3 s hs;have aw:0<s.length:=avY.2 hs;obtain⟨n,ar⟩:∃n,s.length=n+1:=⟨s.length-1,by omega⟩;rw[ar];simp only[yp,hs,awq];(have jG:(s.drop (dV s).2).length=s.length-(dV s).2:=by simp);rw[M8 f (s.drop (dV s).2) auD,M8 n (s.drop (dV s).2) auD]
def ju(s:auM):Option (List Int):=yp s.length s
variable{s:auM}
theorem yq(hs:s≠[]):ju s=if l8 s then none else(ju (s.drop (dV s).2)).map (((dV s).1:Int)::·):=by
 obtain⟨h1,A,_⟩:=w3 s hs;have aw:0<s.length:=avY.2 hs;obtain⟨n,ar⟩:∃n,s.length=n+1:=⟨s.length-1,by omega⟩;have jG:(s.drop (dV s).2).length=s.length-(dV s).2:=by simp
 rw[ju,ar];simp only[yp,hs,awq];rw[M8 n _ auD];rfl
theorem Cf:∀(n:Nat) (s:auM),s.length<=n->∀l,ju s=some l->l.length<=s.length/\s.length<=4*l.length
 |0,s,h,l,aj=>by have:s=[]:=au1 auD;subst this;cases aj;simp
 |n+1,s,h,l,aj=>by by_cases hs:s=[];subst hs;cases aj;simp;obtain⟨h1,A,aa,_⟩:=w3 s hs;rw[yq hs]at aj;split at aj;cases aj;cases O:ju (s.drop (dV s).2)with|none=>rw[O]at aj;cases aj|some h7 =>rw[O]at aj;cases aj;(have jG:(s.drop (dV s).2).length=s.length-(dV s).2:=by simp);have:=Cf n (s.drop (dV s).2) auD h7 O;simp only[auX];omega
def chars(s:auM):List Int×Int:=if 65536<s.length then([],7)else match ju s with|some l=>(l,0)|none=>([],3)
def fL(k:IntKind)(l:List Int):List D:=l.map (D.int k)
theorem M9(aX:dk B)(s:auM)(hs:s.length<1000000000):aT B 257 [.N s] (.bm [.T .none 1 (fL .i64 (chars s).1),u (chars s).2]):=by refine bB Tryz.func257 Tryz.ntmps257 λW=>?_;refine go ?_;refine aI _ rfl ?_ ?_<;>intro hc;refine go ?_;(have:chars s=([],7):=by rw[chars,auO (by simp at hc;omega)]);rw[this];exact⟨ap.nil,E,ak⟩;refine go ?_;(have kz:¬65536<s.length:=by simp at hc;omega);refine go ?_;refine .inr (ah.L9 aN (n:=s.length) (cP:=.i64) (d0:=.i64) rfl rfl rfl rfl rfl rfl (by show 8*_<=_;omega) auD λv=>?_);refine go ?_;refine Y.ee (α:={x:auM×List Int // ju s=(ju x.1).map (x.2++·)/\x.1.length+x.2.length<=s.length}×Value) (λx=>[(0,.N x.1.1.1),(4,.T (.own 1000 x.2) 1 (fL .i64 x.1.1.2))]) (λx=>[(1000,.own x.2 (fL .i64 x.1.1.2).length 1 3)]) (λx=>x.1.1.1.length) (⟨(s,[]),by simp,by simp⟩,v) [(1000,12)] ⟨⟨E,ap.own _ _,ak⟩,rfl,a_⟩ ?_;rintro⟨⟨⟨r,fE⟩,k6,hlen⟩,v⟩;dsimp only at k6 hlen⊢;refine go ?_;refine aI _ rfl ?_ ?_<;>intro hc;refine eY ?_;(have af:r≠[]:=by intro e;subst e;simp at hc);obtain⟨E3,rY,Cg,aeO⟩:=w3 r af;(have pv:(fL .i64 fE).length=fE.length:=by simp[fL]);refine Mg ?_;refine⟨_,_,λ_=>aeK aX r,an,?_⟩;refine p9 ?_;refine .inl ⟨by simp[dz];omega,?_⟩;refine go ?_;refine⟨_,_,λ_=>aeM _,an,?_⟩;refine go ?_;refine aI _ rfl ?_ ?_<;>intro hc;refine go ?_;(have yr:l8 r=true:=by rw[Uj];exact hc);(have:chars s=([],3):=by rw[chars,auN kz,k6,yq af,auO yr];rfl);rw[this];exact⟨ap.nil,E,ak⟩;apply ci;(have yr:l8 r=false:=by rw[Uj];exact hc);refine vd ?_;refine n7 ?_;refine .inl ⟨by simp[dz];omega,?_⟩;(conv=>whnf);refine⟨ak,?_⟩;refine n7 ?_;refine Mf ?_;refine⟨by show(_+1)*8<=_;omega,by show _+1<=_;omega,auK,λv=>?_⟩;refine lZ ?_;refine mS ?_;exact⟨(⟨(r.drop (dV r).2,fE++[((dV r).1:Int)]),by rw[k6,yq af,yr];simp[axa],by simp;omega⟩,v),[(1000,37)],by show(r.drop (dV r).2).length<r.length;simp;omega,⟨ap.of_eq (auP D.N auF),ap.i' (by simp[fL];rfl),ak⟩,rfl,rfl,jq (by simp[fL]),ak⟩;refine go ?_;exact ays
def oQ(n:Int):UInt8:=UInt8.ofNat n.toNat
theorem ys(l:List Int)(h:∀n∈l,0<=n/\n<=255):l.map (D.int .u8)=(l.map oQ).map λc=>D.int .u8 c.toNat:=by rw[avR];apply avM;intro n ar;have:=h n ar;simp only[Function.comp,oQ];congr 1;simp;omega
def E4(v:Int):List Int :=
 if v<128 then[v]else if v<2048 then[192+v.tdiv 64,128+v.tmod 64]else[224+v.tdiv 4096,128+(v.tdiv 64).tmod 64,128+v.tmod 64]
def yt(v:Int):auM:=(E4 v).map oQ
theorem Iq{v k:Int}(h:0<=v)(Z:0<k):v.tdiv k=v/k:=au4 h
theorem Ir{v k:Int}(h:0<=v):v.tmod k=v%k:=avH h
theorem aeP(v:Int)(h0:0<=v)(h1:v<=65535):aT B 356 [u v] (.N (yt v)):=by refine bB Tryz.func356 Tryz.ntmps356 λW=>?_;apply b1;refine gj ?_;refine aI _ rfl ?_ ?_<;>intro hc;refine vd ?_;refine n7 ?_;refine .inl ⟨by simp at hc;simp[dz];omega,?_⟩;(conv=>whnf);refine oJ ?_;refine .inr (ah.va aN (aP:=[v].map oQ) (tg:=.dZ) rfl rfl rfl rfl rfl rfl (auP (D.T .dZ 1) (ys [v] (by simp at hc⊢;omega))) ?_);refine hz ?_;exact ap.of_eq (auP D.N (by rw[yt,E4,auO (by simpa using hc)]));apply ci;refine p9 ?_;have bZ:=Iq h0 (k:=64) auD;have b0:=Ir (k:=64) h0;have kx:=Iq h0 (k:=4096) auD;have zT:=Ir (v:=v.tdiv 64) (k:=64) auD;refine aI _ rfl ?_ ?_<;>intro hc;refine qI ?_;refine pk ?_;refine .inl ⟨λ_=>azt,?_⟩;(conv=>whnf);refine .inl ⟨λ_=>azt,?_⟩;refine n7 ?_;refine .inl ⟨azt,?_⟩;refine wS ?_;refine .inl ⟨λ_=>azt,?_⟩;refine n7 ?_;refine .inl ⟨azt,?_⟩;(conv=>whnf);refine oJ ?_;refine .inr (ah.va aN (aP:=[192+v.tdiv 64,128+v.tmod 64].map oQ) (tg:=.dZ) rfl rfl rfl rfl rfl rfl (auP (D.T .dZ 1) (ys [192+v.tdiv 64,128+v.tmod 64] (by simp at hc⊢;omega))) ?_);refine hz ?_;exact ap.of_eq (auP D.N (by simp only[avp,awj]at*;rw[yt,E4,auN (by assumption),auO (by assumption)]));apply ci;refine qI ?_;refine pk ?_;refine .inl ⟨λ_=>azt,?_⟩;(conv=>whnf);refine .inl ⟨λ_=>azt,?_⟩;refine n7 ?_;refine .inl ⟨azt,?_⟩;refine wS ?_;refine .inl ⟨λ_=>azt,?_⟩;refine wS ?_;refine .inl ⟨λ_=>azt,?_⟩;refine n7 ?_;refine .inl ⟨azt,?_⟩;refine wS ?_;refine .inl ⟨λ_=>azt,?_⟩;refine n7 ?_;refine .inl ⟨azt,?_⟩;(conv=>whnf);refine oJ ?_;refine .inr (ah.va aN (aP:=[224+v.tdiv 4096,128+(v.tdiv 64).tmod 64,128+v.tmod 64].map oQ) (tg:=.dZ) rfl rfl rfl rfl rfl rfl (auP (D.T .dZ 1) (ys [224+v.tdiv 4096,128+(v.tdiv 64).tmod 64,128+v.tmod 64] (by simp at hc⊢;omega))) ?_);refine hz ?_;exact ap.of_eq (auP D.N (by simp only[avp,awj]at*;rw[yt,E4,auN (by assumption),auN (by assumption)]))
def lD(s:auM)(k:Nat):Int:=((s.getD k 0).toNat:Nat)
def Ch(s:auM)(i:Nat):Int:=if i=2 then(lD s 0-192)*64+lD s 1-128 else lD s 0
def m0(s:auM)(i:Nat):Int:=if i=3 then(lD s 0-224)*4096+(lD s 1-128)*64+lD s 2-128 else Ch s i
def qW(s:auM)(i:Nat):Bool:=et (m0 s i)&&yt (m0 s i)==s.take i
theorem M_(s:auM)(k:Nat):0<=lD s k/\lD s k<=255:=by unfold lD;have:=(s.getD k 0).toNat_lt;omega
variable{k:Nat}
theorem Af(s:auM)(h:k<s.length):s[k]?=some (s.getD k 0):=by simp[List.getD,h]
def first(s:auM):Int×Int:=if 1<=s.length/\qW s 1=true then(m0 s 1,1)else if 2<=s.length/\qW s 2=true then(m0 s 2,2)else if 3<=s.length/\qW s 3=true then(m0 s 3,3)else(0,0)
variable{r:Int}
theorem E5(h:et r=true):32<=r/\r<=65533:=by unfold et at h;simp only[auQ,avp]at h;exact⟨h.1,h.2.1⟩
variable{i:Nat}
theorem Uk(h1:1<=i)(aa:i<=3)(aj:i<=s.length)(cA:qW s i=true)(fx:∀m,1<=m->m<i->qW s m=false):first s=(m0 s i,(i:Int)):=by(unfold first);match i,h1,aa with|1,_,_=>rw[auO ⟨aj,cA⟩];rfl|2,_,_=>rw[auN (by rw[fx 1 auD auD];simp),auO ⟨aj,cA⟩];rfl|3,_,_=>rw[auN (by rw[fx 1 auD auD];simp),auN (by rw[fx 2 auD auD];simp),auO ⟨aj,cA⟩];rfl
theorem aeQ(hi:3<i\/s.length<i)(fx:∀m,1<=m->m<i->qW s m=false):first s=(0,0):=by(unfold first;rw[auN,auN,auN]);(all_goals rintro⟨h1,A⟩);rw[fx 3 auD auD]at A;cases A;rw[fx 2 auD auD]at A;cases A;rw[fx 1 auD auD]at A;cases A
theorem aeR(s:auM)(hs:s.length<1000000000):aT B 315 [.N s] (.bm [u (first s).1,u (first s).2]):=by refine bB Tryz.func315 Tryz.ntmps315 λW=>?_;apply b1;refine mT ?_;refine Y.loop (α:={i:Nat // 1<=i/\i<=4/\∀m,1<=m->m<i->qW s m=false}) (λx=>[(0,.N s),(4,u x.1)]) (λ_=>[]) (λx=>4-x.1) ⟨1,by omega,by omega,λm h1 A=>by omega⟩ an trivial ?_;rintro⟨i,p',Ul,fx⟩;dsimp only;refine gj ?_;apply g';refine no ?_;refine aI _ rfl ?_ ?_<;>intro hc;refine eY ?_;(have hi:i<=3/\i<=s.length:=ayP);have tS:=M_ s 0;have lo:=M_ s 1;have g_:=M_ s 2;refine gJ ?_;refine⟨s.getD 0 0,λ_=>⟨by omega,Af s auD⟩,?_⟩;(conv=>whnf);refine .inl ⟨ay2,?_⟩;(conv=>whnf);refine Y.k0 (α:=Unit) (λx=>[(0,.N s),(4,u i),(5,u (Ch s i))]) (λx=>[]) ?_ ?_;apply b1;refine aI _ rfl ?_ ?_<;>intro hc;refine Y.tL aN mixed auI ?_;(conv=>whnf);refine⟨s.getD 0 0,λ_=>⟨by omega,Af s auD⟩,?_⟩;(conv=>whnf);refine .inl ⟨ay2,?_⟩;(conv=>whnf);refine .inl ⟨λ_=>ay2,?_⟩;(conv=>whnf);refine .inl ⟨λ_=>ay2,?_⟩;(conv=>whnf);refine⟨s.getD 1 0,λ_=>⟨by omega,Af s (by simp at hc;omega)⟩,?_⟩;(conv=>whnf);refine .inl ⟨by have:=(s.getD 1 0).toNat_lt;simp only[dz];omega,?_⟩;(conv=>whnf);refine .inl ⟨λ_=>ayI,?_⟩;(conv=>whnf);refine .inl ⟨λ_=>ayI,?_⟩;(conv=>whnf);(have A:i=2:=by simp at hc;omega);exact⟨(),[],⟨E,E,dx (by rw[Ch,auO A];rfl),ak⟩,rfl,ak⟩;refine eY ?_;(have A:i≠2:=by simp at hc;omega);exact⟨(),[],⟨E,E,dx (by rw[Ch,auN A];rfl),ak⟩,rfl,ak⟩;rintro⟨⟩;refine Y.k0 (α:=Unit) (λx=>[(0,.N s),(4,u i),(5,u (m0 s i))]) (λx=>[]) ?_ ?_;apply b1;refine aI _ rfl ?_ ?_<;>intro hc;refine Y.tL aN mixed auI ?_;(conv=>whnf);refine⟨s.getD 0 0,λ_=>⟨by omega,Af s auD⟩,?_⟩;(conv=>whnf);have Ag:=(s.getD 0 0).toNat_lt;have Is:=(s.getD 1 0).toNat_lt;have qR:=(s.getD 2 0).toNat_lt;refine .inl ⟨by simp only[dz];omega,?_⟩;refine vh ?_;refine⟨s.getD 1 0,λ_=>⟨by omega,Af s (by simp at hc;omega)⟩,?_⟩;(conv=>whnf);refine .inl ⟨by simp only[dz];omega,?_⟩;refine hb ?_;refine vh ?_;refine⟨s.getD 2 0,λ_=>⟨by omega,Af s (by simp at hc;omega)⟩,?_⟩;(conv=>whnf);refine .inl ⟨by simp only[dz];omega,?_⟩;refine vh ?_;(have A:i=3:=by simp at hc;omega);exact⟨(),[],⟨E,E,dx (by rw[m0,auO A];rfl),ak⟩,rfl,ak⟩;refine eY ?_;(have A:i≠3:=by simp at hc;omega);exact⟨(),[],⟨E,E,dx (by rw[m0,auN A]),ak⟩,rfl,ak⟩;rintro⟨⟩;refine mQ ?_;(conv=>whnf);refine⟨_,_,λ_=>aeN _,an,?_⟩;refine mR ?_;refine⟨[u (m0 s i)],_,λh=>aeP _ (by have:=E5 h;omega) (by have:=E5 h;omega),an,?_⟩;refine hd ?_;refine⟨λh=>by omega,?_⟩;refine no ?_;(conv=>whnf);(have Um:qW s i=(bif et (m0 s i)then yt (m0 s i)==(s.take (i:Int).toNat).drop (Int.toNat 0)else false):=by rw[qW,avq];cases et (m0 s i)<;>rfl);refine aI _ rfl ?_ ?_<;>intro hc;refine gp ?_;have:=Uk p' hi.1 hi.2 (Um.trans hc) fx;exact⟨dx (by rw[this]),dx (by rw[this]),ak⟩;refine qJ ?_;exact⟨⟨i+1,by omega,by omega,λm h1 A=>(awJ.1 A).elim (fx m h1) λe=>by subst e;exact Um.trans hc⟩,by show 4-(i+1)<4-i;omega,an,ak⟩;refine qH ?_;(have hi:3<i\/s.length<i:=ayP);have:=aeQ hi fx;exact⟨dx (by rw[this]),dx (by rw[this]),ak⟩
theorem aeS(h:1<=s.length):s.take 1=[s.getD 0 0]:=by match s,h with|a::t,_=>rfl
theorem aeT(h:2<=s.length):s.take 2=[s.getD 0 0,s.getD 1 0]:=by match s,h with|a::b::t,_=>rfl
theorem aeU(h:3<=s.length):s.take 3=[s.getD 0 0,s.getD 1 0,s.getD 2 0]:=by match s,h with|a::b::c::t,_=>rfl
theorem aeV(s:auM)(k:Nat):(⟨⟨s⟩⟩:ByteArray).get! k=s.getD k 0:=by show(⟨s⟩:Array UInt8)[k]! = _;rw[getElem!_def];simp[List.getD];cases h:s[k]?<;>rfl
def Ah(n lu dI ca el:Nat):Nat×Nat :=
 if lu<128 then(lu,1)
 else if lu/32=6/\1<n/\dI/64=2 then
  if(lu%32)*64+dI%64≥128 then((lu%32)*64+dI%64,2)else(65533,1)
 else if lu/16=14/\(1<n/\dI/64=2)/\2<n/\ca/64=2 then
  if(lu%16)*4096+(dI%64)*64+ca%64≥2048/\((lu%16)*4096+(dI%64)*64+ca%64<55296\/57344<=(lu%16)*4096+(dI%64)*64+ca%64)
  then((lu%16)*4096+(dI%64)*64+ca%64,3)else(65533,1)
 else if lu/8=30/\(1<n/\dI/64=2)/\(2<n/\ca/64=2)/\3<n/\el/64=2 then
  if(lu%8)*262144+(dI%64)*4096+(ca%64)*64+el%64≥65536/\(lu%8)*262144+(dI%64)*4096+(ca%64)*64+el%64<=1114111
  then((lu%8)*262144+(dI%64)*4096+(ca%64)*64+el%64,4)else(65533,1)
 else(65533,1)
theorem E6(h:s≠[]):dV s=Ah s.length (s.getD 0 0).toNat (s.getD 1 0).toNat (s.getD 2 0).toNat (s.getD 3 0).toNat:=by have h0:¬(⟨⟨s⟩⟩:ByteArray).size=0:=λe=>h (au1 e);have aj:(⟨⟨s⟩⟩:ByteArray).size=s.length:=rfl;unfold dV Lib.decodeGo;rw[auN h0];unfold Utf8.decode;dsimp only;simp only[aeV,avu,aj];have Ag:=(s.getD 0 0).toNat_lt;generalize(s.getD 0 0).toNat=lu at*;generalize(s.getD 1 0).toNat=dI;generalize(s.getD 2 0).toNat=ca;generalize(s.getD 3 0).toNat=el;unfold Ah;have E2:Utf8.runeError=65533:=rfl;simp only[E2,auQ,av3,avp,ge_iff_le,Utf8.valid,awm,and_assoc];(repeat' split);all_goals first|rfl|(exfalso;omega)|skip
def rT(v:Int)(lu dI ca:Int):Nat->Prop
 |1=>v<128/\lu=v
 |2=>128<=v/\v<2048/\lu=192+v/64/\dI=128+v%64
 |3=>2048<=v/\lu=224+v/4096/\dI=128+v/64%64/\ca=128+v%64
 |_=>False
theorem Ci{n:Int}{b:UInt8}(h0:0<=n)(h1:n<=255):oQ n=b↔((b.toNat:Nat):Int)=n:=by unfold oQ;rw[<-ax3];have G:=b.toNat_lt;simp;omega
theorem Un{v:Int}(h0:0<=v)(h1:v<=65535)(hi:1<=i)(sX:i<=3)(aj:i<=s.length):yt v=s.take i↔rT v (lD s 0) (lD s 1) (lD s 2) i:=by have bZ:=Iq h0 (k:=64) auD;have b0:=Ir (k:=64) h0;have kx:=Iq h0 (k:=4096) auD;have zT:=Ir (v:=v.tdiv 64) (k:=64) auD;unfold yt E4;match i,hi,sX with|1,_,_ =>rw[aeS aj];unfold rT lD;split;simp only[avc,awp,awT,and_true];rw[Ci auD auD];omega;split<;>simp<;>omega|2,_,_ =>rw[aeT aj];unfold rT lD;split;simp;omega;split;simp only[avc,awp,awT,and_true];rw[Ci auD auD,Ci auD auD];omega;simp;omega|3,_,_ =>rw[aeU aj];unfold rT lD;split;simp;omega;split;simp;omega;simp only[avc,awp,awT,and_true];rw[Ci auD auD,Ci auD auD,Ci auD auD];omega
theorem M'(hi:1<=i)(sX:i<=3)(aj:i<=s.length):qW s i=true↔et (m0 s i)=true/\rT (m0 s i) (lD s 0) (lD s 1) (lD s 2) i:=by unfold qW;rw[auQ,awm];constructor;rintro⟨h1,A⟩;have:=E5 h1;exact⟨h1,(Un auD auD hi sX aj).1 A⟩;rintro⟨h1,A⟩;have:=E5 h1;exact⟨h1,(Un auD auD hi sX aj).2 A⟩
theorem Uo(hs:s≠[])(hi:1<=i)(sX:i<=3)(aj:i<=s.length)(h:qW s i=true):((dV s).1:Int)=m0 s i/\(dV s).2=i:=by obtain⟨h1,A⟩:=(M' hi sX aj).1 h;rw[E6 hs];unfold et at h1;simp only[auQ,av3,avp]at h1;unfold m0 Ch lD at*;have Ag:=(s.getD 0 0).toNat_lt;have Is:=(s.getD 1 0).toNat_lt;have qR:=(s.getD 2 0).toNat_lt;generalize(s.getD 0 0).toNat=lu at*;generalize(s.getD 1 0).toNat=dI at*;generalize(s.getD 2 0).toNat=ca at*;generalize(s.getD 3 0).toNat=el at*;unfold Ah;match i,hi,sX with|1,_,_ =>simp only[Nat.reduceEqDiff,awq,avV,rT]at h1 A⊢;rw[auO auD];simp|2,_,_ =>simp only[Nat.reduceEqDiff,awq,avV,rT]at h1 A⊢;rw[auN auD,auO auD,auO auD];simp;omega|3,_,_ =>simp only[Nat.reduceEqDiff,awq,avV,rT]at h1 A⊢;rw[auN auD,auN auD,auO auD,auO auD];simp;omega
theorem aeW(hs:s≠[])(h:l8 s=false):(dV s).2<=3/\qW s (dV s).2=true/\((dV s).1:Int)=m0 s (dV s).2:=by
 obtain⟨h1,A,aa,aF⟩:=w3 s hs
 have G:et ((dV s).1:Nat)=true/\¬((dV s).1=65533/\(dV s).2=1):=by
  unfold l8 at h;simp only[awe,awB,awg,avv]at h;exact⟨h.1,by omega⟩
 obtain⟨hc,ar⟩:=G;have asz:=E5 hc
 have key:(dV s).2<=3/\rT ((dV s).1:Nat) (lD s 0) (lD s 1) (lD s 2) (dV s).2/\((dV s).1:Int)=m0 s (dV s).2:=by
  unfold m0 Ch lD;rw[E6 hs]at*;have Ag:=(s.getD 0 0).toNat_lt;have Is:=(s.getD 1 0).toNat_lt;have qR:=(s.getD 2 0).toNat_lt;generalize(s.getD 0 0).toNat=lu at*;generalize(s.getD 1 0).toNat=dI at*;generalize(s.getD 2 0).toNat=ca at*;generalize(s.getD 3 0).toNat=el at*;unfold Ah at*
  repeat' split
  all_goals simp_all [rT]
  all_goals omega
 refine⟨key.1,?_,key.2.2⟩;rw[M' h1 key.1 A,<-key.2.2];exact⟨hc,key.2.1⟩
theorem aeX(hs:s≠[]):first s=if l8 s then(0,0)else(((dV s).1:Int),((dV s).2:Int)):=by obtain⟨h1,A,aa,aF⟩:=w3 s hs;have aw:0<s.length:=avY.2 hs;cases G:l8 s with|true =>rw[auO rfl];(have fx:∀m,1<=m->m<4->m<=s.length->qW s m=false:=λm mt sY gs=>by rw[axs];intro cA;obtain⟨bZ,b0⟩:=Uo hs mt auD gs cA;obtain⟨ff,ea⟩:=(M' mt auD gs).1 cA;unfold l8 at G;simp only[av3,awY,auQ,awm]at G;rw[bZ]at G;rcases G with G|⟨dI,ca⟩;rw[G]at ff;cases ff;(have hm:m=1:=by omega);subst hm;simp only[rT]at ea;omega);(unfold first;rw[auN,auN,auN]);(all_goals rintro⟨g1,fI⟩);rw[fx 3 auD auD g1]at fI;cases fI;rw[fx 2 auD auD g1]at fI;cases fI;rw[fx 1 auD auD g1]at fI;cases fI|false =>rw[auN auF];obtain⟨g1,fI,g3⟩:=aeW hs G;rw[g3];refine Uk h1 g1 A fI λm mt sY=>?_;rw[axs];intro cA;have:=(Uo hs mt auD auD cA).2;omega
theorem aeY(s:auM)(hs:s.length<1000000000):aT B 273 [.N s] (.bm [.T .none 1 (fL .i64 (chars s).1),u (chars s).2]):=by refine bB Tryz.func273 Tryz.ntmps273 λW=>?_;apply b1;refine gj ?_;refine aI _ rfl ?_ ?_<;>intro hc;refine gp ?_;(have:chars s=([],7):=by rw[chars,auO (by simp at hc;omega)]);rw[this];exact⟨ap.nil,E,ak⟩;refine eY ?_;(have kz:¬65536<s.length:=by simp at hc;omega);apply b1;apply eh;refine Y.own 4 1000 1 3 rfl (λv=>?_);apply n1;refine Y.ee (α:={x:auM×List Int // ju s=(ju x.1).map (x.2++·)/\x.1.length+x.2.length<=s.length}×Value) (λx=>[(0,.N x.1.1.1),(4,.T (.own 1000 x.2) 1 (fL .i64 x.1.1.2))]) (λx=>[(1000,.own x.2 (fL .i64 x.1.1.2).length 1 3)]) (λx=>x.1.1.1.length) (⟨(s,[]),by simp,by simp⟩,v) [(1000,1000)] ⟨an,rfl,a_⟩ ?_;rintro⟨⟨⟨r,fE⟩,k6,hlen⟩,v⟩;dsimp only at k6 hlen⊢;refine gj ?_;refine aI _ rfl ?_ ?_<;>intro hc;refine eY ?_;(have af:r≠[]:=by intro e;subst e;simp at hc);obtain⟨E3,rY,Cg,aeO⟩:=w3 r af;(have pv:(fL .i64 fE).length=fE.length:=by simp[fL]);have vy:=aeX af;refine Mg ?_;refine⟨_,_,λ_=>aeR r auD,an,?_⟩;refine gj ?_;refine aI _ rfl ?_ ?_<;>intro hc;refine gp ?_;(have yr:l8 r=true:=by cases G:l8 r with|true=>rfl|false=>rw[G,auN auF]at vy;rw[vy]at hc;simp at hc;omega);(have:chars s=([],3):=by rw[chars,auN kz,k6,yq af,auO yr];rfl);rw[this];exact⟨ap.nil,E,ak⟩;refine eY ?_;(have yr:l8 r=false:=by cases G:l8 r with|false=>rfl|true=>rw[G,auO rfl]at vy;rw[vy]at hc;simp at hc);rw[yr,auN auF]at vy;refine cc ?_;refine mm ?_;refine⟨by show(_+1)*8<=_;omega,by show _+1<=_;omega,auK,λv=>?_⟩;refine lZ ?_;refine⟨λ_=>by rw[vy];simp;omega,?_⟩;(conv=>whnf);exact⟨(⟨(r.drop (dV r).2,fE++[((dV r).1:Int)]),by rw[k6,yq af,yr];simp[axa],by simp;omega⟩,v),[(1000,23)],by show(r.drop (dV r).2).length<r.length;simp;omega,⟨ap.of_eq (auP D.N (by rw[vy];simp)),ap.i' (by rw[vy];simp[fL];rfl),ak⟩,rfl,rfl,jq (by simp[fL]),ak⟩;refine qH ?_;exact ays
def dS(s:auM):Bool :=
 if s=[46]\/s=[46,46]\/(47:UInt8)∈s then false else(chars s).2==0&&(decide (1<=(chars s).1.length)&&decide ((chars s).1.length<=64))
theorem Up(c:UInt8):∀s:auM,decide (0<=Lib.indexByte s c)=decide (c∈s)
 |[]=>by simp[Lib.indexByte]
 |b::l=>by
  have aV:=Up c l;have jl:=Lib.indexByte_ge l c;rw[decide_eq_decide]at aV⊢;unfold Lib.indexByte;by_cases G:b=c
  ·subst G;simp
  rw[auN (by simpa using G)];have:c∈b::l↔c∈l:=by simp[Ne.symm G]
  rw[this,<-aV]
  cases hm:Lib.indexByte l c==-1 with
  |true=>rw[auO rfl];have:=eq_of_beq hm;omega
  |false => rw[auN auF];have : Lib.indexByte l c ≠ -1 := λe => by rw[e]at hm;simp at hm
            omega
theorem yu(aX:dk B)(s:auM)(hs:s.length<1000000000):aT B 193 [.N s] (.bool (dS s)):=by refine bB Tryz.func193 Tryz.ntmps193 λW=>?_;apply b1;refine gj ?_;refine il ?_;refine mR ?_;refine⟨_,_,λh=>Ui s 47,an,?_⟩;refine tV ?_;(conv=>whnf);(have pq:(bif bif s==[46]then true else s==[46,46]then true else decide (0<=Lib.indexByte s 47))=decide (s=[46]\/s=[46,46]\/(47:UInt8)∈s):=by rw[Up];by_cases h1:s=[46];simp[h1];by_cases A:s=[46,46]<;>simp[h1,A]);refine aI _ rfl ?_ ?_<;>intro hc;refine gp ?_;exact ap.of_eq (auP D.bool (by rw[dS,auO (avg (pq.symm.trans hc))]));apply ci;refine cc ?_;refine⟨_,_,λ_=>M9 aX s hs,an,?_⟩;apply b1;refine no ?_;refine no ?_;refine hz ?_;refine ap.of_eq (auP D.bool ?_);rw[dS,auN (ava (pq.symm.trans hc))];exact ayi
def cO(c:UInt8):auM->auM->List auM
 |p,[]=>[p]
 |p,b::r=>if b=c then p::cO c [] r else cO c (p++[b]) r
theorem Na{c:UInt8}:∀(s p:auM),c∉s->cO c p s=[p++s]
 |[],p,_=>by simp[cO]
 |b::r,p,h=>by have G:b≠c:=λe=>h (by simp[e]);have af:c∉r:=λe=>h (by simp[e]);rw[cO,auN G,Na r _ af];simp
theorem Nb{c:UInt8}:∀(a p r:auM),c∉a->cO c p (a++c::r)=(p++a)::cO c [] r
 |[],p,r,_=>by simp[cO]
 |b::a,p,r,h=>by have G:b≠c:=λe=>h (by simp[e]);have af:c∉a:=λe=>h (by simp[e]);rw[avQ,cO,auN G,Nb a _ r af];simp
theorem rZ{c:UInt8}:∀(s p:auM),(cO c p s).length<=s.length+1/\∀x∈cO c p s,x.length<=p.length+s.length
 |[],p=>by simp[cO]
 |b::r,p=>by have h1:=rZ (c:=c) r [];have A:=rZ (c:=c) r (p++[b]);rw[cO];split;refine⟨by simp;omega,λx J=>?_⟩;rcases au8.1 J with rfl|J;simp;have:=h1.2 x J;simp at this⊢;omega;refine⟨by simp at A⊢;omega,λx J=>?_⟩;have:=A.2 x J;simp at this⊢;omega
theorem aeZ(c:UInt8):∀(n:Nat) (s:auM),s.length<=n->(Lib.splitB ⟨⟨[c]⟩⟩ 0 (Lib.countB ⟨⟨s⟩⟩ ⟨⟨[c]⟩⟩) ⟨⟨s⟩⟩).map (λb=>b.data.toList)=cO c [] s:=by intro n;induction n with|zero =>intro s h;have:s=[]:=au1 auD;subst this;rw[Lib.countB_miss _ _ (by rfl)];rfl|succ n aV =>intro s h;have pp:Lib.indexB ⟨⟨s⟩⟩ ⟨⟨[c]⟩⟩=Lib.indexByte s c:=Lib.index_one s c;have jl:=Lib.indexByte_ge s c;by_cases hm:Lib.indexByte s c=-1;(have fx:c∉s:=λhc=>by obtain⟨k,Z⟩:=avd.1 hc;exact Lib.indexByte_none hm k Z);rw[Lib.countB_miss _ _ (pp.trans hm),Lib.splitB_zero,Na s [] fx];rfl;obtain⟨i,hi⟩:∃i:Nat,Lib.indexByte s c=i:=⟨(Lib.indexByte s c).toNat,by omega⟩;obtain⟨h1,A⟩:=Lib.indexByte_some hi;(have c1:i<s.length:=by rcases au6 i s.length with h|h;exact h;rw[au0 h]at h1;cases h1);have hsz:(⟨⟨[c]⟩⟩:ByteArray).size=1:=rfl;have i6:(⟨⟨s⟩⟩:ByteArray).size=s.length:=rfl;have mi:s.take s.length=s:=au2;rw[Lib.countB_hit _ _ i (by rw[hsz];omega) (pp.trans hi),axu 1,Lib.splitB_hit _ _ _ _ i (pp.trans hi),hsz,i6,Lr,Lr,mi];(have hs:s=s.take i++c::s.drop (i+1):=by have:=avk.1 h1;obtain⟨_,aq⟩:=this;have aa:=avL c1;rw[aq]at aa;rw[<-aa,awb]);(have fx:c∉s.take i:=λhc=>by obtain⟨k,Z⟩:=avd.1 hc;rw[avE]at Z;split at Z;rename_i bg;exact A k bg Z;cases Z);rw[avc,aV (s.drop (i+1)) auE];(conv=>rhs;rw[hs,Nb _ _ _ fx]);simp
def aQ(l:List auM):List D:=l.map D.N
theorem It(aX:dk B)(s:auM)(c:UInt8)(hs:s.length<1000000000):aT B 83 [.N s,.N [c]] (.T .dZ 1 (aQ (cO c [] s))):=by obtain⟨m,hm⟩:=aX.Ug;have ii:=aeZ c s.length s (auW _);have hlen:=(rZ (c:=c) s []).1;(have lm:Lib.countB ⟨⟨s⟩⟩ ⟨⟨[c]⟩⟩+1=(aQ (cO c [] s)).length:=by have:=Lib.splitB_all (⟨⟨[c]⟩⟩:ByteArray) (auW 1) 0 _ (⟨⟨s⟩⟩:ByteArray) rfl;rw[<-this,aQ,auS,<-ii,auS]);(have hcells:∀x∈aQ (cO c [] s),x.cells=[x]:=λx J=>azu);(have qS:(Lib.splitB ⟨⟨[c]⟩⟩ 0 (Lib.countB ⟨⟨s⟩⟩ ⟨⟨[c]⟩⟩) ⟨⟨s⟩⟩).map Value.string=(cO c [] s).map λx=>Value.string ⟨⟨x⟩⟩:=by rw[<-ii,avR];rfl);refine .newRow (dm:=(cO c [] s).map λx=>Value.string ⟨⟨x⟩⟩) (e:=9) (jt Tryz.func83 rfl auH) rfl (λx J=>by rw[hcells x J];rfl) (by simp only[aQ,auS,maxLen]at*;omega) (λw C=>?_) (λao au=>by obtain⟨y,_,rfl⟩:=au_.1 au;rfl) λw G=>(Tryz.strings_Split ⟨⟨s⟩⟩ ⟨⟨[c]⟩⟩ m w (by show s.length<_;omega) (E1 G hm) (auW 1)).mono λe w' ⟨aq,cz⟩=>?_;rw[rM hcells];exact⟨by simp[aQ],λi d v O X=>by simp only[aQ,au']at O X;cases J:(cO c [] s)[i]? with|none=>rw[J]at O;cases O|some x=>rw[J]at O X;cases O;cases X;exact .N _⟩;rw[<-lm];exact⟨aq,by rw[cz,qS]⟩
def gA(s:auM):auM:=match s with|b::r=>if b=47 then r else b::r|[]=>[]
theorem Iu(s:auM):Lib.trimPrefix s [47]=gA s:=by unfold Lib.trimPrefix Lib.hasPrefix gA;match s with|[]=>rfl|b::r =>by_cases h:b=47;simp[h,List.isPrefixOf];have bt:¬(47:UInt8)=b:=λe=>h e.symm;simp[h,bt,List.isPrefixOf]
theorem Iv(s:auM):(gA s).length<=s.length:=by unfold gA;split;split<;>simp;simp
def Ai(p:auM):Bool:=p==[46]||(p==[46,46]||dS p)
def k7(s:auM):Bool:=if s.length<1\/128<s.length then false else if s=[47]then true else(cO 47 [] (gA s)).all Ai
variable{α:Type}
theorem Uq{q:α->Bool}{l:List α}(h:i<l.length)(I:q l[i]=false):l.all q=false:=by rw[axs];intro ha;have:=avz.1 ha l[i] (auT h);rw[I]at this;cases this
theorem Nc{q:α->Bool}{l:List α}(h:¬i<l.length)(I:∀j (ad:j<l.length),j<i->q l[j]=true):l.all q=true :=
 avz.2 λx J=>by
  obtain⟨j,ad,rfl⟩:=avm.1 J;exact I j ad auD
theorem Nd{q:α->Bool}{l:List α}{hi:i<l.length}(h:q l[i]=true)(I:∀j (ad:j<l.length),j<i->q l[j]=true):∀j (ad:j<l.length),j<i+1->q l[j]=true:=λj ad bg =>
 (awJ.1 bg).elim (I j ad) λe=>by subst e;exact h
theorem Ur(p:auM):(bif (bif !(p==[46])then !(p==[46,46])else false)then !dS p else false)=!Ai p:=by unfold Ai;cases p==[46]<;>cases p==[46,46]<;>cases dS p<;>rfl
theorem Iw(aX:dk B)(s:auM)(hs:s.length<1000000000):aT B 194 [.N s] (.bool (k7 s)):=by refine bB Tryz.func194 Tryz.ntmps194 λW=>?_;refine go ?_;refine aI _ rfl ?_ ?_<;>intro hc;refine go ?_;refine ap.of_eq (auP D.bool ?_);rw[k7,auO];by_cases h1:s.length<1;exact .inl h1;right;(have mX:¬(s.length:Int)<1:=by omega);simp[mX]at hc;omega;refine go ?_;(have h1:¬(s.length<1\/128<s.length):=ayT);refine go ?_;refine aI _ rfl ?_ ?_<;>intro hc;refine go ?_;exact ap.of_eq (auP D.bool (by rw[k7,auN h1,auO (by simpa using hc)]));apply ci;(have A:s≠[47]:=by simpa using hc);(have hT:k7 s=(cO 47 [] (gA s)).all Ai:=by rw[k7,auN h1,auN A]);have lm:=Iv s;obtain⟨w4,E7⟩:=rZ (c:=47) (gA s) [];refine p9 ?_;refine⟨_,_,λ_=>aeL s [47],an,?_⟩;refine go ?_;refine⟨[.N (gA s),.N [47]],_,λ_=>It aX (gA s) 47 auD,⟨ap.of_eq (auP D.N (Iu s)),E,ak⟩,?_⟩;apply n1;refine Y.loop (α:={i:Nat // i<=(cO 47 [] (gA s)).length/\∀j (h:j<(cO 47 [] (gA s)).length),j<i->Ai (cO 47 [] (gA s))[j]=true}) (λx=>[(17,.T .dZ 1 (aQ (cO 47 [] (gA s)))),(18,u (aQ (cO 47 [] (gA s))).length),(19,u x.1)]) (λ_=>[]) (λx=>(cO 47 [] (gA s)).length-x.1) ⟨0,by simp⟩ an trivial ?_;rintro⟨i,hi,aw⟩;dsimp only;refine go ?_;refine aI _ rfl ?_ ?_<;>intro hc;refine eY ?_;(have aG:i<(cO 47 [] (gA s)).length:=by simpa[aQ]using hc);have dh:=E7 _ (auT aG);refine gJ ?_;refine⟨λ_=>by simp[aQ];omega,?_⟩;refine go ?_;refine⟨.N (cO 47 [] (gA s))[i],λ_=>BO _ aG,?_⟩;refine go ?_;refine⟨[.N (cO 47 [] (gA s))[i]],_,λh=>yu aX _ (by simp at dh;omega),an,?_⟩;refine il ?_;(conv=>whnf);have pq:=Ur (cO 47 [] (gA s))[i];refine aI _ rfl ?_ ?_<;>intro hc;refine go ?_;exact ap.of_eq (auP D.bool (by rw[hT,Uq aG (by simpa using pq.symm.trans hc)]));refine go ?_;exact⟨⟨i+1,by omega,Nd (hi:=aG) (by simpa using pq.symm.trans hc) aw⟩,by show _-(i+1)<_-i;omega,an,ak⟩;refine go ?_;exact ap.of_eq (auP D.bool (by rw[hT,Nc (by simpa[aQ]using hc) aw]))
theorem ae0(h:300<s.length):dS s=false:=by unfold dS chars;split;rfl;split;rfl;cases aw:ju s with|none=>rfl|some l =>have:=Cf s.length s (auW _) l aw;(have h1:¬l.length<=64:=by omega);simp[h1]
theorem Nf(s:auM)(hs:s.length<1000000000):aT B 214 [.N s] (.bool (dS s)):=by refine bB Tryz.func214 Tryz.ntmps214 λW=>?_;refine go ?_;(have pq:(bif bif s==[46]then true else s==[46,46]then true else decide (300<(s.length:Int)))=decide (s=[46]\/s=[46,46]\/300<s.length):=by by_cases h1:s=[46];simp[h1];by_cases A:s=[46,46];simp[A];(have bZ:(s==[46])=false:=by simpa using h1);(have b0:(s==[46,46])=false:=by simpa using A);rw[bZ,b0];simp[h1,A];omega);refine aI _ rfl ?_ ?_<;>intro hc;refine go ?_;refine ap.of_eq (auP D.bool ?_);have:=avg (pq.symm.trans hc);by_cases aa:300<s.length;rw[ae0 aa];rw[dS,auO (by rcases this with h|h|h;exact .inl h;exact .inr (.inl h);exact absurd h aa)];refine go ?_;have ar:=ava (pq.symm.trans hc);refine go ?_;refine Y.loop (α:={i:Nat // i<=s.length/\∀j (h:j<s.length),j<i->(s[j]!=47)=true}) (λx=>[(0,.N s),(3,u x.1)]) (λ_=>[]) (λx=>s.length-x.1) ⟨0,by simp⟩ an trivial ?_;rintro⟨i,hi,aw⟩;dsimp only;refine go ?_;refine aI _ rfl ?_ ?_<;>intro hc;refine go ?_;(have aG:i<s.length:=by simpa using hc);refine go ?_;refine⟨s[i],λ_=>⟨by omega,by simp[aG]⟩,?_⟩;refine go ?_;have qX:=SX s[i] 47 auG;refine aI _ rfl ?_ ?_<;>intro hc;refine go ?_;refine ap.of_eq (auP D.bool ?_);(have Aj:s[i]=47:=by have:=qX.symm.trans hc;simpa using this);rw[dS,auO (.inr (.inr (Aj ▸ auT aG)))];refine go ?_;exact⟨⟨i+1,by omega,Nd (q:=λb=>b !=47) (hi:=aG) (by have:=qX.symm.trans hc;simpa[bne]using this) aw⟩,azg,an,ak⟩;refine sN ?_;refine⟨_,_,λ_=>aeY s hs,an,?_⟩;refine go ?_;refine ap.of_eq (auP D.bool ?_);(have fx:(47:UInt8)∉s:=λh=>by have:=Nc (q:=λb:UInt8=>b !=47) (by simpa using hc) aw;have:=avz.1 this 47 h;simp at this);rw[dS,auN (by rintro(h|h|h);exact ar (.inl h);exact ar (.inr (.inl h));exact fx h)];exact ayi
structure Ix where
 path:auM
 ae1:Int
 ae2:Int
 ae3:Int
 ae4:Int
 gM:Bool
 deriving DecidableEq
def pw(b:Ix):D:=.agg [.N b.path,u b.ae1,u b.ae2,u b.ae3,u b.ae4,.bool b.gM]
structure fT where
 name:auM
 set:auM
 px:auM
 py:auM
 l2:auM
 Cj:Int
 Ck:Int
 fj:Int
 fU:Int
 c6:Int
 gM:List Ix
 du:Int
 m2:Bool
 deriving DecidableEq
def im(m:fT):D:=.agg [.N m.name,.N m.set,.N m.px,.N m.py,.N m.l2,u m.Cj,u m.Ck,u m.fj,u m.fU,u m.c6,.T .none 6 (m.gM.map pw),u m.du,.bool m.m2]
def Iy(m:fT):Bool:=decide (m.gM.length<=4)&&decide (m.name.length+m.set.length+m.px.length+m.py.length+m.l2.length<=2000)
theorem ae5(m:fT)(h:m.name.length+m.set.length+m.px.length+m.py.length+m.l2.length<1000000000):aT B 10 [im m] (.bool (Iy m)):=by refine bB Tryz.func10 Tryz.ntmps10 λW=>?_;refine cc ?_;intro b;refine kB ?_;intro b;apply cj;refine gK ?_;refine h6 ?_;apply g';refine h6 ?_;apply g';refine hd ?_;refine .inl ⟨λh=>by simp[dz];omega,?_⟩;refine h6 ?_;apply g';refine hd ?_;refine .inl ⟨λh=>by simp[dz];omega,?_⟩;refine h6 ?_;apply g';refine hd ?_;refine .inl ⟨λh=>by simp[dz];omega,?_⟩;refine h6 ?_;apply g';refine hd ?_;refine .inl ⟨λh=>by simp[dz];omega,?_⟩;refine il ?_;refine hz ?_;refine ap.of_eq (auP D.bool (a₂:=Iy m) ?_);unfold Iy;by_cases h1:m.gM.length<=4;by_cases A:m.name.length+m.set.length+m.px.length+m.py.length+m.l2.length<=2000;simp[h1,A];omega;simp[h1,A];omega;simp[h1];omega
variable{ds:List D}{a6:D->bH->Prop}
theorem c8.ae6{H:bH}{s:Nat}{o:aJ}(h:H s=some o)(hc:c4 B f ds (aM [(k,o)]) a6):c4 B f ds (gy H [(k,s)]) a6:=ayt
theorem ae7(l:List Ix)(h:l.length<1000000):aT B 78 [.T .none 6 (l.map pw)] (.T .none 6 (l.map pw)):=by refine bB Tryz.func78 Tryz.ntmps78 λW=>?_;apply b1;apply n0;refine Y.Ef aN ?_;(conv=>whnf);refine .inr (ah.L' (bJ:=140) aN rfl rfl rfl λk4 pj=>?_);refine aI _ rfl ?_ ?_<;>intro hc;refine gp ?_;have p2:=pj hc;rw[p2];exact ap.nil;apply ci;refine cc ?_;refine oJ ?_;refine⟨by show(0+(l.map pw).length)*56<=_;simp;omega,by show 0+(l.map pw).length<=_;simp;omega,auK,λv=>?_⟩;refine hz ?_;exact ap.trans (ap.of_eq (auP (D.T _ 6) (av4 _))) ap.mf
theorem E8(p:α->Bool)(l:List α):(fh p l=-1/\∀j (h:j<l.length),p l[j]=false)\/∃(i:Nat) (h:i<l.length),fh p l=i/\p l[i]=true/\∀j (h:j<l.length),j<i->p l[j]=false:=by unfold fh;cases M:l.findIdx? p with|none=>exact .inl ⟨rfl,λj ad=>by simpa using awR.1 M _ (auT ad)⟩|some i =>obtain⟨h1,A,aa⟩:=awz.1 M;exact .inr ⟨i,h1,rfl,A,λj ad fq=>by simpa using aa j fq⟩
theorem off(f:Nat->Bool)(k:Nat)(h:f k=false):∃g:Nat->Bool,f=λj=>_root_.cond (Nat.beq j k) false (g j) :=
 ⟨f,funext λj=>by cases G:Nat.beq j k with|false=>rfl|true=>rw[avb G];exact h⟩
def kF(v k:Int):Bool:=qy .and .i64 (v.fdiv (2 ^ min k.toNat IntKind.i64.bits)) 1==1
theorem r0(v k:Int)(Z:0<=k):aT B 35 [u v,u k] (.bool (kF v k)):=by refine bB Tryz.func35 Tryz.ntmps35 λW=>?_;refine pl ?_;refine⟨λ_=>Z,?_⟩;refine go ?_;exact E
def Ng(m:fT):Bool:=bif !kF m.fU 0 then(bif (bif kF m.fU 1 then true else kF m.fU 2)then true else decide ((0:Int)<((m.gM.map pw).length:Nat)))else false
def r1(m:fT):Bool :=
 if(bif decide (m.fU<1)then true else decide (15<m.fU))=true then false else if Ng m=true then false else if kF m.fU 3=true then(bif m.du==0 then true else m.du==3)else m.du==0
theorem E9(m:fT):aT B 32 [im m] (.bool (r1 m)):=by refine bB Tryz.func32 Tryz.ntmps32 λW=>?_;refine cc ?_;intro dI;refine mQ ?_;refine go ?_;refine bq (r0 m.fU 0 auG) ?_;refine bq (r0 m.fU 3 auG) ?_;refine aI _ rfl ?_ ?_<;>intro hc;refine go ?_;exact ap.of_eq (auP D.bool (by rw[r1,auO hc]));refine go ?_;(have h1:¬(bif decide (m.fU<1)then true else decide (15<m.fU))=true:=by rw[hc];decide);refine go ?_;refine bq (r0 m.fU 1 auG) ?_;refine bq (r0 m.fU 2 auG) ?_;refine aI (Ng m) rfl ?_ ?_<;>intro hc;refine go ?_;exact ap.of_eq (auP D.bool (by rw[r1,auN h1,auO hc]));refine go ?_;(have A:¬Ng m=true:=by rw[hc];decide);refine go ?_;refine aI (kF m.fU 3) rfl ?_ ?_<;>intro hc;refine go ?_;exact ap.of_eq (auP D.bool (by rw[r1,auN h1,auN A,auO hc]));refine go ?_;exact ap.of_eq (auP D.bool (by rw[r1,auN h1,auN A,auN (by rw[hc];decide)]))
structure fk where
 qY:Bool
 rock:Bool
 c6:Int
 gM:List Ix
 deriving DecidableEq
def r2(o:fk):D:=.agg [.bool o.qY,.bool o.rock,u o.c6,.T .none 6 (o.gM.map pw)]
def gN(m:fT):fk:=if r1 m=true/\kF m.fU 0=true then⟨kF m.fU 1,kF m.fU 2,m.c6,m.gM⟩else⟨false,false,0,[]⟩
def r3(o:fk):Int:=(if o.qY=true then 3 else 2)+(if 0<o.gM.length then 1 else 0)
theorem Us(m:fT)(G:m.gM.length<1000000):aT B 37 [im m] (r2 (gN m)):=by refine bB Tryz.func37 Tryz.ntmps37 λW=>?_;refine go ?_;intro dI;refine go ?_;intro ca;refine go ?_;refine bq (E9 m) ?_;refine bq (r0 m.fU 0 auG) ?_;refine aI (!(r1 m&&kF m.fU 0)) (auP D.bool (by cases r1 m<;>cases kF m.fU 0<;>rfl)) ?_ ?_<;>intro hc;refine go ?_;(have h:¬(r1 m=true/\kF m.fU 0=true):=by revert hc;cases r1 m<;>cases kF m.fU 0<;>simp);refine go ?_;rw[gN,auN h];exact ap.agg ⟨E,E,E,ap.nil,ak⟩;apply ci;apply eh;refine Y.zI aN 11 mixed auI ?_;refine go ?_;refine bq (r0 m.fU 1 auG) ?_;refine bq (r0 m.fU 2 auG) ?_;refine bq (ae7 m.gM G) ?_;(have h:r1 m=true/\kF m.fU 0=true:=by revert hc;cases r1 m<;>cases kF m.fU 0<;>simp);refine go ?_;rw[gN,auO h];exact E
theorem ae8(o:fk):aT B 36 [r2 o] (u (r3 o)):=by refine bB Tryz.func36 Tryz.ntmps36 λW=>?_;refine cc ?_;intro dI;refine cc ?_;refine Y.k0 (α:=Unit) (λx=>[(1,.box 1 dI 0),(3,u (if o.qY=true then 3 else 2))]) (λx=>[(1,.box dI (r2 o).cells)]) ?_ ?_;refine go ?_;refine aI o.qY rfl ?_ ?_<;>intro hc;refine go ?_;exact⟨(),[(1,1)],⟨E,ap.of_eq (auP (D.int .i64) (by rw[auO hc];rfl)),ak⟩,rfl,a_⟩;refine go ?_;exact⟨(),[(1,1)],⟨E,ap.of_eq (auP (D.int .i64) (by rw[auN (by rw[hc];decide)])),ak⟩,rfl,a_⟩;rintro⟨⟩;refine go ?_;refine aI _ rfl ?_ ?_<;>intro hc;refine lZ ?_;refine .inl ⟨λ_=>by simp only[dz];split<;>omega,?_⟩;refine go ?_;(have h:0<o.gM.length:=by simpa using hc);exact ap.of_eq (auP (D.int .i64) (by rw[r3,auO h]));refine go ?_;(have h:¬0<o.gM.length:=by simpa using hc);exact ap.of_eq (auP (D.int .i64) (by rw[r3,auN h];simp))
def io(n:Int):Int:=if 0<n.tmod 2048 then n.tdiv 2048+1 else n.tdiv 2048
theorem Nh(n:Int)(h1:0<=n)(A:n<=9223372036854775807):aT B 40 [u n] (u (io n)):=by refine bB Tryz.func40 Tryz.ntmps40 λW=>?_;refine pl ?_;refine⟨λ_=>by decide,?_⟩;refine go ?_;(have I:0<=n.tdiv 2048/\n.tdiv 2048<=9223372036854775806:=by rw[au4 h1];omega);refine hb ?_;refine p9 ?_;refine⟨λ_=>by decide,?_⟩;refine go ?_;refine aI _ rfl ?_ ?_<;>intro hc;refine go ?_;exact ap.of_eq (auP (D.int .i64) (by rw[io,auO (avg hc)]));refine go ?_;exact ap.of_eq (auP (D.int .i64) (by rw[io,auN (ava hc)]))
def vz(x:Int×Int):D:=.agg [u x.1,u x.2]
def vA(ao:List Bool):List D:=ao.map D.bool
def Cl(S C aY n:Int):Bool:=bif (bif (bif decide (aY<S)then true else decide (n<1))then true else decide (S+C<aY))then true else decide (S+C-aY<n)
theorem Ut{S C aY n:Int}(h:Cl S C aY n=false):S<=aY/\1<=n/\aY<=S+C/\n<=S+C-aY:=by unfold Cl at h;cases h1:decide (aY<S)<;>cases A:decide (n<1)<;>cases aa:decide (S+C<aY)<;>cases aF:decide (S+C-aY<n)<;>rw[h1,A,aa,aF]at h<;>first|(cases h;done)|(simp at h1 A aa aF;omega)
theorem ae9{S C aY n:Int}:Cl S C aY n=true↔aY<S\/n<1\/S+C<aY\/S+C-aY<n:=by constructor;intro h;by_cases h1:aY<S\/n<1\/S+C<aY\/S+C-aY<n;exact h1;exfalso;unfold Cl at h;rw[avw (λe=>h1 (.inl e)),avw (λe=>h1 (.inr (.inl e))),avw (λe=>h1 (.inr (.inr (.inl e)))),avw (λe=>h1 (.inr (.inr (.inr e))))]at h;cases h;intro h;cases G:Cl S C aY n with|true=>rfl|false=>have:=Ut G;omega
def bo(l:List Int):List D:=l.map (D.int .i64)
def yv(S C:Int):Bool:=bif (bif (bif decide (0<=S)then decide (1<=C)else false)then decide (S<=4096)else false)then decide (C<=4096-S)else false
theorem Ni{S C:Int}:yv S C=true↔0<=S/\1<=C/\S<=4096/\C<=4096-S:=by unfold yv;cases h1:decide (0<=S)<;>cases A:decide (1<=C)<;>cases aa:decide (S<=4096)<;>cases aF:decide (C<=4096-S)<;>simp at h1 A aa aF<;>simp<;>omega
def Iz(S L k:Int):Bool:=bif k==S+256 then true else bif k==L-256 then true else k==L
def Cm(S L:Int)(i:Nat):List Int:=((List.range i).map λ(j:Nat)=>S+(j:Int)).filter (Iz S L)
def yw(S C:Int):List Int:=if yv S C=true then Cm S (S+C-1) C.toNat else[]
theorem ae_(S L:Int)(i:Nat):(Cm S L i).length<=i:=by have:=avn (Iz S L) ((List.range i).map λ(j:Nat)=>S+(j:Int));rw[auS,List.length_range]at this;exact this
def r4(m:fT)(S C:Int):List Int:=if kF m.fU 3=true then yw S C else[]
theorem ae'(h:i<s.length):(s.take (i+1)).drop i=[s[i]]:=by rw[awF,auR h];simp only[Option.toList_some];rw[awZ auE,aw5 auE];rfl
theorem Nj(s:auM)(c:UInt8)(hs:s.length<1000000000):aT B 68 [.N s,.int .u8 c.toNat] (.T .none 1 (aQ (cO c [] s))):=by refine bB Tryz.func68 Tryz.ntmps68 λW=>?_;refine pl ?_;refine⟨ak,?_⟩;apply b1;refine p9 ?_;refine Y.own 5 1000 1 9 rfl (λv=>?_);apply n1;refine Y.ee (α:={x:Nat×List auM×auM // x.1<=s.length/\cO c [] s=x.2.1++cO c x.2.2 (s.drop x.1)/\x.2.1.length+x.2.2.length<=x.1}×Value) (λx=>[(0,.N s),(1,.int .u8 c.toNat),(7,u x.1.1.1),(6,.N x.1.1.2.2),(5,.T (.own 1000 x.2) 1 (aQ x.1.1.2.1))]) (λx=>[(1000,.own x.2 (aQ x.1.1.2.1).length 1 9)]) (λx=>s.length-x.1.1.1) (⟨(0,[],[]),by simp,by simp,by simp⟩,v) [(1000,1000)] ⟨an,rfl,a_⟩ ?_;rintro⟨⟨⟨i,vB,part⟩,hi,nm,hlen⟩,v⟩;dsimp only at hi nm hlen⊢;refine gj ?_;refine aI _ rfl ?_ ?_<;>intro hc;refine eY ?_;(have aG:i<s.length:=by simpa using hc);(have Ak:(aQ vB).length=vB.length:=by simp[aQ]);have ly:=avL aG;refine gJ ?_;refine⟨s[i],λ_=>⟨by omega,by simp[aG]⟩,?_⟩;(conv=>whnf);(have qX:(((s[i].toNat:Nat):Int)==(c.toNat:Nat))=(s[i]==c):=by rw[axp];simp only[awm];constructor;intro h;exact UInt8.toNat.inj auD;intro h;rw[h]);refine aI _ rfl ?_ ?_<;>intro hc;refine cc ?_;refine mm ?_;refine⟨by show(_+1)*16<=_;omega,by show _+1<=_;omega,auK,λv=>?_⟩;apply jH;refine ml ?_;(have Nk:s[i]=c:=by simpa using qX.symm.trans hc);exact⟨(⟨(i+1,vB++[part],[]),by omega,by rw[nm,ly,cO,auO Nk];simp,by simp;omega⟩,v),[(1000,23)],azg,⟨E,E,E,E,ap.i' (by simp[aQ];rfl),ak⟩,rfl,rfl,jq (by simp[aQ]),ak⟩;refine ml ?_;refine⟨λ_=>by omega,?_⟩;(conv=>whnf);refine nn ?_;refine ml ?_;(have Nk:s[i]≠c:=by simpa using qX.symm.trans hc);(have iJ:(s.take ((i:Int)+1).toNat).drop (i:Int).toNat=[s[i]]:=by rw[show((i:Int)+1).toNat=i+1 by omega,avq];exact ae' aG);exact⟨(⟨(i+1,vB,part++[s[i]]),by omega,by rw[nm,ly,cO,auN Nk],by simp;omega⟩,v),[(1000,1000)],azg,⟨E,E,E,ap.of_eq (auP D.N (by rw[iJ])),E,ak⟩,rfl,a_⟩;refine sN ?_;refine mm ?_;(have Ak:(aQ vB).length=vB.length:=by simp[aQ]);refine⟨by show(_+1)*16<=_;omega,by show _+1<=_;omega,auK,λv=>?_⟩;refine hz ?_;(have aG:¬i<s.length:=by simpa using hc);rw[nm,aw5 auD,cO];exact ap.trans (ap.of_eq (auP (D.T _ 1) (by simp[aQ];rfl))) ap.mf
theorem afa(s:auM)(hs:s.length<1000000000):aT B 215 [.N s] (.bool (k7 s)):=by refine bB Tryz.func215 Tryz.ntmps215 λW=>?_;apply b1;refine gj ?_;refine no ?_;refine aI _ rfl ?_ ?_<;>intro hc;refine gp ?_;refine ap.of_eq (auP D.bool ?_);rw[k7,auO];by_cases h1:s.length<1;exact .inl h1;right;(have mX:¬(s.length:Int)<1:=by omega);simp[mX]at hc;omega;apply ci;(have h1:¬(s.length<1\/128<s.length):=ayT);refine gj ?_;refine aI _ rfl ?_ ?_<;>intro hc;refine gp ?_;exact ap.of_eq (auP D.bool (by rw[k7,auN h1,auO (by simpa using hc)]));apply ci;(have A:s≠[47]:=by simpa using hc);(have hT:k7 s=(cO 47 [] (gA s)).all Ai:=by rw[k7,auN h1,auN A]);have lm:=Iv s;obtain⟨w4,E7⟩:=rZ (c:=47) (gA s) [];(conv=>whnf);refine Y.k0 (α:=Unit) (λx=>[(0,.N (gA s))]) (λx=>[]) ?_ ?_;refine cc ?_;refine⟨s.getD 0 0,λ_=>⟨by omega,Af s auD⟩,?_⟩;(conv=>whnf);have qX:=SX (s.getD 0 0) 47 auG;refine aI _ rfl ?_ ?_<;>intro hc;refine lZ ?_;refine pk ?_;(have hcs:gA s=(s.take (s.length:Int).toNat).drop (1:Int).toNat:=by(have Aj:s.getD 0 0=47:=by simpa using qX.symm.trans hc);rw[avq,au2,show(1:Int).toNat=1 from rfl];cases s with|nil=>simp at h1|cons b r=>simp at Aj;simp[gA,Aj]);exact⟨(),[],⟨ap.of_eq (auP D.N hcs.symm),ak⟩,rfl,ak⟩;refine eY ?_;(have hcs:gA s=s:=by(have Aj:s.getD 0 0≠47:=by simpa using qX.symm.trans hc);cases s with|nil=>rfl|cons b r=>simp at Aj;simp[gA,Aj]);exact⟨(),[],⟨ap.of_eq (auP D.N hcs.symm),ak⟩,rfl,ak⟩;rintro⟨⟩;refine cc ?_;refine⟨[.N (gA s),.int .u8 (47:UInt8).toNat],_,λ_=>Nj _ 47 auD,an,?_⟩;refine mT ?_;refine Y.loop (α:={i:Nat // i<=(cO 47 [] (gA s)).length/\∀j (h:j<(cO 47 [] (gA s)).length),j<i->Ai (cO 47 [] (gA s))[j]=true}) (λx=>[(3,.T .none 1 (aQ (cO 47 [] (gA s)))),(4,u x.1)]) (λ_=>[]) (λx=>(cO 47 [] (gA s)).length-x.1) ⟨0,by simp⟩ an trivial ?_;rintro⟨i,hi,aw⟩;dsimp only;refine gj ?_;refine aI _ rfl ?_ ?_<;>intro hc;apply ci;(have aG:i<(cO 47 [] (gA s)).length:=by simpa[aQ]using hc);have dh:=E7 _ (auT aG);refine gJ ?_;refine⟨λ_=>by simp[aQ];omega,?_⟩;(conv=>whnf);refine⟨.N (cO 47 [] (gA s))[i],λ_=>BO _ aG,?_⟩;refine hd ?_;refine⟨λ_=>by simp[aQ];omega,?_⟩;refine mR ?_;refine⟨.N (cO 47 [] (gA s))[i],λ_=>BO _ aG,?_⟩;refine il ?_;refine hd ?_;refine⟨λ_=>by simp[aQ];omega,?_⟩;refine mR ?_;refine⟨.N (cO 47 [] (gA s))[i],λ_=>BO _ aG,?_⟩;refine mR ?_;refine⟨[.N (cO 47 [] (gA s))[i]],_,λh=>Nf _ (by simp at dh;omega),an,?_⟩;refine il ?_;(conv=>whnf);have pq:=Ur (cO 47 [] (gA s))[i];refine aI _ rfl ?_ ?_<;>intro hc;refine gp ?_;exact ap.of_eq (auP D.bool (by rw[hT,Uq aG (by simpa using pq.symm.trans hc)]));refine qJ ?_;exact⟨⟨i+1,by omega,Nd (hi:=aG) (by simpa using pq.symm.trans hc) aw⟩,by show _-(i+1)<_-i;omega,an,ak⟩;refine qH ?_;exact ap.of_eq (auP D.bool (by rw[hT,Nc (by simpa[aQ]using hc) aw]))
theorem pz(a b:Bool):(bif a then true else b)=(a||b):=by cases a<;>rfl
theorem jv(a b:Bool):(bif a then b else false)=(a&&b):=by cases a<;>rfl
def hh(f:Nat->Int):Nat->Nat->Int
 |_,0=>0
 |i,k+1=>if f i=0 then hh f (i+1) k else f i
theorem pA{f:Nat->Int}{n:Nat}(h:i<n)(M:f i≠0):hh f i (n-i)=f i:=by obtain⟨k,Z⟩:∃k,n-i=k+1:=⟨n-i-1,by omega⟩;rw[Z,hh,auN M]
theorem pB{f:Nat->Int}{n:Nat}(h:i<n)(M:f i=0):hh f i (n-i)=hh f (i+1) (n-(i+1)):=by obtain⟨k,Z⟩:∃k,n-i=k+1:=⟨n-i-1,by omega⟩;rw[Z,hh,auO M,show n-(i+1)=k by omega]
theorem Al{f:Nat->Int}{n:Nat}(h:¬i<n):hh f i (n-i)=0:=by rw[show n-i=0 by omega];rfl
def sZ(n:U)(l:Int):D:=.agg [.N n.name,u n.kind,.N n.cU,.N n.target,u n.cu,u n.n2,u n.n3,u n.n4,u n.n5,u n.n6,.T .none 12 (n.F.map enc),.T .none 2 (n.bD.map cW),u l]
def t8(n:U)(l:Int):Bool:=(decide (n.kind<0)||decide (2<n.kind))||(l==1&&!(n.kind==0))
def vC(n:U)(l:Int):Int:=if t8 n l then 1 else 0
theorem afb(n:U)(l:Int):aT B 127 [sZ n l] (u (vC n l)):=by refine bB Tryz.func127 Tryz.ntmps127 λW=>?_;refine go ?_;intro b;refine go ?_;refine aI (t8 n l) (by simp only[t8,<-pz,<-jv];rfl) ?_ ?_<;>intro hc;refine go ?_;exact dx (by rw[vC,hc];rfl);refine go ?_;exact dx (by rw[vC,hc];rfl)
def t_(n:U)(l:Int):Bool:=(l==1&&!(n.name==[]))||(decide (1<l)&&!dS n.name)
def vD(n:U)(l:Int):Int:=if t_ n l then 4 else 0
theorem afc(aX:dk B)(n:U)(l:Int)(ar:n.name.length<1000000000):aT B 128 [sZ n l] (u (vD n l)):=by refine bB Tryz.func128 Tryz.ntmps128 λW=>?_;refine go ?_;intro b;refine go ?_;refine bq (yu aX _ ar) ?_;refine aI (t_ n l) (by simp only[t_,<-pz,<-jv];rfl) ?_ ?_<;>intro hc;refine go ?_;exact dx (by rw[vD,hc];rfl);refine go ?_;exact dx (by rw[vD,hc];rfl)
def t'(n:U):Bool:=((!(n.kind==1)&&(!(n.cU==[])||decide (0<(n.bD.length:Int))))||(!(n.kind==2)&&!(n.target==[])))||(!(n.kind==0)&&decide (0<(n.F.length:Int)))
def vE(n:U):Int:=if t' n then 1 else 0
theorem afd(n:U)(l:Int):aT B 129 [sZ n l] (u (vE n)):=by refine bB Tryz.func129 Tryz.ntmps129 λW=>?_;refine go ?_;intro b;refine go ?_;intro ca;refine go ?_;refine aI (t' n) ?_ (λhc=>?_) (λhc=>?_);simp only[t',<-pz,<-jv];rw[show n.bD.length=(n.bD.map cW).length by simp,show n.F.length=(n.F.map enc).length by simp];rfl;refine go ?_;exact dx (by rw[vE,hc];rfl);refine go ?_;exact dx (by rw[vE,hc];rfl)
def ua(n:U):Bool:=n.kind==2&&!k7 n.target
def vF(n:U):Int:=if ua n then 4 else 0
theorem afe(aX:dk B)(n:U)(l:Int)(ar:n.target.length<1000000000):aT B 130 [sZ n l] (u (vF n)):=by refine bB Tryz.func130 Tryz.ntmps130 λW=>?_;refine go ?_;intro b;refine go ?_;refine bq (Iw aX _ ar) ?_;refine aI (ua n) (by simp only[ua,<-pz,<-jv];rfl) ?_ ?_<;>intro hc;refine go ?_;exact dx (by rw[vF,hc];rfl);refine go ?_;exact dx (by rw[vF,hc];rfl)
def s0(n a b:Int):Bool:=decide (a<=n)&&decide (n<=b)
theorem Cn(n a b:Int):aT B 195 [u n,u a,u b] (.bool (s0 n a b)):=by refine bB Tryz.func195 Tryz.ntmps195 λW=>?_;refine go ?_;exact ap.of_eq (auP D.bool (jv _ _))
def r5(n:U):Bool:=((((!s0 n.cu 0 4095||!s0 n.n2 0 65535)||!s0 n.n3 0 65535)||!s0 n.n4 315532800 4102444799)||!s0 n.n5 (-1048576) 1048576)||!s0 n.n6 0 15
def vG(n:U):Int:=if r5 n then 2 else 0
theorem aff(n:U)(l:Int):aT B 131 [sZ n l] (u (vG n)):=by refine bB Tryz.func131 Tryz.ntmps131 λW=>?_;refine go ?_;intro b;refine go ?_;intro ca;refine go ?_;refine bq (Cn _ _ _) ?_;refine bq (Cn _ _ _) ?_;refine bq (Cn _ _ _) ?_;refine bq (Cn _ _ _) ?_;refine bq (Cn _ _ _) ?_;refine bq (Cn _ _ _) ?_;refine aI (r5 n) (by simp only[r5,<-pz];rfl) ?_ ?_<;>intro hc;refine go ?_;exact dx (by rw[vG,hc];rfl);refine go ?_;exact dx (by rw[vG,hc];rfl)
theorem afg(n:U):aT B 216 [az n] (.bool (!r5 n)):=by refine bB Tryz.func216 Tryz.ntmps216 λW=>?_;refine go ?_;intro b;refine go ?_;refine ap.of_eq (auP D.bool ?_);simp only[r5,s0,Bool.not_or,Bool.not_not,<-jv];simp only[jv,Bool.and_assoc]
theorem E_:∀a b:auM,Lib.compareBytes a b=0↔a=b
 |[],[]=>by simp[Lib.compareBytes]
 |[],_::_=>by simp[Lib.compareBytes]
 |_::_,[]=>by simp[Lib.compareBytes]
 |a::xs,b::aP=>by have aV:=E_ xs aP;simp only[Lib.compareBytes,awT];by_cases h1:a<b;rw[auO h1];exact⟨λh=>by simp at h,λh=>by rw[h.1]at h1;exact absurd h1 (axn _)⟩;rw[auN h1];by_cases A:b<a;rw[auO A];exact⟨λh=>by simp at h,λh=>by rw[h.1]at A;exact absurd A (axn _)⟩;rw[auN A,aV];have:a=b:=UInt8.le_antisymm (axJ.1 A) (axJ.1 h1);simp[this]
theorem E':∀a b:auM,Lib.compareBytes a b=1↔Op.bytesLess b a=true
 |[],[]=>by simp[Lib.compareBytes,Op.bytesLess]
 |[],_::_=>by simp[Lib.compareBytes,Op.bytesLess]
 |_::_,[]=>by simp[Lib.compareBytes,Op.bytesLess]
 |a::xs,b::aP=>by have aV:=E' xs aP;simp only[Lib.compareBytes,Op.bytesLess,av3,auQ,avp,awm];by_cases h1:a<b;rw[auO h1];refine⟨λh=>by simp at h,λh=>?_⟩;rcases h with h|⟨h,_⟩;exact absurd (UInt8.lt_trans h h1) (axn _);rw[h]at h1;exact absurd h1 (axn _);rw[auN h1];by_cases A:b<a;rw[auO A];simp[A];rw[auN A,aV];have:b=a:=UInt8.le_antisymm (axJ.1 h1) (axJ.1 A);simp[this,axn]
theorem Uu:∀a b:auM,Lib.compareBytes a b=-1\/Lib.compareBytes a b=0\/Lib.compareBytes a b=1
 |[],[]=>by simp[Lib.compareBytes]
 |[],_::_=>by simp[Lib.compareBytes]
 |_::_,[]=>by simp[Lib.compareBytes]
 |a::xs,b::aP=>by have aV:=Uu xs aP;simp only[Lib.compareBytes];split;simp;split;simp;exact aV
def qe(a b:auM):Int:=if a=b then 5 else if Op.bytesLess b a then 1 else 0
theorem Uv(a b:auM):aT B 196 [.N a,.N b] (u (qe a b)):=by refine bB Tryz.func196 Tryz.ntmps196 λW=>?_;apply b1;refine p9 ?_;refine⟨_,_,λ_=>Uh a b,an,?_⟩;refine go ?_;refine aI _ rfl ?_ ?_<;>intro hc;refine go ?_;exact dx (by rw[qe,auO ((E_ a b).1 (by simpa using hc))]);refine go ?_;(have h0:a≠b:=λe=>by have:=(E_ a b).2 e;rw[this]at hc;simp at hc);refine go ?_;refine aI _ rfl ?_ ?_<;>intro hc;refine go ?_;exact dx (by rw[qe,auN h0,auO ((E' a b).1 (by simpa using hc))]);refine go ?_;exact dx (by rw[qe,auN h0,auN];intro e;have:=(E' a b).2 e;rw[this]at hc;simp at hc)
def gX(n:U)(i:Nat):nr:=n.bD.getD i default
def qf(n:U)(i:Nat):U:=n.F.getD i default
theorem ub(n:U)(h:i<n.bD.length):(n.bD.map cW)[i]?=some (cW (gX n i)):=by simp[gX,List.getD,h]
theorem Co(n:U)(h:i<n.F.length):(n.F.map enc)[i]?=some (az (qf n i)):=by rw[<-qK];simp[qf,List.getD,h]
theorem w5(h:0<i):((i:Int)-1).toNat=i-1:=by omega
theorem Uw(n:U)(h:i<n.bD.length):(gX n i).name.length+(gX n i).target.length+2<=aB n:=by
 have h1:=H7 h;have A:=j8 n;have:gX n i=n.bD[i]:=by simp[gX,List.getD,h]
 rw[this];omega
theorem Fa(n:U):2*n.bD.length+2<=aB n:=by have:=EH n.bD;have:=j8 n;omega
def r6(n:U)(l:Int):Bool:=((decide (16<l)||decide (262144<(n.cU.length:Int)))||decide (64<(n.F.length:Int)))||decide (4<(n.bD.length:Int))
def pD(n:U)(i:Nat):Int:=if decide (262144<((gX n i).target.length:Int))then 7 else 0
def nz(n:U)(l:Int):Int:=if r6 n l then 7 else hh (pD n) 0 n.bD.length
theorem afh(n:U)(l:Int)(bn:aB n<1000000000):aT B 132 [sZ n l] (u (nz n l)):=by refine bB Tryz.func132 Tryz.ntmps132 λW=>?_;refine go ?_;intro b;refine go ?_;intro ca;refine go ?_;refine aI (r6 n l) ?_ (λhc=>?_) (λhc=>?_);simp only[r6,<-pz,<-jv];rw[show n.bD.length=(n.bD.map cW).length by simp,show n.F.length=(n.F.map enc).length by simp];rfl;refine go ?_;exact dx (by rw[nz,hc];rfl);refine go ?_;(have eJ:nz n l=hh (pD n) 0 (n.bD.length-0):=by rw[nz,hc];rfl);have fe:=Fa n;refine go ?_;refine Y.loop (α:={i:Nat // i<=n.bD.length/\nz n l=hh (pD n) i (n.bD.length-i)}) (λx=>[(30,.T .none 2 (n.bD.map cW)),(31,u (n.bD.map cW).length),(32,u x.1)]) (λ_=>[]) (λx=>n.bD.length-x.1) ⟨0,by omega,eJ⟩ an trivial ?_;rintro⟨i,hi,aw⟩;dsimp only;refine go ?_;refine aI _ rfl ?_ ?_<;>intro hc;refine eY ?_;(have aG:i<n.bD.length:=by simpa using hc);refine vg ?_;refine⟨cW (gX n i),λ_=>ub n aG,?_⟩;refine go ?_;intro el;refine go ?_;refine aI _ rfl ?_ ?_<;>intro hc;refine go ?_;(have M:pD n i=7:=by rw[pD,auO hc]);exact dx (by rw[aw,pA aG (by rw[M];decide),M]);refine go ?_;exact⟨⟨i+1,by omega,by rw[aw,pB aG (by rw[pD,hc];rfl)]⟩,by show _-(i+1)<_-i;omega,an,ak⟩;exact ayZ
theorem afi(n:U)(l:Int)(bn:aB n<1000000000):aT B 217 [az n,u l] (.bool (!(nz n l==0))):=by refine bB Tryz.func217 Tryz.ntmps217 λW=>?_;refine go ?_;intro b;refine go ?_;refine aI (r6 n l) ?_ (λhc=>?_) (λhc=>?_);simp only[r6,<-pz,<-jv];rw[show n.bD.length=(n.bD.map cW).length by simp,show n.F.length=(n.F.map enc).length by simp];rfl;refine go ?_;exact ap.of_eq (auP D.bool (by rw[nz,hc];rfl));refine go ?_;(have eJ:nz n l=hh (pD n) 0 (n.bD.length-0):=by rw[nz,hc];rfl);have fe:=Fa n;refine go ?_;refine Y.loop (α:={i:Nat // i<=n.bD.length/\nz n l=hh (pD n) i (n.bD.length-i)}) (λx=>[(2,.box 2 b 0),(5,u x.1)]) (λ_=>[(2,.box b [.N n.name,u n.kind,.N n.cU,.N n.target,u n.cu,u n.n2,u n.n3,u n.n4,u n.n5,u n.n6,.T .none 12 (n.F.map enc),.T .none 2 (n.bD.map cW)])]) (λx=>n.bD.length-x.1) ⟨0,by omega,eJ⟩ an ⟨rfl,ak⟩ ?_;rintro⟨i,hi,aw⟩;dsimp only;refine go ?_;refine aI _ rfl ?_ ?_<;>intro hc;refine eY ?_;(have aG:i<n.bD.length:=by simpa using hc);refine jJ ?_;apply b1;refine k2 ?_;refine⟨cW (gX n i),λ_=>ub n aG,?_⟩;refine go ?_;refine aI _ rfl ?_ ?_<;>intro hc;refine go ?_;(have M:pD n i=7:=by rw[pD,auO hc]);exact ap.of_eq (auP D.bool (by rw[aw,pA aG (by rw[M];decide),M];rfl));refine go ?_;exact⟨⟨i+1,by omega,by rw[aw,pB aG (by rw[pD,hc];rfl)]⟩,by show _-(i+1)<_-i;omega,an,⟨rfl,ak⟩⟩;refine go ?_;exact ap.of_eq (auP D.bool (by rw[aw,Al (by simpa using hc)];rfl))
def pE(n:U)(i:Nat):Int:=if dS (gX n i).name then(if 0<i then qe (gX n (i-1)).name (gX n i).name else 0)else 4
def Cp(n:U):Int:=hh (pE n) 0 n.bD.length
theorem afj(aX:dk B)(n:U)(l:Int)(bn:aB n<1000000000):aT B 133 [sZ n l] (u (Cp n)):=by refine bB Tryz.func133 Tryz.ntmps133 λW=>?_;refine go ?_;intro b;refine go ?_;have fe:=Fa n;refine go ?_;refine Y.loop (α:={i:Nat // i<=n.bD.length/\Cp n=hh (pE n) i (n.bD.length-i)}) (λx=>[(1,.box 1 b 0),(8,.T .none 2 (n.bD.map cW)),(9,u (n.bD.map cW).length),(10,u x.1)]) (λ_=>[(1,.box b [.N n.name,u n.kind,.N n.cU,.N n.target,u n.cu,u n.n2,u n.n3,u n.n4,u n.n5,u n.n6,.T .none 12 (n.F.map enc),.T .none 2 (n.bD.map cW),u l])]) (λx=>n.bD.length-x.1) ⟨0,by omega,rfl⟩ an ⟨rfl,ak⟩ ?_;rintro⟨i,hi,aw⟩;dsimp only;refine go ?_;refine aI _ rfl ?_ ?_<;>intro hc;refine eY ?_;(have aG:i<n.bD.length:=by simpa using hc);have i6:=Uw n aG;refine vg ?_;refine⟨cW (gX n i),λ_=>ub n aG,?_⟩;refine go ?_;intro el;apply cj;refine vi ?_;refine⟨[.N (gX n i).name],_,λ_=>yu aX _ auD,an,?_⟩;refine aI _ rfl ?_ ?_<;>intro hc;refine go ?_;(have M:pE n i=4:=by rw[pE,auN (by simpa using hc)]);exact dx (by rw[aw,pA aG (by rw[M];decide),M]);refine go ?_;(have cD:dS (gX n i).name=true:=by simpa using hc);refine go ?_;refine aI _ rfl ?_ ?_<;>intro hc;refine go ?_;(have kE:0<i:=by simpa using hc);(have M:pE n i=qe (gX n (i-1)).name (gX n i).name:=by rw[pE,auO cD,auO kE]);refine Y.tL aN mixed auI ?_;apply cj;refine lq ?_;refine mS ?_;refine⟨cW (gX n (i-1)),λ_=>by rw[w5 kE];exact ub n auD,?_⟩;refine go ?_;refine bq (Uv _ _) ?_;refine aI _ rfl ?_ ?_<;>intro hc;refine go ?_;exact dx (by rw[aw,pA aG (by rw[M];simpa using hc),M]);refine go ?_;exact⟨⟨i+1,by omega,by rw[aw,pB aG (by rw[M];simpa using hc)]⟩,by show _-(i+1)<_-i;omega,an,⟨rfl,ak⟩⟩;refine go ?_;(have M:pE n i=0:=by rw[pE,auO cD,auN (by simpa using hc)]);exact⟨⟨i+1,by omega,by rw[aw,pB aG M]⟩,by show _-(i+1)<_-i;omega,an,⟨rfl,ak⟩⟩;exact ayZ
def r7(n:U)(i:Nat):Int:=qe (qf n (i-1)).name (qf n i).name
def yx(n:U):Int:=hh (r7 n) 1 (n.F.length-1)
theorem afk(n:U)(l:Int)(bn:aB n<1000000000):aT B 134 [sZ n l] (u (yx n)):=by refine bB Tryz.func134 Tryz.ntmps134 λW=>?_;refine go ?_;intro b;refine go ?_;have fe:=vr n;refine go ?_;refine Y.loop (α:={i:Nat // 1<=i/\i<=n.F.length+1/\yx n=hh (r7 n) i (n.F.length-i)}) (λx=>[(1,.box 1 b 0),(3,u x.1)]) (λ_=>[(1,.box b [.N n.name,u n.kind,.N n.cU,.N n.target,u n.cu,u n.n2,u n.n3,u n.n4,u n.n5,u n.n6,.T .none 12 (n.F.map enc),.T .none 2 (n.bD.map cW),u l])]) (λx=>n.F.length+1-x.1) ⟨1,by omega,by omega,rfl⟩ an ⟨rfl,ak⟩ ?_;rintro⟨i,p',hi,aw⟩;dsimp only;refine go ?_;refine aI _ rfl ?_ ?_<;>intro hc;refine eY ?_;(have aG:i<n.F.length:=by simpa using hc);refine jJ ?_;refine mQ ?_;apply cj;refine lq ?_;refine mS ?_;refine⟨az (qf n (i-1)),λ_=>by rw[w5 auD];exact Co n auD,?_⟩;refine k2 ?_;refine⟨az (qf n i),λ_=>Co n aG,?_⟩;refine go ?_;refine bq (Uv _ _) ?_;refine aI _ rfl ?_ ?_<;>intro hc;refine go ?_;exact dx (by rw[aw,pA aG (by rw[r7];simpa using hc),r7]);refine go ?_;exact⟨⟨i+1,by omega,by omega,by rw[aw,pB aG (by rw[r7];simpa using hc)]⟩,by show _+1-(i+1)<_+1-i;omega,an,⟨rfl,ak⟩⟩;exact ayZ
def eV(n:U)(l:Int):Nat->Int
 |0=>vC n l
 |1=>vD n l
 |2=>vE n
 |3=>vF n
 |4=>vG n
 |5=>nz n l
 |6=>Cp n
 |_=>yx n
def one(n:U)(l:Int):Int:=hh (eV n l) 0 8
theorem afl(aX:dk B)(n:U)(l:Int)(bn:aB n+n.name.length<1000000000)(hi:i<8):aT B (127+i) [sZ n l] (u (eV n l i)):=by have ax:=j8 n;match i,hi with|0,_=>exact afb n l|1,_=>exact afc aX n l auD|2,_=>exact afd n l|3,_=>exact afe aX n l auD|4,_=>exact aff n l|5,_=>exact afh n l auD|6,_=>exact afj aX n l auD|7,_=>exact afk n l auD
def Am(n:U)(l:Int):List D:=(List.range 8).map λi=>.fn (.func (127+i)) [sZ n l] []
theorem afm(n:U)(l:Int)(hi:i<8):(Am n l)[i]?=some (.fn (.func (127+i)) [sZ n l] []):=by simp[Am,hi]
def Nl(bG b9:Nat):EI (Int×auM):=⟨λs=>.box bG [u s.1],λs=>.box b9 [.N s.2]⟩
def gY(n:U)(p:auM)(l:Int)(s:Int×auM):Bool×(Int×auM):=if one n l=0 then(true,(0,s.2))else(false,(one n l,p))
theorem afn(aX:dk B)(bG b9:Nat)(n:U)(p:auM)(l:Int)(s:Int×auM)(bn:aB n+n.name.length<1000000000):c4 B 126 ([az n,.N p,u l]++[.box 2000 bG 0,.box 2001 b9 0]) ((Nl bG b9).H s) λd aO=>d=.bool (gY n p l s).1/\aO=(Nl bG b9).H (gY n p l s).2:=by refine jI Tryz.func126 Tryz.ntmps126 λW=>?_;refine go ?_;intro b;refine go ?_;intro ca;refine go ?_;refine Y.loop (α:={x:Nat×Int // x.1<=8/\(0<x.1->x.2=0)/\one n l=hh (eV n l) x.1 (8-x.1)}) (λx=>[(1,.N p),(3,.box 2000 bG 0),(4,.box 2001 b9 0),(31,.T .dZ 1 (Am n l)),(32,u (Am n l).length),(33,u x.1.1)]) (λx=>[(2000,.box bG [u x.1.2]),(2001,.box b9 [.N s.2])]) (λx=>8-x.1.1) ⟨(0,s.1),by omega,by simp,rfl⟩ an ⟨rfl,a_⟩ ?_;rintro⟨⟨i,e⟩,hi,aq,aw⟩;dsimp only at hi aq aw⊢;refine go ?_;refine aI _ rfl ?_ ?_<;>intro hc;refine eY ?_;(have aG:i<8:=by simp[Am]at hc;omega);refine gJ ?_;refine⟨λ_=>by simp[Am];omega,?_⟩;refine go ?_;refine⟨.fn (.func (127+i)) [sZ n l] [],λ_=>afm n l aG,?_⟩;refine go ?_;refine bq (afl aX n l bn aG) ?_;refine aI _ rfl ?_ ?_<;>intro hc;refine gK ?_;refine cc ?_;(have aZ:eV n l i≠0:=by simpa using hc);(have h1:one n l=eV n l i:=by rw[aw,pA aG aZ]);(have bK:gY n p l s=(false,(eV n l i,p)):=by rw[gY,auN (by rw[h1];exact aZ),h1]);refine Y.gS [(8,.bool false)] [(2000,.box bG [u (eV n l i)]),(2001,.box b9 [.N p])] [(2000,2000),(2001,2001)] ⟨an,rfl,a_⟩ ?_;refine go ?_;exact⟨_,E,by rw[bK];rfl,by rw[bK];rfl⟩;refine go ?_;(have h0:eV n l i=0:=by simpa using hc);exact⟨⟨(i+1,0),by omega,λ_=>rfl,by rw[aw,pB aG h0]⟩,by show 8-(i+1)<8-i;omega,an,⟨auP (λQ=>some (aJ.box bG [u Q])) h0,rfl,ak⟩⟩;refine sN ?_;(have f1:¬i<8:=by simp[Am]at hc;omega);(have h1:one n l=0:=by rw[aw,Al f1]);have pF:e=0:=aq auD;subst pF;(have bK:gY n p l s=(true,(0,s.2)):=by rw[gY,auO h1]);refine Y.gS [(8,.bool true)] [(2000,.box bG [u 0]),(2001,.box b9 [.N s.2])] [(2000,2000),(2001,2001)] ⟨an,rfl,a_⟩ ?_;refine go ?_;exact⟨_,E,by rw[bK];rfl,by rw[bK];rfl⟩
def oR(n:U):auM×Int:=if(256:Int)<fd n then([],7)else((fJ gY n [] 1 (0,[])).2.2,(fJ gY n [] 1 (0,[])).2.1)
theorem afo(aX:dk B)(n:U)(bn:aB n+n.name.length<10000000):aT B 82 [az n] (.bm [.N (oR n).1,u (oR n).2]):=by refine bB Tryz.func82 Tryz.ntmps82 λW=>?_;refine go ?_;intro b;refine go ?_;refine bq (aej n bn) ?_;refine aI _ rfl ?_ ?_<;>intro hc;refine go ?_;exact⟨ap.of_eq (by rw[oR,auO (by simpa using hc)];rfl),dx (by rw[oR,auO (by simpa using hc)]),ak⟩;refine go ?_;intro b9;refine go ?_;intro bG;refine go ?_;refine .inr (ah.call rfl [az n,.N [],u 1,.fn (.func 126) [] [.box 2000 bG 0,.box 2001 b9 0]] [(2000,5),(2001,4)] (TF (Nl bG b9) gY 126 [.box 2000 bG 0,.box 2001 b9 0] (λn p l s G aj=>afn aX bG b9 n p l s auD) _ n [] 1 (0,[]) (avt _) auE auD) rfl ⟨E,E,E,ap.fn trivial ⟨ap.box,ap.box,ak⟩,ak⟩ ?_);rintro d aO ⟨rfl,rfl⟩;refine⟨_,E,?_⟩;refine mQ ?_;refine go ?_;exact⟨ap.of_eq (by rw[oR,auN (by simpa using hc)];rfl),dx (by rw[oR,auN (by simpa using hc)]),ak⟩
def valid(n:U):Bool:=(oR n).2==0
theorem An(aX:dk B)(n:U)(bn:aB n+n.name.length<10000000):aT B 51 [az n] (.bool (valid n)):=by refine bB Tryz.func51 Tryz.ntmps51 λW=>?_;refine go ?_;intro b;refine go ?_;refine bq (afo aX n bn) ?_;exact E
def yy(n:U):List D:=[.N n.name,u n.kind,.N n.cU,.N n.target,u n.cu,u n.n2,u n.n3,u n.n4,u n.n5,u n.n6,.T .none 12 (n.F.map enc),.T .none 2 (n.bD.map cW)]
theorem Ux(n:U)(l:Int):one n l=hh (eV n l) 0 (8-0):=rfl
theorem Uy(n:U):∀{k i:Nat},hh (pD n) i k≠0->hh (pD n) i k=7
 |0,i,h=>absurd rfl h
 |k+1,i,h=>by unfold hh at h⊢;split;rename_i h0;rw[auO h0]at h;exact Uy n h;rename_i h0;unfold pD at h0⊢;split;rfl;rename_i h1;rw[auN h1]at h0;exact absurd rfl h0
theorem afp(n:U)(l:Int)(bn:aB n+n.name.length<10000000):aT B 149 [az n,u l] (u (one n l)):=by refine bB Tryz.func149 Tryz.ntmps149 λW=>?_;refine cc ?_;intro b;have ax:=j8 n;have eK:=vr n;have fe:=Fa n;refine oK ?_;refine h6 ?_;refine il ?_;apply g';apply g';refine h6 ?_;refine no ?_;refine tV ?_;refine aI (t8 n l) (by simp only[t8,<-pz,<-jv];rfl) ?_ ?_<;>intro hc;refine gp ?_;(have af:eV n l 0=1:=by rw[eV,vC,hc];rfl);exact dx (by rw[Ux,pA auD (by rw[af];decide),af]);apply ci;(have hj:one n l=hh (eV n l) 1 (8-1):=by rw[Ux,pB auD (by rw[eV,vC,hc];rfl)]);refine gj ?_;refine h6 ?_;refine il ?_;apply g';apply g';refine h6 ?_;refine mR ?_;refine⟨[.N n.name],_,λh=>Nf _ auD,an,?_⟩;refine no ?_;refine tV ?_;refine aI (t_ n l) (by simp only[t_,<-pz,<-jv];rfl) ?_ ?_<;>intro hc;refine gp ?_;(have af:eV n l 1=4:=by rw[eV,vD,hc];rfl);exact dx (by rw[hj,pA auD (by rw[af];decide),af]);apply ci;(have jP:one n l=hh (eV n l) 2 (8-2):=by rw[hj,pB auD (by rw[eV,vD,hc];rfl)]);refine oK ?_;refine h6 ?_;apply g';apply g';refine h6 ?_;apply g';refine no ?_;refine tV ?_;refine h6 ?_;apply g';apply g';refine h6 ?_;refine no ?_;refine tV ?_;refine h6 ?_;apply g';apply g';refine h6 ?_;apply g';refine no ?_;refine tV ?_;refine aI (t' n) ?_ (λhc=>?_) (λhc=>?_);simp only[t',<-pz,<-jv];rw[show n.bD.length=(n.bD.map cW).length by simp,show n.F.length=(n.F.map enc).length by simp];rfl;refine gp ?_;(have af:eV n l 2=1:=by rw[eV,vE,hc];rfl);exact dx (by rw[jP,pA auD (by rw[af];decide),af]);apply ci;(have pG:one n l=hh (eV n l) 3 (8-3):=by rw[jP,pB auD (by rw[eV,vE,hc];rfl)]);refine oK ?_;refine h6 ?_;refine mR ?_;refine⟨[.N n.target],_,λh=>afa _ auD,an,?_⟩;refine il ?_;refine aI (ua n) (by simp only[ua,<-pz,<-jv];rfl) ?_ ?_<;>intro hc;refine gp ?_;(have af:eV n l 3=4:=by rw[eV,vF,hc];rfl);exact dx (by rw[pG,pA auD (by rw[af];decide),af]);apply ci;(have IA:one n l=hh (eV n l) 4 (8-4):=by rw[pG,pB auD (by rw[eV,vF,hc];rfl)]);refine vi ?_;refine⟨[az n],_,λ_=>afg n,an,?_⟩;refine aI (r5 n) ((show _=D.bool (!(!r5 n))from rfl).trans (auP D.bool (Bool.not_not _))) ?_ ?_<;>intro hc;refine gp ?_;(have af:eV n l 4=2:=by rw[eV,vG,hc];rfl);exact dx (by rw[IA,pA auD (by rw[af];decide),af]);apply ci;(have Nm:one n l=hh (eV n l) 5 (8-5):=by rw[IA,pB auD (by rw[eV,vG,hc];rfl)]);refine vi ?_;refine⟨[az n,u l],_,λ_=>afi n l auD,an,?_⟩;refine aI _ rfl ?_ ?_<;>intro hc;refine gp ?_;(have af:eV n l 5=7:=by rw[eV];(have og:nz n l≠0:=by simpa using hc);unfold nz at og⊢;split;rfl;rename_i h;rw[auN h]at og;exact Uy n og);exact dx (by rw[Nm,pA auD (by rw[af];decide),af]);apply ci;(have Fb:one n l=hh (eV n l) 6 (8-6):=by rw[Nm,pB auD (by rw[eV];simpa using hc)]);refine mT ?_;refine Y.loop (α:={i:Nat // i<=n.bD.length/\Cp n=hh (pE n) i (n.bD.length-i)}) (λx=>[(2,.box 2 b 0),(5,u x.1)]) (λ_=>[(2,.box b (yy n))]) (λx=>n.bD.length-x.1) ⟨0,by omega,rfl⟩ an ⟨rfl,ak⟩ ?_;rintro⟨i,hi,aw⟩;dsimp only;refine oK ?_;refine aI _ rfl ?_ ?_<;>intro hc;refine eY ?_;(have aG:i<n.bD.length:=by simpa using hc);have i6:=Uw n aG;(have Nn:∀e,pE n i=e->e≠0->one n l=e:=λe aq h0=>by(have h1:eV n l 6=e:=by rw[eV,aw,pA aG (by rw[aq];exact h0),aq]);rw[Fb,pA auD (by rw[h1];exact h0),h1]);refine jJ ?_;refine gj ?_;refine k2 ?_;refine⟨cW (gX n i),λ_=>ub n aG,?_⟩;(conv=>whnf);refine⟨[.N (gX n i).name],_,λ_=>Nf _ auD,an,?_⟩;refine aI _ rfl ?_ ?_<;>intro hc;refine gp ?_;exact dx (Nn 4 (by rw[pE,auN (by simpa using hc)]) auG).symm;apply ci;(have cD:dS (gX n i).name=true:=by simpa using hc);refine En ?_;refine h6 ?_;refine hd ?_;refine⟨λh=>by simp at h⊢;omega,?_⟩;refine hd ?_;refine⟨cW (gX n i),λ_=>ub n aG,?_⟩;refine h6 ?_;apply g';refine hb ?_;refine hd ?_;refine⟨λh=>by simp at h⊢;omega,?_⟩;refine hd ?_;refine⟨cW (gX n (i-1)),λh=>by rw[w5 (by simpa using h)];exact ub n auD,?_⟩;refine no ?_;refine aI _ rfl ?_ ?_<;>intro hc;refine gp ?_;(have A:0<i/\(gX n i).name=(gX n (i-1)).name:=ayG);exact dx (Nn 5 (by rw[pE,auO cD,auO A.1,qe,auO A.2.symm]) auG).symm;apply ci;(have aZ:0<i->(gX n (i-1)).name≠(gX n i).name:=λh0 e=>by(have No:decide ((0:Int)<i)=true:=by simp;omega);rw[No,e]at hc;simp at hc);refine mQ ?_;refine h6 ?_;refine hd ?_;refine⟨λh=>by simp at h⊢;omega,?_⟩;refine hd ?_;refine⟨cW (gX n i),λ_=>ub n aG,?_⟩;refine h6 ?_;apply g';refine hb ?_;refine hd ?_;refine⟨λh=>by simp at h⊢;omega,?_⟩;refine hd ?_;refine⟨cW (gX n (i-1)),λh=>by rw[w5 (by simpa using h)];exact ub n auD,?_⟩;refine no ?_;refine aI _ rfl ?_ ?_<;>intro hc;refine gp ?_;(have A:0<i/\Op.bytesLess (gX n i).name (gX n (i-1)).name=true:=ayG);exact dx (Nn 1 (by rw[pE,auO cD,auO A.1,qe,auN (aZ A.1),auO A.2]) auG).symm;refine qJ ?_;(have M:pE n i=0:=by rw[pE,auO cD];by_cases h0:0<i;(have No:decide ((0:Int)<i)=true:=by simp;omega);rw[No]at hc;rw[auO h0,qe,auN (aZ h0),auN (by simpa using hc)];rw[auN h0]);exact⟨⟨i+1,by omega,by rw[aw,pB aG M]⟩,by show _-(i+1)<_-i;omega,an,⟨rfl,ak⟩⟩;refine Y.exit ?_;apply eh;(have Np:one n l=hh (eV n l) 7 (8-7):=by rw[Fb,pB auD (by rw[eV,aw,Al (by simpa using hc)])]);apply b1;apply n1;refine Y.loop (α:={i:Nat // 1<=i/\i<=n.F.length+1/\yx n=hh (r7 n) i (n.F.length-i)}) (λx=>[(2,.box 2 b 0),(6,u x.1)]) (λ_=>[(2,.box b (yy n))]) (λx=>n.F.length+1-x.1) ⟨1,by omega,by omega,rfl⟩ an ⟨rfl,ak⟩ ?_;rintro⟨i,p',hi,aw⟩;dsimp only;refine oK ?_;refine aI _ rfl ?_ ?_<;>intro hc;refine eY ?_;(have aG:i<n.F.length:=by simpa using hc);(have Uz:∀e,r7 n i=e->e≠0->one n l=e:=λe aq h0=>by(have h1:eV n l 7=e:=by show yx n=e;rw[aw,pA aG (by rw[aq];exact h0),aq]);rw[Np,pA auD (by rw[h1];exact h0),h1]);refine jJ ?_;refine En ?_;refine k2 ?_;refine⟨az (qf n i),λ_=>Co n aG,?_⟩;apply cj;refine lq ?_;refine pk ?_;refine⟨az (qf n (i-1)),λ_=>by rw[w5 auD];exact Co n auD,?_⟩;refine aI _ rfl ?_ ?_<;>intro hc;refine gp ?_;exact dx (Uz 5 (by rw[r7,qe,auO (by have:=hc;simp at this;exact this.symm)]) auG).symm;apply ci;(have aZ:(qf n (i-1)).name≠(qf n i).name:=λe=>by rw[e]at hc;simp at hc);refine mQ ?_;refine k2 ?_;refine⟨az (qf n i),λ_=>Co n aG,?_⟩;apply cj;refine lq ?_;refine pk ?_;refine⟨az (qf n (i-1)),λ_=>by rw[w5 auD];exact Co n auD,?_⟩;refine aI _ rfl ?_ ?_<;>intro hc;refine gp ?_;exact dx (Uz 1 (by rw[r7,qe,auN aZ,auO hc]) auG).symm;refine qJ ?_;(have M:r7 n i=0:=by rw[r7,qe,auN aZ,auN (by rw[hc];simp)]);exact⟨⟨i+1,by omega,by omega,by rw[aw,pB aG M]⟩,by show _+1-(i+1)<_+1-i;omega,an,⟨rfl,ak⟩⟩;refine qH ?_;exact dx (by rw[Np,pB auD (by show yx n=0;rw[aw,Al (by simpa using hc)])];rfl)
theorem UA:∀a b:List U,eQ (a++b)=eQ a+eQ b
 |[],b=>by simp[eQ]
 |n::r,b=>by simp only[avQ,eQ];rw[UA r b];omega
theorem afq{l:List U}(h:i<l.length):eQ (l.take (i+1))=eQ (l.take i)+fd l[i]:=by rw[awF,auR h,UA];simp[eQ]
theorem Nq:∀(l:List U) (i:Nat),eQ (l.take i)<=eQ l
 |[],i=>by simp[eQ]
 |n::r,0=>by simp[eQ]
 |n::r,i+1=>by simp only[awi,eQ];have:=Nq r i;omega
theorem UB:∀(bA:Nat) (n:U),aB n<bA->aB n<100000000->aT B 98 [az n] (u (fd n)):=by refine λbA=>Nat.rec (λn h=>absurd h (av_ _)) (λbA aV n hN G=>?_) bA;have eK:=vr n;have hcs:=EL n.F;have qZ:=j8 n;refine bB Tryz.func98 Tryz.ntmps98 λW=>?_;refine cc ?_;intro b;apply b1;refine mT ?_;refine Y.loop (α:={i:Nat // i<=n.F.length}) (λx=>[(1,.box 1 b 0),(3,u ((1+eQ (n.F.take x.1):Nat):Int)),(4,u x.1)]) (λ_=>[(1,.box b (yy n))]) (λx=>n.F.length-x.1) ⟨0,by omega⟩ an ⟨rfl,ak⟩ ?_;rintro⟨i,hi⟩;dsimp only;refine oK ?_;refine aI _ rfl ?_ ?_<;>intro hc;refine eY ?_;(have aG:i<n.F.length:=by simpa using hc);have b2:=qT aG;have IB:=Nq n.F i;have Bt:=B5 n.F[i];refine jJ ?_;apply jH;refine k2 ?_;refine⟨az n.F[i],λ_=>rU aG,?_⟩;(conv=>whnf);refine⟨[az n.F[i]],_,λ_=>aV _ auD auD,an,?_⟩;refine hb ?_;refine ml ?_;exact⟨⟨i+1,by omega⟩,by show _-(i+1)<_-i;omega,⟨E,dx (by rw[afq aG];omega),E,ak⟩,⟨rfl,ak⟩⟩;refine qH ?_;exact dx (by rw[EK,ave (by simp at hc;omega)])
mutual
theorem Nr:∀(n:U) (p:auM) (l:Int),fJ gY n p l (0,[])=(true,(0,[]))\/((fJ gY n p l (0,[])).1=false/\(fJ gY n p l (0,[])).2.1≠0)
 |.mk a b c d e f g h i j ae ch,p,l=>by
  simp only[fJ];unfold gY;split
  ·rename_i bp ii;split at ii
   ·cases ii
   rename_i h0;cases ii;exact .inr ⟨rfl,h0⟩
  rename_i bp ii;split at ii
  ·cases ii;exact UC ae p l
  cases ii
theorem UC:∀(ae:List U) (p:auM) (l:Int),kD gY ae p l (0,[])=(true,(0,[]))\/((kD gY ae p l (0,[])).1=false/\(kD gY ae p l (0,[])).2.1≠0)
 |[],p,l=>.inl rfl
 |k::r,p,l=>by
  simp only[kD];rcases Nr k (below p k.name (l+1)) (l+1)with h|⟨h1,A⟩
  ·rw[h];exact UC r p l
  generalize fJ gY k (below p k.name (l+1)) (l+1) (0,[])=r at h1 A;obtain⟨x,y⟩:=r;simp only at h1 A;subst h1;exact .inr ⟨rfl,A⟩
end
def q0(n:U)(p:auM)(l:Int):auM×Int:=if(fJ gY n p l (0,[])).1 then([],0)else((fJ gY n p l (0,[])).2.2,(fJ gY n p l (0,[])).2.1)
theorem afr:∀(bA:Nat) (n:U) (p:auM) (l:Int),aB n<bA->p.length+aB n+l.toNat+n.name.length<10000000->1<=l->aT B 99 [az n,.N p,u l] (.bm [.N (q0 n p l).1,u (q0 n p l).2]):=by refine λbA=>Nat.rec (λn p l h=>absurd h (av_ _)) (λbA aV n p l hN G aj=>?_) bA;have eK:=vr n;refine bB Tryz.func99 Tryz.ntmps99 λW=>?_;refine cc ?_;intro b;refine vi ?_;refine⟨[az n,u l],_,λ_=>afp n l auD,an,?_⟩;apply b1;refine aI _ rfl ?_ ?_<;>intro hc;refine gp ?_;(have aZ:one n l≠0:=by simpa using hc);(have cz:fJ gY n p l (0,[])=(false,(one n l,p)):=by rw[H8,gY,auN aZ]);(have eJ:q0 n p l=(p,one n l):=by rw[q0,cz];rfl);rw[eJ];exact an;apply ci;(have h0:one n l=0:=by simpa using hc);(have cz:fJ gY n p l (0,[])=kD gY n.F p l (0,[]):=by rw[H8,gY,auO h0]);refine mT ?_;refine Y.loop (α:={i:Nat // i<=n.F.length/\fJ gY n p l (0,[])=kD gY (n.F.drop i) p l (0,[])}) (λx=>[(1,.N p),(2,u l),(3,.box 3 b 0),(9,u x.1)]) (λ_=>[(3,.box b (yy n))]) (λx=>n.F.length-x.1) ⟨0,by omega,cz⟩ an ⟨rfl,ak⟩ ?_;rintro⟨i,hi,aw⟩;dsimp only;refine oK ?_;refine aI _ rfl ?_ ?_<;>intro hc;refine eY ?_;(have aG:i<n.F.length:=by simpa using hc);have b2:=qT aG;have fg:=B3 p n.F[i].name (l+1);have ly:=avL aG;have B4:=Nr n.F[i] (below p n.F[i].name (l+1)) (l+1);refine jJ ?_;refine mQ ?_;refine k2 ?_;refine⟨az n.F[i],λ_=>rU aG,?_⟩;refine k2 ?_;refine⟨az n.F[i],λ_=>rU aG,?_⟩;(conv=>whnf);refine⟨[.N p,.N n.F[i].name,u l],_,λ_=>TE p _ l auD aj,an,?_⟩;refine lq ?_;refine⟨[az n.F[i],.N (below p n.F[i].name (l+1)),u (l+1)],_,λ_=>aV n.F[i] (below p n.F[i].name (l+1)) (l+1) auD auD auD,an,?_⟩;apply b1;refine aI _ rfl ?_ ?_<;>intro hc;refine gp ?_;(have aZ:(q0 n.F[i] (below p n.F[i].name (l+1)) (l+1)).2≠0:=by simpa using hc);(have eJ:q0 n p l=q0 n.F[i] (below p n.F[i].name (l+1)) (l+1):=by unfold q0 at aZ⊢;rw[aw,ly,kD];rcases B4 with h|⟨h1,A⟩;rw[h]at aZ;exact absurd rfl aZ;generalize fJ gY n.F[i] (below p n.F[i].name (l+1)) (l+1) (0,[])=r at*;obtain⟨x,y⟩:=r;simp only at h1;subst h1;rfl);rw[eJ];exact an;refine qJ ?_;(have h0:(q0 n.F[i] (below p n.F[i].name (l+1)) (l+1)).2=0:=by simpa using hc);(have Z:fJ gY n.F[i] (below p n.F[i].name (l+1)) (l+1) (0,[])=(true,(0,[])):=by rcases B4 with h|⟨h1,A⟩;exact h;unfold q0 at h0;rw[h1]at h0;exact absurd h0 A);exact⟨⟨i+1,by omega,by rw[aw,ly,kD,Z]⟩,by show _-(i+1)<_-i;omega,an,⟨rfl,ak⟩⟩;refine qH ?_;(have eJ:q0 n p l=([],0):=by rw[q0,aw,aw5 (by simp at hc;omega)];rfl);rw[eJ];exact an
theorem UD(n:U):(if(256:Int)<fd n then([],7)else q0 n [] 1)=oR n:=by unfold oR q0;split;rfl;rcases Nr n [] 1 with h|⟨h1,A⟩;rw[h];rfl;rw[h1];rfl
theorem UE(n:U)(bn:aB n+n.name.length<2200000):aT B 72 [az n] (.bm [.N (oR n).1,u (oR n).2]):=by refine bB Tryz.func72 Tryz.ntmps72 λW=>?_;refine cc ?_;intro b;refine vi ?_;refine⟨[az n],_,λ_=>UB _ n (avt _) auD,an,?_⟩;refine aI _ rfl ?_ ?_<;>intro hc;refine gp ?_;rw[<-UD,auO (by simpa using hc)];exact an;apply ci;refine kB ?_;refine⟨[az n,.N [],u 1],_,λ_=>afr _ n [] 1 (avt _) auE auD,an,?_⟩;refine hz ?_;rw[<-UD,auN (by simpa using hc)];exact an
theorem Ns(n:U)(bn:aB n+n.name.length<2200000):aT B 67 [az n] (.bool (valid n)):=by refine bB Tryz.func67 Tryz.ntmps67 λW=>?_;refine cc ?_;intro b;refine kB ?_;refine⟨[az n],_,λ_=>UE n bn,an,?_⟩;refine gp ?_;exact E
end Go.bV.ct


namespace Go.bV.ct
open Go Go.Proofs
variable{B:World}
def ev(n:U):Prop:=aB n+n.name.length<2200000
mutual
def r8:U->Nat
 |.mk _ _ _ _ _ _ _ _ _ _ ae _=>oh ae+1
def oh:List U->Nat
 |[]=>0
 |n::r=>max (r8 n) (oh r)
end
theorem afs(n:U):r8 n=oh n.F+1:=by cases n;simp only[r8]
theorem UF:∀a b:List U,oh (a++b)=max (oh a) (oh b)
 |[],b=>by simp[oh]
 |n::r,b=>by simp only[avQ,oh];rw[UF r b];omega
variable{i:Nat}
theorem aft{l:List U}(h:i<l.length):oh (l.take (i+1))=max (oh (l.take i)) (r8 l[i]):=by rw[awF,auR h,UF];simp[oh]
mutual
theorem afu:∀n:U,r8 n<=aB n
 |.mk a b c d e f g h i j ae ch=>by have:=Nt ae;simp only[r8,aB];omega
theorem Nt:∀l:List U,oh l<=eD l
 |[]=>by simp[oh,eD]
 |n::r=>by have:=afu n;have:=Nt r;simp only[oh,eD];omega
end
theorem afv:∀(bA:Nat) (n:U),aB n<bA->aB n<100000000->aT B 100 [az n] (u (r8 n)):=by refine λbA=>Nat.rec (λn h=>absurd h (av_ _)) (λbA aV n hN G=>?_) bA;have eK:=vr n;have hcs:=Nt n.F;have qZ:=j8 n;refine bB Tryz.func100 Tryz.ntmps100 λW=>?_;refine cc ?_;intro b;apply b1;refine mT ?_;refine Y.loop (α:={i:Nat // i<=n.F.length}) (λx=>[(1,.box 1 b 0),(3,u (oh (n.F.take x.1):Nat)),(4,u x.1)]) (λ_=>[(1,.box b (yy n))]) (λx=>n.F.length-x.1) ⟨0,by omega⟩ an ⟨rfl,ak⟩ ?_;rintro⟨i,hi⟩;dsimp only;refine oK ?_;refine aI _ rfl ?_ ?_<;>intro hc;refine eY ?_;(have aG:i<n.F.length:=by simpa using hc);have b2:=qT aG;refine jJ ?_;apply jH;refine k2 ?_;refine⟨az n.F[i],λ_=>rU aG,?_⟩;(conv=>whnf);refine⟨[az n.F[i]],_,λ_=>aV _ auD auD,an,?_⟩;refine ml ?_;exact⟨⟨i+1,by omega⟩,by show _-(i+1)<_-i;omega,⟨E,dx (by rw[aft aG];split<;>omega),E,ak⟩,⟨rfl,ak⟩⟩;refine sN ?_;have mO:n.F.take i=n.F:=ave (by simp at hc;omega);refine .inl ⟨λ_=>by simp only[dz];rw[mO];omega,?_⟩;refine hz ?_;exact dx (by rw[afs,mO];omega)
def k8:List nr->Nat
 |[]=>0
 |s::r=>20+s.name.length+s.target.length+k8 r
mutual
def pH:U->Nat
 |.mk a _ c d _ _ _ _ _ _ ae ch=>20+a.length+c.length+d.length+k8 ch+j' ae
def j':List U->Nat
 |[]=>0
 |n::r=>pH n+j' r
end
theorem Fc(n:U):pH n=20+n.name.length+n.cU.length+n.target.length+k8 n.bD+j' n.F:=by cases n;simp only[pH]
theorem UG:∀l:List nr,k8 l<=10*l3 l
 |[]=>by simp[k8,l3]
 |s::r=>by have:=UG r;simp only[k8,l3];omega
mutual
theorem UH:∀n:U,pH n<=n.name.length+10*aB n
 |.mk a b c d e f g h i j ae ch=>by have:=UI ae;have:=UG ch;simp only[pH,aB];omega
theorem UI:∀l:List U,j' l<=10*eD l
 |[]=>by simp[j',eD]
 |n::r=>by have:=UH n;have:=UI r;simp only[j',eD];omega
end
theorem UJ:∀a b:List nr,k8 (a++b)=k8 a+k8 b
 |[],b=>by simp[k8]
 |n::r,b=>by simp only[avQ,k8];rw[UJ r b];omega
theorem afw(n:U)(h:i<n.bD.length):k8 (n.bD.take (i+1))=k8 (n.bD.take i)+(20+(gX n i).name.length+(gX n i).target.length):=by rw[awF,auR h,UJ];simp[k8,gX,List.getD,h]
theorem UK:∀(l:List nr) (i:Nat),k8 (l.take i)<=k8 l
 |[],i=>by simp[k8]
 |n::r,0=>by simp[k8]
 |n::r,i+1=>by simp only[awi,k8];have:=UK r i;omega
theorem UL:∀a b:List U,j' (a++b)=j' a+j' b
 |[],b=>by simp[j']
 |n::r,b=>by simp only[avQ,j'];rw[UL r b];omega
theorem afx{l:List U}(h:i<l.length):j' (l.take (i+1))=j' (l.take i)+pH l[i]:=by rw[awF,auR h,UL];simp[j']
theorem UM:∀(l:List U) (i:Nat),j' (l.take i)<=j' l
 |[],i=>by simp[j']
 |n::r,0=>by simp[j']
 |n::r,i+1=>by simp only[awi,j'];have:=UM r i;omega
theorem afy:∀(bA:Nat) (n:U),aB n<bA->aB n+n.name.length<10000000->aT B 101 [az n] (u (pH n)):=by refine λbA=>Nat.rec (λn h=>absurd h (av_ _)) (λbA aV n hN G=>?_) bA;have eK:=vr n;have fe:=Fa n;have Nu:=UH n;have afz:=Fc n;refine bB Tryz.func101 Tryz.ntmps101 λW=>?_;refine cc ?_;intro b;refine gK ?_;refine hb ?_;apply cj;refine hb ?_;apply cj;refine hb ?_;refine mT ?_;refine Y.loop (α:={i:Nat // i<=n.bD.length}) (λx=>[(1,.box 1 b 0),(3,u ((20+n.name.length+n.cU.length+n.target.length+k8 (n.bD.take x.1):Nat):Int)),(4,u x.1)]) (λ_=>[(1,.box b (yy n))]) (λx=>n.bD.length-x.1) ⟨0,by omega⟩ ⟨E,dx (by simp[k8]),E,ak⟩ ⟨rfl,ak⟩ ?_;rintro⟨i,hi⟩;dsimp only;refine oK ?_;refine aI _ rfl ?_ ?_<;>intro hc;refine eY ?_;(have aG:i<n.bD.length:=by simpa using hc);have Fd:=UK n.bD (i+1);have c2:=afw n aG;refine jJ ?_;refine Y.tL aN mixed auI ?_;refine hb ?_;refine k2 ?_;refine⟨cW (gX n i),λ_=>ub n aG,?_⟩;refine hb ?_;refine k2 ?_;refine⟨cW (gX n i),λ_=>ub n aG,?_⟩;refine hb ?_;refine ml ?_;exact⟨⟨i+1,by omega⟩,by show _-(i+1)<_-i;omega,⟨E,dx (by rw[c2];omega),E,ak⟩,⟨rfl,ak⟩⟩;refine vf ?_;have hL:n.bD.take i=n.bD:=ave (by simp at hc;omega);refine mT ?_;refine Y.loop (α:={i:Nat // i<=n.F.length}) (λx=>[(1,.box 1 b 0),(3,u ((20+n.name.length+n.cU.length+n.target.length+k8 n.bD+j' (n.F.take x.1):Nat):Int)),(5,u x.1)]) (λ_=>[(1,.box b (yy n))]) (λx=>n.F.length-x.1) ⟨0,by omega⟩ ⟨E,dx (by rw[hL];simp[j']),E,ak⟩ ⟨rfl,ak⟩ ?_;rintro⟨i,hi⟩;dsimp only;refine oK ?_;refine aI _ rfl ?_ ?_<;>intro hc;refine eY ?_;(have aG:i<n.F.length:=by simpa using hc);have b2:=qT aG;have Fd:=UM n.F (i+1);have c2:=afx aG;refine jJ ?_;apply jH;refine k2 ?_;refine⟨az n.F[i],λ_=>rU aG,?_⟩;(conv=>whnf);refine⟨[az n.F[i]],_,λ_=>aV _ auD auD,an,?_⟩;refine hb ?_;refine ml ?_;exact⟨⟨i+1,by omega⟩,by show _-(i+1)<_-i;omega,⟨E,dx (by rw[c2];omega),E,ak⟩,⟨rfl,ak⟩⟩;refine qH ?_;exact dx (by rw[afz,ave (by simp at hc;omega)])
def oS(n:U)(s:Int):Bool:=(decide ((fd n:Int)<=40)&&decide ((r8 n:Int)<=20))&&decide ((pH n:Int)<=s)
theorem afA(n:U)(s:Int)(ar:ev n):aT B 73 [az n,u s] (.bool (oS n s)):=by refine bB Tryz.func73 Tryz.ntmps73 λW=>?_;refine cc ?_;intro b;refine kB ?_;unfold ev at ar;refine⟨[az n],_,λ_=>UB _ n (avt _) auD,an,?_⟩;apply cj;refine mR ?_;refine⟨[az n],_,λh=>afv _ n (avt _) auD,an,?_⟩;refine il ?_;apply cj;refine mR ?_;refine⟨[az n],_,λh=>afy _ n (avt _) auD,an,?_⟩;refine no ?_;refine hz ?_;exact ap.of_eq (auP D.bool (by simp only[oS,<-jv]))
def q1(n:U)(q:auM):Int:=fh (λk:U=>k.name==q) n.F
theorem Nv(n:U)(q:auM)(ar:ev n):aT B 69 [az n,.N q] (u (q1 n q)):=by refine bB Tryz.func69 Tryz.ntmps69 λW=>?_;refine cc ?_;intro b;refine mT ?_;have eK:=vr n;unfold ev at ar;refine Y.loop (α:={i:Nat // i<=n.F.length/\∀j (h:j<n.F.length),j<i->((n.F[j]).name==q)=false}) (λx=>[(1,.N q),(2,.box 2 b 0),(5,u x.1)]) (λ_=>[(2,.box b (yy n))]) (λx=>n.F.length-x.1) ⟨0,by simp⟩ an ⟨rfl,ak⟩ ?_;rintro⟨i,hi,aw⟩;dsimp only;refine oK ?_;refine aI _ rfl ?_ ?_<;>intro hc;refine eY ?_;(have aG:i<n.F.length:=by simpa using hc);refine jJ ?_;apply b1;refine k2 ?_;refine⟨az n.F[i],λ_=>rU aG,?_⟩;refine aI _ rfl ?_ ?_<;>intro hc;refine gp ?_;exact dx (zP (p:=λk:U=>k.name==q) aG aw hc).symm;refine qJ ?_;exact⟨⟨i+1,by omega,λj ad bg=>(awJ.1 bg).elim (aw j ad) λe=>by subst e;exact hc⟩,by show _-(i+1)<_-i;omega,an,⟨rfl,ak⟩⟩;refine qH ?_;exact ayH
theorem Ao:∀a:auM,Op.bytesLess a a=false
 |[]=>rfl
 |a::xs=>by simp[Op.bytesLess,Ao xs,axn]
theorem w6:∀a b:auM,Op.bytesLess a b=false->Op.bytesLess b a=false->a=b
 |[],[],_,_=>rfl
 |[],_::_,h,_=>by simp[Op.bytesLess]at h
 |_::_,[],_,h=>by simp[Op.bytesLess]at h
 |a::xs,b::bl,h,bt=>by simp only[Op.bytesLess,awe,awj,awg,avv]at h bt;have nW:a=b:=UInt8.le_antisymm (axJ.1 bt.1) (axJ.1 h.1);subst nW;rw[w6 xs bl (by rcases h.2 with h|h;exact absurd rfl h;exact h) (by rcases bt.2 with h|h;exact absurd rfl h;exact h)]
theorem Cq:∀a b c:auM,Op.bytesLess a b=true->Op.bytesLess b c=true->Op.bytesLess a c=true
 |_,[],_,h,_=>by cases bt:(‹auM›:auM)<;>simp_all [Op.bytesLess]
 |_,_::_,[],_,h=>by simp[Op.bytesLess]at h
 |[],_::_,_::_,_,_=>rfl
 |a::xs,b::bl,c::zs,h,bt=>by simp only[Op.bytesLess,av3,avp,auQ,awm]at h bt⊢;rcases h with h|⟨rfl,h⟩;rcases bt with bt|⟨rfl,bt⟩;exact .inl (UInt8.lt_trans h bt);exact .inl h;rcases bt with bt|⟨rfl,bt⟩;exact .inl bt;exact .inr ⟨rfl,Cq xs bl zs h bt⟩
theorem Fe{a b:auM}(h:Op.bytesLess a b=true):Op.bytesLess b a=false:=by cases G:Op.bytesLess b a with|false=>rfl|true=>have:=Cq a b a h G;rw[Ao]at this;cases this
theorem q2{a b:auM}(h:Op.bytesLess a b=true):a≠b:=λe=>by rw[e,Ao]at h;cases h
def f3(l:List U):Prop:=∀i,i+1<l.length->Op.bytesLess (l.getD i default).name (l.getD (i+1) default).name=true
theorem UN{l:List U}(h:f3 l):∀{d i:Nat},i+d+1<l.length->Op.bytesLess (l.getD i default).name (l.getD (i+d+1) default).name=true
 |0,i,hi=>h i hi
 |d+1,i,hi=>Cq _ _ _ (UN h (d:=d) (i:=i) auD) (h (i+d+1) hi)
variable{j:Nat}
theorem afB{l:List U}(h:f3 l)(d6:i<j)(ad:j<l.length):Op.bytesLess (l.getD i default).name (l.getD j default).name=true:=by have:=UN h (d:=j-i-1) (i:=i) auD;rwa [show i+(j-i-1)+1=j by omega]at this
end Go.bV.ct



namespace Go.bV.ct
open Go Go.Proofs
variable{B:World}
def ka(v:Int):Bool:=decide (0<=v)&&decide (v<4)
theorem Ff(v:Int):aT B 252 [u v] (.bool (ka v)):=by refine bB Tryz.func252 Tryz.ntmps252 λW=>?_;apply b1;apply b1;refine il ?_;refine hz ?_;exact ap.of_eq (auP D.bool (jv _ _))
def UO(h v:Int):Bool:=qy .and .i64 (h.fdiv (2 ^ min v.toNat IntKind.i64.bits)) 1==1
def kb(v:Int)(n:U)(l:Int):Bool :=
 if !ka v||UO n.n6 v then false else if(v==0&&n.kind==0)&&decide (8<l)then false else(!(n.kind==2)||v==2)||v==3
theorem Fg(v:Int)(n:U)(l:Int):aT B 183 [u v,az n,u l] (.bool (kb v n l)):=by refine bB Tryz.func183 Tryz.ntmps183 λW=>?_;refine cc ?_;intro b;refine p9 ?_;refine⟨[u v],_,λ_=>Ff v,an,?_⟩;refine h6 ?_;refine hd ?_;refine⟨λh=>by unfold ka at h;simp at h;omega,?_⟩;refine no ?_;refine aI (!ka v||UO n.n6 v) (by simp only[<-pz];rfl) ?_ ?_<;>intro hc;refine gp ?_;exact ap.of_eq (auP D.bool (by rw[kb,auO hc]));apply ci;have e6:=hc;refine gj ?_;refine h6 ?_;refine il ?_;refine il ?_;refine aI ((v==0&&n.kind==0)&&decide (8<l)) (by simp only[<-jv];rfl) ?_ ?_<;>intro hc;refine gp ?_;exact ap.of_eq (auP D.bool (by rw[kb,auN (by rw[e6];simp),auO hc]));apply ci;refine gK ?_;refine il ?_;refine il ?_;refine hz ?_;refine ap.of_eq (auP D.bool ?_);rw[kb,auN (by rw[e6];simp),auN (by rw[hc];simp)];simp only[<-pz];rfl
theorem UP(p n:auM)(UQ:Bool)(h:p.length+n.length<1000000000):aT B 349 [.N p,.N n,.bool UQ] (.N (if UQ then n else p++[47]++n)):=by refine bB Tryz.func349 Tryz.ntmps349 λW=>?_;apply b1;refine gj ?_;refine aI _ rfl ?_ ?_<;>intro hc;refine gp ?_;exact ap.of_eq (auP D.N (by rw[auO hc]));apply ci;refine cc ?_;refine pk ?_;refine nn ?_;refine hz ?_;exact ap.of_eq (auP D.N (by rw[auN (by rw[hc];simp)]))
open Go.RowKit
theorem afC(a b:ByteArray)(cP d0 nx w7 uc Fh UR US UT UU UV UW UX UY UZ U0 U1 U2 U3 U4 U5 U6:Value)(w:World):
  Calls Tryz.prog 351 #[.agg #[.string a,cP,d0,nx,w7,uc,Fh,UR,US,UT,UU,UV],.agg #[.string b,UW,UX,UY,UZ,U0,U1,U2,U3,U4,U5,U6]] w
   λe w'=>e=.returned (.int .i64 (Lib.compareBytes a.data.toList b.data.toList))/\∃q Nw,w'=Sort.grow (w.drewN q) Nw:=by
 go_enter Tryz.func351,Tryz.ntmps351
 go_wp2_with (first
  |(go_at_call 249;refine(Tryz.strings_Compare _ _ _).mono ?_;rintro e w' ⟨rfl,rfl⟩)
  |go_in)
 go_ret
 refine⟨rfl,0,#[.cells #[.string a,cP,d0,nx,w7,uc,Fh,UR,US,UT,UU,UV] 44,.cells #[.string b,UW,UX,UY,UZ,U0,U1,U2,U3,U4,U5,U6] 44],?_⟩;simp only[Sort.grow,World.drewN,World.alloc,aw9];congr 1
theorem afD(d_ b o n cap i j:Nat)(x y:ByteArray)(w:World)(asA:w.cell? ⟨d_,0,none⟩=some (.slice (some ⟨b,o,none⟩) n cap))(hi:i<n)(ad:j<n)
  (J:w.cell? ⟨b,o+i*12,none⟩=some (.string x)) (hy:w.cell? ⟨b,o+j*12,none⟩=some (.string y)) :
  Calls Tryz.prog 254 #[.int .i64 i,.int .i64 j,.pointer (some ⟨d_,0,none⟩)] w
   λe w'=>e=.returned (.int .i64 (Lib.compareBytes x.data.toList y.data.toList))/\∃q Nw,w'=Sort.grow (w.drewN q) Nw:=by
 go_enter Tryz.func254,Tryz.ntmps254
 go_wp2_with (first
  |(go_at_call 249;refine(Tryz.strings_Compare _ _ _).mono ?_;rintro e w' ⟨rfl,rfl⟩)
  |go_in)
 go_quiet ((go_at_call 249;refine Calls.quiet_of_same (Tryz.strings_Compare _ _ _)))
 go_wp2
 go_ret
 exact⟨rfl,_,#[],(Sort.grow_empty _).symm⟩
open Go.Sort Go.Lib
variable{α:Type}{b:Nat}
theorem Nx[Inhabited α](enc:α->Value)(w:World)(blk off n:Nat)(d:Array α)(os:Array Obj)(G:b<w.heap.size)(aZ:b≠blk):(sortWorld enc w blk off n d os).heap[b]?=w.heap[b]?:=by simp only[sortWorld,Sort.grow,putRow,mapBlock,ahead];rw[axB (by simpa using G),aw_,auN (Ne.symm aZ)];rfl
theorem IC[Inhabited α](enc:α->Value)(w:World)(blk off n:Nat)(d:Array α)(os:Array Obj){vs:Array Value}{e:TypeId}{kv:Nat×Nat}(G:w.heap[blk]?=some (.cells vs e kv)): (sortWorld enc w blk off n d os).heap[blk]?=some (.cells (putCells enc off d vs) e kv):=by have bg:=ij G;simp only[sortWorld,Sort.grow,putRow,mapBlock,ahead];rw[axB (by simpa using bg),aw_,auO rfl];show Option.map _ w.heap[blk]?=_;rw[G];rfl
variable{ao:Value}
theorem Ny[Inhabited α](enc:α->Value)(w:World)(blk off n:Nat)(d:Array α)(os:Array Obj){o:Nat}(aZ:b≠blk)(h:w.cell? ⟨b,o,none⟩=some ao):(sortWorld enc w blk off n d os).cell? ⟨b,o,none⟩=some ao:=by(have bg:b<w.heap.size:=by simp only[World.cell?]at h;rcases au6 b w.heap.size with h1|h1;exact h1;rw[axT h1]at h;cases h);rw[<-h];simp only[World.cell?,Nx enc w blk off n d os bg aZ]
theorem afE[Inhabited α](enc:α->Value)(w:World)(blk off n:Nat)(d:Array α)(os:Array Obj):w.heap.size<=(sortWorld enc w blk off n d os).heap.size:=by simp[sortWorld,Sort.grow,putRow,mapBlock,ahead]
theorem de.ID[Inhabited α](enc:α->Value)(w:World)(C:Nat->Nat)(blk off n:Nat)(d:Array α)(os:Array Obj)(da:C blk=0):de (λx=>x=blk) w C (sortWorld enc w blk off n d os) C :=
 ⟨⟨afE ..,λ_ _=>auW _,λb o G ag=>by
   have aZ:b≠blk:=λe=>by subst e;omega
   simp only[World.cell?,Nx enc w blk off n d os G aZ]⟩,rfl,rfl,rfl,λb G aZ=>⟨Nx enc w blk off n d os G aZ,rfl⟩⟩
theorem Nz(aU:α->auM)(x y:α):ltOf (λx y:α=>Lib.compareBytes (aU x) (aU y)) x y=Op.bytesLess (aU x) (aU y):=by unfold ltOf;show decide (Lib.compareBytes (aU x) (aU y)<0)=_;rcases Uu (aU x) (aU y)with h|h|h;rw[h];(cases G:Op.bytesLess (aU x) (aU y)with|true=>rfl|false =>(cases g_:Op.bytesLess (aU y) (aU x)with|true=>rw[(E' (aU x) (aU y)).2 g_]at h;cases h|false=>have:=w6 _ _ G g_;rw[(E_ (aU x) (aU y)).2 this]at h;cases h));rw[h];have:=(E_ (aU x) (aU y)).1 h;rw[this,Ao];rfl;rw[h];rw[Fe ((E' (aU x) (aU y)).1 h)];rfl
theorem U7(aU:α->auM):SWO (ltOf λx y:α=>Lib.compareBytes (aU x) (aU y)):=by have key:=Nz aU;refine⟨λx=>by rw[key,Ao],λx y Q h1 A=>?_,λx y Q h1 A=>?_⟩;rw[key]at*;exact Cq _ _ _ h1 A;rw[key]at*;cases G:Op.bytesLess (aU x) (aU Q)with|false=>rfl|true =>(cases aa:Op.bytesLess (aU Q) (aU y)with|true=>rw[Cq _ _ _ G aa]at h1;cases h1|false=>have:=w6 _ _ A aa;rw[this]at h1;rw[G]at h1;cases h1)
def encI(i:Nat):D:=u (i:Nat)
def IE(n:Nat)(x:Fin n):Value:=.int .i64 ((x.1:Nat):Int)
variable{dj dt:aJ}
theorem IF{a:Nat}{o:aJ}{s:Nat}(h:aM [(a,dj),(b,dt)] s=some o):(s=a/\o=dj)\/(s=b/\o=dt):=by simp only[aM]at h;cases h1:Nat.beq s a with|true=>rw[h1]at h;cases h;exact .inl ⟨avb h1,rfl⟩|false =>rw[h1]at h;(cases A:Nat.beq s b with|true=>rw[A]at h;cases h;exact .inr ⟨avb A,rfl⟩|false=>rw[A]at h;cases h)
theorem U8(v:Value)(NA:D)(o:aJ):c4 B 253 [.am v,NA] (aM [(2001,.row v [] 1 3),(2000,o)]) λd aO=>d=.bm []/\aO=aM [(2001,.row v [] 1 3),(2000,o)]:=by refine⟨jt Tryz.func253 rfl auH,λw C args Ft p5 qE hH af=>?_⟩;obtain⟨aj,af⟩:=af;match args,aj with|[a0,gn],_ =>have h0:=(af 0 _ a0 rfl rfl).gh;subst h0;obtain⟨a,cap,X,_⟩:ks w C a0 [] 1 3:=hH.cl 2001 _ rfl;subst X;refine(AnyF.slices_SortFunc_none Tryz.laysSlF0_f253 a cap gn w).mono ?_;rintro e w' ⟨rfl,rfl⟩;exact⟨.tuple #[],.bm [],C,_,rfl,⟨rfl,rfl⟩,.bm [] [] rfl (λi d v O _=>by simp at O),.refl _ _ _,⟨hH.cl,hH.inj,λs o b ag au=>.inl (hH.cQ s o b ag au)⟩⟩
theorem U9(F:List U)(ar:0<F.length)(hlen:F.length<1000000)(d_:Nat)(v:Value)(ds:List (Fin F.length))(ud:0<ds.length)(O:ds.length<1000000):
  c4 B 253 [.am v,.fn (.func 254) [] [.box 2000 d_ 0]] (aM [(2001,.row v (ds.map λx=>encI x.1) 1 3),(2000,.box d_ [.T .none 12 (F.map enc)])]) λd aO =>
   d=.bm []/\∃kV:List (Fin F.length),kV.Perm ds/\(∀(i j:Nat) (hi:i<kV.length) (ad:j<kV.length),i<j->Op.bytesLess (F[kV[j].1]).name (F[kV[i].1]).name=false)/\
    aO=aM [(2001,.row v (kV.map λx=>encI x.1) 1 3),(2000,.box d_ [.T .none 12 (F.map enc)])]:=by
 refine⟨jt Tryz.func253 rfl auH,λw C args Ft p5 qE hH af=>?_⟩;obtain⟨aj,af⟩:=af
 match args,aj with
 |[a0,gn],_ =>
  have h0:=(af 0 _ a0 rfl rfl).gh;obtain⟨fN,hr,h1,A,aa⟩:=(af 1 _ gn rfl rfl).uX;subst h0;have NB:fN=[]:=au1 A.1.symm;subst NB
  have sL:hr=[.pointer (some ⟨d_,0,none⟩)]:=by
   obtain⟨U_,aa⟩:=aa
   match hr,U_ with
   |[ao],_=>rw[(aa 0 _ ao rfl rfl).wy]
  subst sL;subst h1;have dQ:ks w C a0 (ds.map λx=>encI x.1) 1 3:=hH.cl 2001 _ rfl;obtain⟨U',asB,nV,IG,asC⟩:tx w C (.box d_ [.T .none 12 (F.map enc)]):=hH.cl 2000 _ rfl
  obtain⟨ao,rfl⟩:∃ao,U'=[ao]:=by
   match U',IG.1 with
   |[ao],_=>exact⟨ao,rfl⟩
  have au:=IG.2 0 _ ao rfl rfl;obtain⟨b,cap,vs,X,hc,hm,Z,G,gc,da,hcells⟩:=ks.pos dQ (i:=0) (by simpa using ud);have hcap:0<cap:=by simp at hc;omega
  have en:∀x∈ds.map (λx=>encI x.1),x.cells=[x]:=λx J=>by obtain⟨y,_,rfl⟩:=au_.1 J;rfl
  rw[rM en]at hcells;have eK:0<(F.map enc).length:=by simpa using ar
  rcases au.kt with⟨aq,_⟩|⟨Fi,o,NC,g,rfl,_,p4,_,_,sV,afF,afG,_,afH⟩
  ·rw[aq]at eK;cases eK
  have Va:Fi≠b:=λe=>by rw[e]at afF;omega
  have IH:d_≠b:=λe=>by
   subst e;exact hH.inj 2000 2001 _ _ d_ auG rfl rfl rfl ⟨_,cap,X,hcap⟩
  have gs:(F.map enc).length=F.length:=by simp
  have afI:w.cell? ⟨d_,0,none⟩=some (.slice (some ⟨Fi,o,none⟩) F.length NC):=by
   have:w.cell? ⟨d_,0,none⟩=some (.slice (some ⟨Fi,o,none⟩) (F.map enc).length NC):=by simp only[World.cell?,nV];rfl
   rwa [gs]at this
  have Fj:∀i:Fin F.length,w.cell? ⟨Fi,o+i.1*12,none⟩=some (.string ⟨⟨(F[i.1]).name⟩⟩):=λi=>by
   have M:(b4 (F.map enc))[i.1*12+0]?=some (.N (F[i.1]).name):=by rw[wD sV (lx i.2) auD];rfl
   have aF:=afG _ _ M;rw[(afH _ _ M).kS]at aF;simpa using aF
  haveI:Inhabited (Fin F.length):=⟨⟨0,ar⟩⟩
  have h4:∀(l:List (Fin F.length)) (j:Nat) (ad:j<l.length),l.toArray[j]! = l[j]:=λl j ad=>by simp[ad]
  have ND:∀args w,(callFunc 254 args).run Tryz.prog w=.ok (.enter 254 args) w:=λargs w=>by
   obtain⟨fn,jm,rF,kY⟩:=jt Tryz.func254 rfl auH;have oN:fn.body.isNone=false:=by cases G:fn.body<;>simp[G]at rF⊢
   simp only[callFunc,Sem.run_bind,run_program,Result.andThen_ok,jm,kY,oN,avT,awq,Sem.run_pure]
  have Fk:=Tryz.slices_SortFunc (IE F.length) (λ_=>rfl) (λx y=>Lib.compareBytes (F[x.1]).name (F[y.1]).name) (U7 λx:Fin F.length=>(F[x.1]).name) 254 #[.pointer (some ⟨d_,0,none⟩)] b 0 cap ds.toArray w
   ND (λm os afJ NE x y=>(afD d_ Fi o F.length NC x.1 y.1 ⟨⟨(F[x.1]).name⟩⟩ ⟨⟨(F[y.1]).name⟩⟩ _ (Ny _ _ _ _ _ _ _ IH afI) x.2 y.2
    (Ny _ _ _ _ _ _ _ Va (Fj x)) (Ny _ _ _ _ _ _ _ Va (Fj y))))
   (λj ad=>by
    have gm:j<ds.length:=by simpa using ad
    obtain⟨Q,a8,cN,_⟩:=hcells j (encI ds[j].1) (by simp[gm]);refine⟨?_,by simp[World.frozen?,G]⟩;rw[h4 ds j gm];simp only[World.cell?,G,avu]
    simp[a8,cN.fC,IE]) (ij G) auE
  subst X;have hsz:(ds.map λx=>encI x.1).length=ds.toArray.size:=by simp
  have fw:∀(xs:List D),aJ.es (.row (.slice (some ⟨b,0,none⟩) (ds.map λx=>encI x.1).length cap) xs 1 3) b:=λxs=>⟨_,cap,rfl,hcap⟩;have ue:=hH.cQ 2001 _ b rfl (fw _);have afK:=hH.cQ 2000 _ d_ rfl rfl;rw[hsz]at fw⊢;refine Fk.mono ?_;rintro e w' ⟨rfl,d',m,os,aw,hs,rfl⟩;obtain⟨hj,_,pG⟩:=aw;have jG:d'.toList.length=ds.length:=by simpa using hj
  have a1:=de.ID (IE F.length) w C b 0 m d' os da;refine⟨.tuple #[],.bm [],C,_,rfl,⟨rfl,d'.toList,?_,?_,rfl⟩,.bm [] [] rfl (λi d v O _=>by simp at O),?_,⟨λs o ag=>?_,λs bp o bN x aZ h1 A au c0=>?_,λs o x ag au=>?_⟩⟩
  ·have bZ:(d'.extract 0 ds.toArray.size).toList=d'.toList:=by rw[<-hj];simp
   have b0:(ds.toArray.extract 0 ds.toArray.size).toList=ds:=by simp
   rw[bZ,b0]at pG;exact pG
  ·intro i j hi ad d6;have e2:=hs i j (au7 _) d6 (by rw[<-hj];simpa using ad);rw[Nz λx:Fin F.length=>(F[x.1]).name]at e2;have g1:d'[j]! = d'.toList[j]:=by rw[getElem!_pos d' j (by simpa using ad)];simp
   have fI:d'[i]! = d'.toList[i]:=by rw[getElem!_pos d' i (by simpa using hi)];simp
   rw[g1,fI]at e2;exact e2
  ·exact⟨a1.ext,a1.os,a1.tape,a1.output,λx J bK=>a1.iB x J λe=>by subst e;exact bK ue⟩
  ·rcases IF ag with⟨rfl,rfl⟩|⟨rfl,rfl⟩
   ·have Vb:∀x∈d'.toList.map (λx=>encI x.1),x.cells=[x]:=λx J=>by obtain⟨y,_,rfl⟩:=au_.1 J;rfl
    refine⟨some ⟨b,0,none⟩,cap,by simp[hj],by simp only[auS]at hc⊢;omega,hm,λx J=>by rw[Vb x J];rfl,λdT gR=>⟨b,by cases gR;rfl,avx (ij G) a1.ext.size⟩,
     λ_=>⟨b,_,rfl,IC _ _ _ _ _ _ _ G,azo,da,λj d O=>?_⟩⟩
    rw[rM Vb]at O;have ad:j<d'.size:=by have:=fu O;simpa using this
    have Ap:j<vs.size:=by have:=hj;simp at this gc hc;omega
    have Fl:d=encI d'[j].1:=by simp[ad]at O;exact O.symm
    subst Fl;refine⟨IE F.length d'[j],?_,.int _ _,rfl⟩;simp only[putCells,axw,awd Ap,av5,au7,true_and,avu,ad,avV,Nat.sub_zero];rw[getElem!_pos d' j ad]
   exact(hH.cl 2000 _ rfl).iB a1.ext λx J=>a1.iB x (by cases J;exact ij nV) (by cases J;exact IH)
  ·rcases IF h1 with⟨rfl,rfl⟩|⟨rfl,rfl⟩<;>rcases IF A with⟨rfl,rfl⟩|⟨rfl,rfl⟩
   ·exact aZ rfl
   ·obtain⟨dK,tP,f1,_⟩:=au;have:=pf f1;subst this
    exact IH c0.symm
   ·obtain⟨dK,tP,f1,_⟩:=c0;have:=pf f1;subst this
    exact IH au.symm
   exact aZ rfl
  rcases IF ag with⟨rfl,rfl⟩|⟨rfl,rfl⟩
  ·obtain⟨dK,tP,f1,_⟩:=au;have:=pf f1;subst this
   exact .inl ue
  cases au;exact .inl afK
def w8(L:List Int):List Int:=L.mergeSort λx y=>decide (x<=y)
theorem II{a:Nat}{o:aJ}{s:Nat}(h:aM [(a,dj)] s=some o):s=a/\o=dj:=ayv
theorem NF(L:List Int):∀x∈bo L,x.cells=[x]:=λx J=>azu
variable{Ft:Nat->Prop}{w:World}{C:Nat->Nat}{cap:Nat}
theorem Vc{L ai:List Int}(hH:mc Ft w C (aM [(2000,.row (.slice (some ⟨b,0,none⟩) L.length cap) (bo L) 1 3)]))(h0:0<L.length)(gT:ai.length=L.length)(q:Nat)(os:Array Obj)(m:Nat)(hm:m<=L.length):
  de Ft w C (sortWorld (Value.int .i64) w b 0 q ai.toArray os) C/\mc (λx=>Ft x\/w.heap.size<=x) (sortWorld (Value.int .i64) w b 0 q ai.toArray os) C (aM [(2000,.row (.slice (some ⟨b,0,none⟩) m cap) (bo (ai.take m)) 1 3)]):=by
 have fe:∀ai:List Int,(bo ai).length=ai.length:=λai=>by simp[bo]
 have dQ:ks w C (.slice (some ⟨b,0,none⟩) L.length cap) (bo L) 1 3:=hH.cl 2000 _ rfl;obtain⟨ey,iF,vs,dU,hc,BH,Z,G,gc,da,hcells⟩:=ks.pos dQ (i:=0) (by rw[fe];omega);simp only[Value.slice.injEq,avi,Addr.mk.injEq]at dU;obtain⟨⟨rfl,_⟩,_,rfl⟩:=dU;rw[fe]at hc;have ue:=hH.cQ 2000 _ b rfl ⟨_,cap,rfl,by omega⟩;have a1:=de.ID (Value.int .i64) w C b 0 q ai.toArray os da;have gs:(ai.take m).length=m:=by rw[au9];omega
 refine⟨⟨a1.ext,a1.os,a1.tape,a1.output,λx J bK=>a1.iB x J λe=>by subst e;exact bK ue⟩,⟨λs mN ag=>?_,λs bp mN asD x aZ h1 A au c0=>?_,λs mN x ag au=>?_⟩⟩
 ·obtain⟨rfl,rfl⟩:=II ag
  refine⟨some ⟨b,0,none⟩,cap,by rw[fe,gs],by rw[fe,gs];omega,BH,λx J=>by rw[NF _ x J];rfl,λdT gR=>⟨b,by cases gR;rfl,avx (ij G) a1.ext.size⟩,
   λ_=>⟨b,_,rfl,IC _ _ _ _ _ _ _ G,azo,da,λj d O=>?_⟩⟩
  rw[Go.bV.rM (NF _)]at O;have ad:j<m:=by have:=fu O;rwa [fe,gs]at this
  have NG:j<ai.length:=auD
  have Ap:j<vs.size:=by simp at gc;omega
  have Fl:d=.int .i64 ai[j]:=by simp[bo,ad,NG]at O;exact O.symm
  subst Fl;refine⟨.int .i64 ai[j],?_,.int _ _,rfl⟩;simp only[putCells,axw,awd Ap,av5];rw[auO ⟨au7 _,by simpa using NG⟩,Nat.sub_zero,getElem!_pos ai.toArray j (by simpa using NG)];rfl
 ·obtain⟨rfl,_⟩:=II h1;obtain⟨rfl,_⟩:=II A;exact aZ rfl
 obtain⟨rfl,rfl⟩:=II ag;obtain⟨dK,tP,f1,_⟩:=au;have:=pf f1;subst this
 exact .inl ue
theorem Vd{a:Option Addr}{L:List Int}(hH:mc Ft w C (aM [(2000,.row (.slice a L.length cap) (bo L) 1 3)]))(h0:0<L.length):
  ∃b,a=some ⟨b,0,none⟩/\b<w.heap.size/\L.length<=cap/\Holds (Value.int .i64) w b 0 L.toArray:=by
 have fe:∀ai:List Int,(bo ai).length=ai.length:=λai=>by simp[bo]
 have dQ:ks w C (.slice a L.length cap) (bo L) 1 3:=hH.cl 2000 _ rfl;obtain⟨b,iF,vs,dU,hc,BH,Z,G,gc,da,hcells⟩:=ks.pos dQ (i:=0) (by rw[fe];omega);simp only[Value.slice.injEq]at dU;obtain⟨rfl,_,rfl⟩:=dU;rw[fe]at hc;rw[Go.bV.rM (NF _)]at hcells;refine⟨b,rfl,ij G,hc,λj ad=>?_⟩;have gm:j<L.length:=by simpa using ad
 obtain⟨Q,a8,cN,_⟩:=hcells j (u L[j]) (by simp[bo,gm]);refine⟨?_,by simp[World.frozen?,G]⟩;have aS:L.toArray[j]! = L[j]:=by simp[gm]
 rw[aS];simp only[World.cell?,G,avu];simp[a8,cN.fC]
theorem Fm(L:List Int):(w8 L).length=L.length:=axv _
theorem afL(L:List Int)(a:Option Addr)(n cap:Nat)(ar:n=L.length)(aj:L.length<1000000): c4 B 49 [.am (.slice a n cap)] (aM [(2000,.row (.slice a n cap) (bo L) 1 3)]) λd aO=>d=.bm []/\aO=aM [(2000,.row (.slice a n cap) (bo (w8 L)) 1 3)]:=by subst ar;refine⟨jt Tryz.func49 rfl auH,λw C args Ft p5 qE hH af=>?_⟩;obtain⟨nA,af⟩:=af;match args,nA with|[a0],_ =>have h1:=(af 0 _ a0 rfl rfl).gh;subst h1;rcases avA L.length with h0|h0;have aX:L=[]:=au1 h0;subst aX;refine(Tryz.slices_Sort_int_none a cap w).mono ?_;rintro e w' ⟨rfl,rfl⟩;refine⟨.tuple #[],.bm [],C,_,rfl,⟨rfl,rfl⟩,.bm [] [] rfl (λi d v O _=>by simp at O),.refl _ _ _,?_⟩;rw[show w8 []=[] by simp[w8]];exact⟨hH.cl,hH.inj,λs mN x ag au=>.inl (hH.cQ s mN x ag au)⟩;obtain⟨b,rfl,G,hc,cA⟩:=Vd hH h0;refine(Tryz.slices_Sort_int b 0 cap L w cA G auD).mono ?_;rintro e w' ⟨rfl,q,os,rfl⟩;obtain⟨h1,A⟩:=Vc hH h0 (Fm L) q os L.length (auW _);rw[ave (by rw[Fm];exact auW _)]at A;exact⟨.tuple #[],.bm [],C,_,rfl,⟨rfl,rfl⟩,.bm [] [] rfl (λi d v O _=>by simp at O),h1,A⟩
theorem afM(L:List Int):(Lib.compact L).length<=L.length:=by rw[Lib.compact,Lib.compactUpTo,auS];have:=avn (Lib.keeps L.toArray) (List.range L.length);simpa using this
theorem afN(L:List Int)(a:Option Addr)(n cap:Nat)(ar:n=L.length)(aj:L.length<1000000): c4 B 50 [.am (.slice a n cap)] (aM [(2000,.row (.slice a n cap) (bo L) 1 3)]) λd aO=>∃m,m=(Lib.compact L).length/\d=.am (.slice a m cap)/\aO=aM [(2000,.row (.slice a m cap) (bo (Lib.compact L)) 1 3)]:=by subst ar;refine⟨jt Tryz.func50 rfl auH,λw C args Ft p5 qE hH af=>?_⟩;obtain⟨nA,af⟩:=af;match args,nA with|[a0],_ =>have h1:=(af 0 _ a0 rfl rfl).gh;subst h1;rcases avA L.length with h0|h0;have aX:L=[]:=au1 h0;subst aX;refine(Tryz.slices_Compact_int_empty a cap w).mono ?_;rintro e w' ⟨rfl,rfl⟩;refine⟨_,_,C,_,rfl,⟨_,rfl,rfl,rfl⟩,.am _,.refl _ _ _,?_⟩;exact⟨hH.cl,hH.inj,λs mN x ag au=>.inl (hH.cQ s mN x ag au)⟩;obtain⟨b,rfl,G,hc,cA⟩:=Vd hH h0;refine(Tryz.slices_Compact_int b 0 cap L w cA auD hc).mono ?_;rintro e w' ⟨rfl,q,rfl⟩;have lm:=afM L;obtain⟨h1,A⟩:=Vc (ai:=Lib.compact L++List.replicate (L.length-(Lib.compact L).length) 0) hH h0 auE q #[] (Lib.compact L).length lm;rw[List.take_left'  rfl]at A;(have bZ:sortWorld (Value.int .i64) w b 0 q (Lib.compact L++List.replicate (L.length-(Lib.compact L).length) 0).toArray #[]=putRow (Value.int .i64) (Sort.ahead w q) b 0 (Lib.compact L++List.replicate (L.length-(Lib.compact L).length) 0).toArray:=by rw[sortWorld,grow_empty]);rw[bZ]at h1 A;exact⟨_,_,C,_,rfl,⟨_,rfl,rfl,rfl⟩,.am _,h1,A⟩
theorem Ve(ch:List nr)(h:ch.length<1000000000):aT B 86 [.T .none 2 (ch.map cW)] (.T .none 2 (ch.map cW)):=by refine bB Tryz.func86 Tryz.ntmps86 λW=>?_;apply b1;apply n0;refine Y.Ef aN ?_;(conv=>whnf);refine .inr (ah.L' (bJ:=147) aN rfl rfl rfl λk4 pj=>?_);refine aI _ rfl ?_ ?_<;>intro hc;refine gp ?_;have p2:=pj hc;rw[p2];exact ap.nil;apply ci;refine cc ?_;refine oJ ?_;refine⟨by show(0+(ch.map cW).length)*32<=_;simp;omega,by show 0+(ch.map cW).length<=_;simp;omega,auK,λv=>?_⟩;refine hz ?_;exact ap.trans (ap.of_eq (auP (D.T _ 2) (av4 _))) ap.mf
def uf(dv:List U)(vs:Array Value)(p:Fin dv.length):List Value:=.string ⟨⟨(dv[p.1]).name⟩⟩::(List.range 11).map λc=>vs.getD (p.1*12+(c+1)) undef
theorem Vf(dv:List U)(vs:Array Value)(p:Fin dv.length):(uf dv vs p).length=12:=rfl
theorem afO(n:U):(az n).cells.length=12:=rfl
theorem NH{dv:List U}{vs:Array Value}(h:∀(j:Nat) d,(b4 (dv.map az))[j]?=some d->∃ao,vs[j]?=some ao/\bh w C d ao/\ao.oneCell'=true)(p:Fin dv.length){c:Nat}(hc:c<12): ∃d ao,(az dv[p.1]).cells[c]?=some d/\vs[p.1*12+c]?=some ao/\bh w C d ao/\ao.oneCell'=true/\(uf dv vs p)[c]?=some ao:=by(have Z:∀x∈dv.map az,x.cells.length=12:=λx J=>azu);(have J:(dv.map az)[p.1]?=some (az dv[p.1]):=by simp);obtain⟨d,O⟩:=lU (l:=(az dv[p.1]).cells) (i:=c) (by rw[afO];exact hc);obtain⟨ao,h1,A,aa⟩:=h (p.1*12+c) d (by rw[wD Z J hc];exact O);refine⟨d,ao,O,h1,A,aa,?_⟩;cases c with|zero =>(have:d=.N (dv[p.1]).name:=by cases O;rfl);subst this;rw[A.kS];rfl|succ c =>simp only[uf,List.getElem?_cons_succ,au',List.getElem?_range (show c<11 by omega),av5];simp[aws,h1]
theorem afP(dv:List U)(ar:0<dv.length)(hlen:dv.length<1000000)(v:Value):
  c4 B 350 [.am v,.fn (.func 351) [] []] (aM [(2001,.row v (dv.map az) 12 44)]) λd aO =>
   d=.bm []/\∃Aq:List U,Aq.Perm dv/\(∀(i j:Nat) (hi:i<Aq.length) (ad:j<Aq.length),i<j->Op.bytesLess (Aq[j]).name (Aq[i]).name=false)/\aO=aM [(2001,.row v (Aq.map az) 12 44)]:=by
 refine⟨jt Tryz.func350 rfl auH,λw C args Ft p5 qE hH af=>?_⟩;obtain⟨aj,af⟩:=af
 match args,aj with
 |[a0,gn],_ =>
  have h0:=(af 0 _ a0 rfl rfl).gh;obtain⟨fN,hr,h1,A,aa⟩:=(af 1 _ gn rfl rfl).uX;subst h0;have NB:fN=[]:=au1 A.1.symm;have sL:hr=[]:=au1 aa.1.symm;subst NB sL h1;have dQ:ks w C a0 (dv.map az) 12 44:=hH.cl 2001 _ rfl;obtain⟨b,cap,vs,X,hc,hm,Z,G,gc,da,hcells⟩:=ks.pos dQ (i:=0) (by simpa using ar);have hcap:0<cap:=by simp at hc;omega
  haveI:Inhabited (Fin dv.length):=⟨⟨0,ar⟩⟩
  have ND:∀args w,(callFunc 351 args).run Tryz.prog w=.ok (.enter 351 args) w:=λargs w=>by
   obtain⟨fn,jm,rF,kY⟩:=jt Tryz.func351 rfl auH;have oN:fn.body.isNone=false:=by cases G:fn.body<;>simp[G]at rF⊢
   simp only[callFunc,Sem.run_bind,run_program,Result.andThen_ok,jm,kY,oN,avT,awq,Sem.run_pure]
  have jG:(Array.ofFn (n:=dv.length) id).size=dv.length:=by simp
  have afQ:∀(p:Nat) (aw:p<dv.length),(Array.ofFn (n:=dv.length) id)[p]! = ⟨p,aw⟩:=λp aw=>by
   rw[getElem!_pos _ p (by simpa using aw)];simp
  have Vg:∀(d:Array (Fin dv.length)) (j:Nat),j<d.size*12->(flatK (uf dv vs) 12 d)[j]! = ((uf dv vs d[j/12]!)[j%12]!):=λd j ad=>get_flatK _ _ _ _ ad
  have Fk:=AnyQ.slices_SortFunc Tryz.laysSlF0_f350 12 (λw=>by kernel_rfl) (λw=>by kernel_rfl) (uf dv vs) (Vf dv vs) (λp ao au=>by
    obtain⟨c,NI⟩:=avd.1 au;have afR:c<12:=by have:=fu NI;rwa [Vf]at this
    obtain⟨d,afS,_,_,_,hP,sQ⟩:=NH hcells p afR
    rw[sQ]at NI;cases NI;exact hP)
   (λx y=>Lib.compareBytes (dv[x.1]).name (dv[y.1]).name) (U7 λx:Fin dv.length=>(dv[x.1]).name) 351 #[] b 0 cap (Array.ofFn (n:=dv.length) id) w ND
   (λm os afJ NE x y=>afC ⟨⟨(dv[x.1]).name⟩⟩ ⟨⟨(dv[y.1]).name⟩⟩ _ _ _ _ _ _ _ _ _ _ _ _ _ _ _ _ _ _ _ _ _ _ _)
   (λj ad=>by
    rw[size_flatK,jG]at ad;have aw:j/12<dv.length:=auD
    obtain⟨d,ao,_,cN,_,_,sQ⟩:=NH hcells ⟨j/12,aw⟩ (c:=j%12) auD;have gm:j/12*12+j%12=j:=auD
    rw[gm]at cN;refine⟨?_,by simp[World.frozen?,G]⟩;rw[Vg _ j (by rw[jG];exact ad),afQ _ aw];simp only[World.cell?,G,avu,id];rw[cN];congr 1
    simp[sQ,List.getElem!_eq_getElem?_getD]) (ij G) (by rw[jG];omega)
  subst X;have hsz:(dv.map az).length=(Array.ofFn (n:=dv.length) id).size:=by simp
  have fw:∀(xs:List D),aJ.es (.row (.slice (some ⟨b,0,none⟩) (dv.map az).length cap) xs 12 44) b:=λxs=>⟨_,cap,rfl,hcap⟩;have ue:=hH.cQ 2001 _ b rfl (fw _);rw[hsz]at fw⊢;refine Fk.mono ?_;rintro e w' ⟨rfl,d',m,os,aw,hs,rfl⟩;obtain⟨hj,_,pG⟩:=aw;have afT:d'.size=dv.length:=by rw[hj,jG]
  have a1:de (λx=>x=b) w C (sortWorldK (uf dv vs) 12 w b 0 m d' os) C:=de.ID id w C b 0 m (flatK (uf dv vs) 12 d') os da;have afU:(sortWorldK (uf dv vs) 12 w b 0 m d' os).heap[b]?=some (.cells (putCells id 0 (flatK (uf dv vs) 12 d') vs) 44 (0,0)):=IC id w b 0 m (flatK (uf dv vs) 12 d') os G
  have IJ:∀{s o} (l:aJ),aM [(2001,l)] s=some o->s=2001/\o=l:=λ{s o} l h=>by
   simp only[aM]at h
   cases h1:Nat.beq s 2001 with
   |true=>rw[h1]at h;cases h;exact⟨avb h1,rfl⟩
   |false=>rw[h1]at h;cases h
  have afV:d'.toList.Perm (List.finRange dv.length):=by
   have bZ:(d'.extract 0 (Array.ofFn (n:=dv.length) id).size).toList=d'.toList:=by rw[<-hj];simp
   have b0:((Array.ofFn (n:=dv.length) id).extract 0 (Array.ofFn (n:=dv.length) id).size).toList=List.finRange dv.length:=by
    simp only[Array.extract_size,Array.toList_ofFn];rfl
   rw[bZ,b0]at pG;exact pG
  have afW:(List.finRange dv.length).map (λp=>dv[p.1])=dv:=by
   apply av2;intro j;by_cases ad:j<dv.length
   ·simp[ad]
   simp[au0 (Nat.le_of_not_lt ad)];omega
  refine⟨.tuple #[],.bm [],C,_,rfl,⟨rfl,d'.toList.map (λp=>dv[p.1]),?_,?_,rfl⟩,.bm [] [] rfl (λi d v O _=>by simp at O),?_,⟨λs o ag=>?_,λs bp o bN x aZ h1 A au c0=>?_,λs o x ag au=>?_⟩⟩
  ·have:=afV.map λp=>dv[p.1]
   rwa [afW]at this
  ·intro i j hi ad d6;have ls:i<d'.size:=by simpa using hi
   have gm:j<d'.size:=by simpa using ad
   have e2:=hs i j (au7 _) d6 (by rw[<-hj];exact gm);rw[Nz λx:Fin dv.length=>(dv[x.1]).name]at e2;rw[getElem!_pos d' j gm,getElem!_pos d' i ls]at e2;simpa using e2
  ·exact⟨a1.ext,a1.os,a1.tape,a1.output,λx J bK=>a1.iB x J λe=>by subst e;exact bK ue⟩
  ·obtain⟨rfl,rfl⟩:=IJ _ ag;have fv:∀x∈(d'.toList.map (λp=>dv[p.1])).map az,x.cells.length=12:=λx J=>by obtain⟨y,_,rfl⟩:=au_.1 J;rfl
   refine⟨some ⟨b,0,none⟩,cap,by simp[afT],by simp at hc⊢;omega,hm,fv,λdT gR=>⟨b,by cases gR;rfl,avx (ij G) a1.ext.size⟩,
    λ_=>⟨b,_,rfl,afU,azo,da,λj d O=>?_⟩⟩
   have ad:j<d'.size*12:=by have:=fu O;rw[qx fv]at this;simpa using this
   have I:j/12<d'.size:=auD
   have Ap:j<vs.size:=by rw[gc];simp at hc;omega
   have J:((d'.toList.map (λp=>dv[p.1])).map az)[j/12]?=some (az dv[(d'[j/12]).1]):=by simp[I]
   have afX:j/12*12+j%12=j:=auD
   have rY:=wD fv J (j:=j%12) auD;rw[afX,O]at rY;obtain⟨d2,ao,a8,cN,e2,f1,hP⟩:=NH hcells d'[j/12] (c:=j%12) auD;rw[a8]at rY;cases rY
   refine⟨ao,?_,e2.ext a1.ext,f1⟩;simp only[putCells,axw,awd Ap,av5,au7,true_and,avu,size_flatK,ad,avV,Nat.sub_zero,id];rw[Vg d' j ad,getElem!_pos d' _ I];simp[hP,List.getElem!_eq_getElem?_getD]
  ·obtain⟨rfl,rfl⟩:=IJ _ h1;obtain⟨rfl,rfl⟩:=IJ _ A;exact aZ rfl
  obtain⟨rfl,rfl⟩:=IJ _ ag;obtain⟨dK,tP,f1,_⟩:=au;have:=pf f1;subst this
  exact .inl ue
variable{i j:Nat}
theorem pI{l:List U}(h:f3 l)(d6:i<j)(ad:j<l.length):Op.bytesLess (l[i]' auD).name (l[j]).name=true:=by have:=afB h d6 ad;simpa[List.getD,ad,show i<l.length by omega]using this
theorem afY{l:List U}(h:f3 l):l.Pairwise λa b=>Op.bytesLess b.name a.name=false :=
 avU.2 λi j hi ad d6=>Fe (pI h d6 ad)
theorem NJ{l h7:List U}(h:f3 l)(aw:h7.Perm l)(hs:∀(i j:Nat) (hi:i<h7.length) (ad:j<h7.length),i<j->Op.bytesLess (h7[j]).name (h7[i]).name=false):h7=l:=by refine axc (le:=λa b=>Op.bytesLess b.name a.name=false) (λa b ha G h1 A=>?_) (avU.2 λi j hi ad d6=>hs i j hi ad d6) (afY h) aw;have kY:=w6 _ _ A h1;obtain⟨i,hi,rfl⟩:=avm.1 (aw.subset ha);obtain⟨j,ad,rfl⟩:=avm.1 G;rcases awX i j with e|e|e;exact absurd kY (q2 (pI h e ad));subst e;rfl;exact absurd kY.symm (q2 (pI h e hi))
variable{F:List U}
theorem afZ(h:f3 F){l:List (Fin F.length)}(aw:l.Perm (List.finRange F.length))(hs:∀(i j:Nat) (hi:i<l.length) (ad:j<l.length),i<j->Op.bytesLess (F[l[j].1]).name (F[l[i].1]).name=false):l=List.finRange F.length:=by refine axc (le:=λa b=>Op.bytesLess (F[b.1]).name (F[a.1]).name=false) (λa b ha G h1 A=>?_) (avU.2 λi j hi ad d6=>hs i j hi ad d6) ((List.pairwise_lt_finRange _).imp λ{a b} nW=>Fe (pI h nW b.2)) aw;have kY:=w6 _ _ A h1;rcases awX a.1 b.1 with e|e|e;exact absurd kY (q2 (pI h e b.2));exact Fin.ext e;exact absurd kY.symm (q2 (pI h e a.2))
def eA(n:Nat):List D:=(List.range n).map λi=>u (i:Nat)
theorem NK(n:Nat):(List.finRange n).map (λx=>encI x.1)=eA n:=by apply av2;intro j;by_cases ad:j<n;simp[eA,encI,ad];rw[au0 auE,au0 (by simp[eA];omega)]
theorem Vh(F:List U)(h:f3 F)(hlen:F.length<1000000)(d_:Nat)(v:Value): c4 B 253 [.am v,.fn (.func 254) [] [.box 2000 d_ 0]] (aM [(2001,.row v (eA F.length) 1 3),(2000,.box d_ [.T .none 12 (F.map enc)])]) λd aO => d=.bm []/\aO=aM [(2001,.row v (eA F.length) 1 3),(2000,.box d_ [.T .none 12 (F.map enc)])]:=by by_cases h0:0<F.length;have hc:=U9 (B:=B) F h0 hlen d_ v (List.finRange F.length) (by simpa using h0) (by simpa using hlen);rw[NK]at hc;refine hc.mono ?_;rintro d aO ⟨rfl,kV,aw,hs,rfl⟩;rw[afZ h aw hs,NK];exact⟨rfl,rfl⟩;(have ar:F.length=0:=by omega);rw[ar];exact U8 v _ _
variable{f:FuncId}{ds:List D}{a6:D->bH->Prop}{k:Nat}
theorem _root_.Go.bV.c8.Vi{H:bH}{s:Nat}{o:aJ}(h:H s=some o)(hc:c4 B f ds (aM [(k,o)]) a6):c4 B f ds (gy H [(k,s)]) a6:=ayt
theorem af0:∀(l:List Int),l.length<=3->l.Pairwise (·<=·)->(Lib.compact l).Pairwise (·<·)/\∀x,x∈Lib.compact l↔x∈l
 |[],_,_=>by simp[Lib.compact,Lib.compactUpTo]
 |[a],_,_=>by simp[Lib.compact,Lib.compactUpTo,Lib.keeps,awh]
 |[a,b],_,h=>by simp at h;by_cases h1:a=b;subst h1;simp[Lib.compact,Lib.compactUpTo,Lib.keeps,awh];have:¬b=a:=λe=>h1 e.symm;simp[Lib.compact,Lib.compactUpTo,Lib.keeps,awh,avJ,h1,this];omega
 |[a,b,c],_,h=>by simp at h;by_cases h1:b=a<;>by_cases A:c=b;subst h1;subst A;simp[Lib.compact,Lib.compactUpTo,Lib.keeps,awh,avJ];subst h1;simp[Lib.compact,Lib.compactUpTo,Lib.keeps,awh,avJ,A];omega;subst A;simp[Lib.compact,Lib.compactUpTo,Lib.keeps,awh,avJ,h1];omega;simp[Lib.compact,Lib.compactUpTo,Lib.keeps,awh,avJ,h1,A];omega
 |_::_::_::_::_,h,_=>by simp at h
theorem af1{a b:List Int}(ha:a.Pairwise (·<·))(G:b.Pairwise (·<·))(h:∀x,x∈a↔x∈b):a=b:=by
 have IK:a.Nodup:=ha.imp λh=>by omega
 have k4:b.Nodup:=G.imp λh=>by omega
 exact axc (le:=λx y:Int=>x<y) (λx y _ _ h1 A=>by omega) ha G ((List.perm_ext_iff_of_nodup IK k4).2 h)
theorem af2(l:List Int):(w8 l).Pairwise (·<=·):=by have:=axj (le:=λx y:Int=>decide (x<=y)) (λx y Q h1 A=>by simp only[avp]at*;omega) (λx y=>by simp only[av3,avp];omega) l;exact this.imp λh=>by simpa using h
theorem af3(l:List Int)(x:Int):x∈w8 l↔x∈l:=(axF l _).mem_iff
def qg(S L:Int):List Int:=[S+256,L-256,L]
def Cr(S L k:Int):Bool:=bif decide (S<=k)then decide (k<=L)else false
def qh(S L:Int)(i:Nat):List Int:=((qg S L).take i).filter (Cr S L)
theorem Vj(S L:Int)(i:Nat):(qh S L i).length<=3:=by have h1:=avn (Cr S L) ((qg S L).take i);rw[au9]at h1;have:(qg S L).length=3:=rfl;have A:(qh S L i).length<=_:=h1;omega
theorem af4(S L:Int)(h:i<(qg S L).length):qh S L (i+1)=qh S L i++(if Cr S L ((qg S L)[i]'h)=true then[(qg S L)[i]'h]else[]):=by rw[qh,auU h,av7,<-qh,avJ,List.filter_nil]
theorem af5(S L:Int)(n:Nat):(Cm S L n).Pairwise (·<·):=by rw[Cm];refine List.Pairwise.sublist List.filter_sublist ?_;rw[awk];exact(List.pairwise_lt_range).imp λh=>by omega
theorem af6{S C:Int}(h:yv S C=true):Lib.compact (w8 (qh S (S+C-1) 3))=yw S C:=by obtain⟨h1,A,aa,aF⟩:=Ni.1 h;obtain⟨a8,cN⟩:=af0 (w8 (qh S (S+C-1) 3)) (by rw[Fm];exact Vj _ _ _) (af2 _);rw[yw,auO h];refine af1 a8 (af5 _ _ _) λx=>?_;rw[cN,af3,qh,Cm,avy,avy,au_];(have Z:Cr S (S+C-1) x=true↔S<=x/\x<=S+C-1:=by unfold Cr;cases e2:decide (S<=x)<;>simp at e2<;>simp<;>omega);(have hc:Iz S (S+C-1) x=true↔x=S+256\/x=S+C-1-256\/x=S+C-1:=by unfold Iz;cases e2:x==S+256<;>cases f1:x==S+C-1-256<;>simp at e2 f1<;>simp<;>omega);rw[Z,hc];(have hm:x∈(qg S (S+C-1)).take 3↔x=S+256\/x=S+C-1-256\/x=S+C-1:=by simp[qg]);rw[hm];constructor;rintro⟨e2,f1,hP⟩;exact⟨⟨(x-S).toNat,awa.2 auD,by omega⟩,e2⟩;rintro⟨⟨j,ad,rfl⟩,e2⟩;have:=awa.1 ad;exact⟨e2,by omega,by omega⟩
def NL(S C:Int):Bool:=bif (bif (bif decide (S<0)then true else decide (C<1))then true else decide (4096<S))then true else decide (4096-S<C)
theorem Vk(S C:Int):NL S C=!yv S C:=by unfold NL yv;cases h1:decide (S<0)<;>cases A:decide (C<1)<;>cases aa:decide (4096<S)<;>cases aF:decide (4096-S<C)<;>simp at h1 A aa aF<;>simp<;>omega
theorem af7(S C:Int):aT B 16 [vz (S,C),.bool false] (.T .none 1 (bo (yw S C))):=by refine bB Tryz.func16 Tryz.ntmps16 λW=>?_;refine cc ?_;intro ca;refine oK ?_;refine h6 ?_;refine il ?_;refine h6 ?_;refine il ?_;refine h6 ?_;refine h6 ?_;refine mR ?_;refine .inl ⟨λh=>by simp only[dz];revert h;cases h1:decide (S<0)<;>cases A:decide (C<1)<;>cases aa:decide (4096<S)<;>simp<;>simp at h1 A aa<;>omega,?_⟩;refine go ?_;refine aI (NL S C) rfl ?_ ?_<;>intro hc;refine go ?_;(have h:¬yv S C=true:=by rw[Vk]at hc;simpa using hc);rw[yw,auN h];exact ap.nil;apply ci;(have h:yv S C=true:=by rw[Vk]at hc;simpa using hc);obtain⟨h1,A,aa,aF⟩:=Ni.1 h;apply b1;(conv=>whnf);refine dc ?_;apply b1;(conv=>whnf);refine dc ?_;refine Y.k0 (α:=Unit) (λx=>[(2,.box 2 ca 0),(5,u (S+C-1)),(6,.T .none 1 (bo (qg S (S+C-1))))]) (λx=>[(2,.box ca [u S,u C])]) ?_ ?_;apply b1;refine aI false rfl ?_ ?_<;>intro hc;cases hc;refine go ?_;exact⟨(),[(2,2)],⟨E,E,ap.jk _,ak⟩,rfl,a_⟩;rintro⟨⟩;apply b1;refine p9 ?_;refine Y.qF 1000 1 3 ?_;refine go ?_;refine Y.ee (α:={i:Nat // i<=3}×Option Addr×Nat×Nat) (λx=>[(2,.box 2 ca 0),(5,u (S+C-1)),(7,.am (.slice x.2.1 x.2.2.1 x.2.2.2)),(47,.T .none 1 (bo (qg S (S+C-1)))),(48,u 3),(49,u x.1.1)]) (λx=>[(2,.box ca [u S,u C]),(1000,.row (.slice x.2.1 x.2.2.1 x.2.2.2) (bo (qh S (S+C-1) x.1.1)) 1 3)]) (λx=>3-x.1.1) (⟨0,by omega⟩,none,0,0) [(2,2),(1000,1000)] ⟨⟨E,E,ap.rO,E,E,E,ak⟩,rfl,a_⟩ ?_;rintro⟨⟨i,hi⟩,bS,cu,cap⟩;dsimp only at hi⊢;have hx:=Vj S (S+C-1) i;have NM:(qg S (S+C-1)).length=3:=rfl;refine go ?_;refine aI (decide ((i:Int)<3)) rfl ?_ ?_<;>intro hc;refine go ?_;(have aG:i<3:=by have:=avg hc;omega);have IL:i<(qg S (S+C-1)).length:=aG;have c2:=af4 S (S+C-1) IL;(have h4:(bo (qg S (S+C-1)))[i]?=some (.int .i64 ((qg S (S+C-1))[i]'(IL))):=by rw[bo,au',auR IL];rfl);generalize(qg S (S+C-1))[i]'(IL)=hS at*;generalize asE:qh S (S+C-1) i=NN at*;(have fr:(bo NN).length=NN.length:=by simp[bo]);refine go ?_;refine⟨λ_=>by simp[bo];omega,?_⟩;refine go ?_;refine⟨u hS,λ_=>by rw[avq];exact h4,?_⟩;refine go ?_;refine aI (Cr S (S+C-1) hS) rfl ?_ ?_<;>intro hc;refine go ?_;refine .inr (ah.ph aN 1000 rfl rfl rfl auK rfl rfl rfl (awV) (by show(_+1)*8<=_;omega) (by show _+1<=_;omega) λIM Cs IN=>?_);refine go ?_;rw[auO hc]at c2;(have aq:bo NN++[u hS]=bo (qh S (S+C-1) (i+1)):=by rw[c2];simp[bo]);exact⟨(⟨i+1,by omega⟩,IM,Cs,IN),[(2,2),(1000,65)],by show 3-(i+1)<3-i;omega,an,rfl,rfl,rfl,rfl,auP (λQ=>some (aJ.row (.slice IM Cs IN) Q 1 3)) aq,ak⟩;refine go ?_;rw[auN (by rw[hc];decide),avC]at c2;exact⟨(⟨i+1,by omega⟩,bS,cu,cap),[(2,2),(1000,1000)],by show 3-(i+1)<3-i;omega,an,rfl,rfl,rfl,rfl,auP (λQ=>some (aJ.row (.slice bS cu cap) (bo Q) 1 3)) c2.symm,ak⟩;(have cr:i=3:=by have:=ava hc;omega);subst cr;refine Y.B7 1000 rfl λa3 asF X pq x5=>?_;simp only[Value.slice.injEq]at X;obtain⟨rfl,rI,rfl⟩:=X;(have Fo:cu=(qh S (S+C-1) 3).length:=by rw[rI];simp[bo]);refine go ?_;refine .inr (ah.call rfl [.am (.slice bS cu cap)] [(2000,1000)] (c8.Vi rfl (afL (qh S (S+C-1) 3) bS cu cap Fo auD)) rfl an ?_);rintro d aO ⟨rfl,rfl⟩;refine⟨_,E,?_⟩;refine qI ?_;refine .inr (ah.call rfl [.am (.slice bS cu cap)] [(2000,1000)] (c8.Vi rfl (afN (w8 (qh S (S+C-1) 3)) bS cu cap (by rw[Fm];exact Fo) (by rw[Fm];omega))) rfl an ?_);rintro d aO ⟨m,hm,rfl,rfl⟩;rw[af6 h];refine rP ?_;refine Y.fc [(4,.am (.slice bS m cap))] [(1000,.row (.slice bS m cap) (bo (yw S C)) 1 3)] [(1000,1000)] ⟨an,rfl,a_⟩ ?_;refine Y.vp 1000 4 rfl ?_;refine go ?_;exact E
theorem Vl(m:fT)(S C:Int):aT B 39 [im m,vz (S,C)] (.T .none 1 (bo (r4 m S C))):=by refine bB Tryz.func39 Tryz.ntmps39 λW=>?_;refine go ?_;intro ca;refine go ?_;intro el;refine go ?_;refine bq (r0 m.fU 3 auG) ?_;refine aI (!kF m.fU 3) rfl ?_ ?_<;>intro hc;refine go ?_;rw[r4,auN (by simpa using hc)];exact ap.nil;refine go ?_;refine bq (af7 S C) ?_;rw[r4,auO (by simpa using hc)];exact E
structure dl where
 path:auM
 start:Int
 len:Int
def bj(f:dl):D:=.agg [.N f.path,u f.start,u f.len]
structure q3 where
 S:Int
 C:Int
 iS:Int
 iC:Int
 kind:Int
 opn:Bool
 uS:Int
 uC:Int
 recg:Int
 Ar:Int
 pC:Int
 As:List Int
 commit:Int
 spS:Int
 spC:Int
 files:List dl
def l9(l:q3):D:=.agg [u l.S,u l.C,u l.iS,u l.iC,u l.kind,.bool l.opn,u l.uS,u l.uC,u l.recg,u l.Ar,u l.pC,.T .none 1 (bo l.As),u l.commit,u l.spS,u l.spC,.T .none 3 (l.files.map bj)]
theorem NO{l:List dl}(h:i<l.length):(l.map bj)[((i:Int)).toNat]?=some (bj l[i]):=by simp[h]
theorem Vm{l:List Int}(h:i<l.length):(bo l)[((i:Int)).toNat]?=some (.int .i64 l[i]):=by simp[bo,h]
theorem af8(m:fT)(S C:Int):(r4 m S C).length<=C.toNat:=by unfold r4;split;unfold yw;split;exact ae_ _ _ _;simp;simp
theorem af9{m:fT}{S C b:Int}(h:b∈r4 m S C):S<=b/\b<=8192:=by unfold r4 at h;split at h;unfold yw at h;split at h;rename_i h1 A;obtain⟨aa,aF,a8,cN⟩:=Ni.1 A;rw[Cm,avy,au_]at h;obtain⟨⟨j,ad,rfl⟩,_⟩:=h;have:=awa.1 ad;omega;cases h;cases h
end Go.bV.ct

namespace Go.bV.ct
open Go Go.Proofs Go.RowKit Go.ChangeShapes Go.Deep Go.WideShapes Go.ChangeAt
open YtfnpcdbnoggloaaGreatDoor (Rows.uptoBulk Rows.uptoBulkAll)
variable{H:Type}{kG:TypeId×Value->H}{b8:World}
abbrev jw(d:DataW H):Nat:=Rows.uptoBulk d
abbrev At(d:List (DataW H)):Nat:=Rows.uptoBulkAll d
theorem ug{n:Nat}:lp kG Tryz.prog b8 n 9 (λs:auM=>.N s) (λs d=>d=.lit (.string s)/\s.length<=maxLen):=lp.N Tryz.underlying9
theorem oT{n:Nat}:lp kG Tryz.prog b8 n 3 (λi:Int=>u i) (λi d=>d=.lit (Lit.int .i64 i)/\(Lit.int .i64 i).wf=true):=lp.int Tryz.underlying3
theorem Vn{n:Nat}:lp kG Tryz.prog b8 n 4 (λi:Bool=>.bool i) (λi d=>d=.lit (.bool i)):=lp.bool Tryz.underlying4
theorem Vo{α:Type}{m:α->Nat}{c:Nat}:∀{l:List α} {ds:List (DataW H)},ds.length=l.length->(∀(i:Nat) a y,l[i]?=some a->ds[i]?=some y->m a<=c*jw y)->(l.map m).sum<=c*At ds
 |[],[],_,_=>by simp
 |a::l,y::ds,aj,h=>by have h1:=h 0 a y rfl rfl;have A:=Vo (l:=l) (ds:=ds) (by simpa using aj) λi a y aa aF=>h (i+1) a y (by simpa using aa) (by simpa using aF);(have aa:c*At (y::ds)=c*jw y+c*At ds:=by simp only[At,jw,Rows.uptoBulkAll,Nat.mul_add]);rw[aa,avc,axV];omega
variable{α:Type}
theorem NP{m:α->Nat}{c:Nat}{l:List α}{d:DataW H}(h:SR (λa y=>m a<=c*jw y) l d):(l.map m).sum<=c*jw d:=by rcases h with⟨rfl,rfl⟩|⟨ds,sM,rfl,aj,aS⟩;simp;have:=Vo aj aS;(have aa:c*jw (.slice ds sM)=c*At ds+c*At sM+c*1:=by simp only[At,jw,Rows.uptoBulk,Nat.mul_add]);rw[aa];omega
theorem Vp:∀l:List nr,l3 l=(l.map λs=>2+s.name.length+s.target.length).sum
 |[]=>rfl
 |s::r=>by simp only[l3,avc,axV,Vp r]
theorem Vq:∀l:List U,eD l=(l.map λn=>2*n.name.length+2+aB n).sum
 |[]=>by simp[eD]
 |s::r=>by simp only[eD,avc,axV,Vq r]
theorem af_(n:Nat):lp kG Tryz.prog b8 n 147 cW (λs d=>2+s.name.length+s.target.length<=1*jw d):=by intro aD x h;obtain⟨xs,m,rfl,J,lm,ih,M⟩:=HC Tryz.underlying147 auI auI h;match aD,lm,xs,ih with|[mu,ff],_,[Au,Ct],_ =>obtain⟨hC,gW,mi,_⟩:=ug _ _ (M 0 _ _ _ rfl rfl rfl);obtain⟨fb,mw,bZ,_⟩:=ug _ _ (M 1 _ _ _ rfl rfl rfl);refine⟨⟨hC,fb⟩,.cons gW.head (.cons mw.head (.nil _ _)),?_⟩;rw[J];simp only[avc,awp,mi,bZ,jw,Rows.uptoBulk,Rows.uptoBulkAll];omega
theorem Vr:∀(bA n:Nat),n<bA->lp kG Tryz.prog b8 n 44 enc (λs d=>2*s.name.length+2+aB s<=2*jw d)
 |0,n,ar=>absurd ar (av_ _)
 |bA+1,n,ar=>by intro aD x h;obtain⟨xs,m,rfl,J,lm,ih,M⟩:=HC Tryz.underlying44 auI auI h;match aD,lm,xs,ih with|[mu,ff,ea,pJ,s1,vH,w9,w_,Av,Aw,mx,xa],_,[Au,Ct,Fp,Cu,IO,IP,af',aga,asG,asH,Vs,Vt],_ =>obtain⟨hC,gW,mi,_⟩:=ug _ _ (M 0 _ _ _ rfl rfl rfl);obtain⟨fb,mw,bZ,_⟩:=oT _ _ (M 1 _ _ _ rfl rfl rfl);obtain⟨gx,nB,b0,_⟩:=ug _ _ (M 2 _ _ _ rfl rfl rfl);obtain⟨ip,oi,kx,_⟩:=ug _ _ (M 3 _ _ _ rfl rfl rfl);obtain⟨Ax,oU,zT,_⟩:=oT _ _ (M 4 _ _ _ rfl rfl rfl);obtain⟨Ay,vI,BS,_⟩:=oT _ _ (M 5 _ _ _ rfl rfl rfl);obtain⟨Fq,Cv,Es,_⟩:=oT _ _ (M 6 _ _ _ rfl rfl rfl);obtain⟨Fr,Cw,Fs,_⟩:=oT _ _ (M 7 _ _ _ rfl rfl rfl);obtain⟨NQ,agb,agc,_⟩:=oT _ _ (M 8 _ _ _ rfl rfl rfl);obtain⟨NR,agd,age,_⟩:=oT _ _ (M 9 _ _ _ rfl rfl rfl);obtain⟨ae,agf,agh⟩:=lp.slice (enc:=kG) (b8:=b8) (j3:=m) Tryz.underlying41 (k:=12) (f:=enc) auI auD (λa=>by rw[qK];exact⟨rfl,rfl⟩) (λu_ tX=>Vr bA u_ auD) [mx] Vs (M 10 _ mx Vs rfl rfl rfl);obtain⟨ch,agi,Uf⟩:=lp.slice (enc:=kG) (b8:=b8) (j3:=m) Tryz.underlying42 (k:=2) (f:=cW) auI auD (λa=>⟨rfl,rfl⟩) (λu_ _=>af_ u_) [xa] Vt (M 11 _ xa Vt rfl rfl rfl);refine⟨⟨hC,fb,gx,ip,Ax,Ay,Fq,Fr,NQ,NR,ae,ch⟩,?_,?_⟩;rw[qK];exact .cons gW.head (.cons mw.head (.cons nB.head (.cons oi.head (.cons oU.head (.cons vI.head (.cons Cv.head (.cons Cw.head (.cons agb.head (.cons agd.head (.cons agf.head (.cons agi.head (.nil _ _))))))))))));have sQ:=NP agh;have rS:=NP Uf;rw[<-Vq]at sQ;rw[<-Vp]at rS;rw[J];dsimp only;rw[j8];simp only[avc,awp,mi,bZ,b0,kx,zT,BS,Es,Fs,agc,age,jw,Rows.uptoBulk,Rows.uptoBulkAll]at sQ rS⊢;omega
variable{v:Value}
theorem agj{d:DataW H}{p:List MemPlace}{base:Nat}(X:Value.okWide Tryz.prog b8 .any base 44 v)(h:DataW.Trod kG Tryz.prog b8 0 (λ_=>true) true 44 v d p): ∃n:U,bh b8 (vc b8) (az n) v/\2*n.name.length+2+aB n<=2*jw d:=by obtain⟨j3,M⟩:=h;obtain⟨aD,rfl,_⟩:=okWide_struct Tryz.underlying44 X;obtain⟨n,af,aS⟩:=Vr (kG:=kG) (b8:=b8) _ j3 (avt _) _ _ M;rw[qK]at af;obtain⟨l⟩:=aD;exact⟨n,.agg _ _ af.1 af.2,aS⟩
variable{ds:List D}
theorem agk{f:Nat}{args:Array Value}(h:mH Tryz.prog b8 f ds (.bool true))(af:db b8 (vc b8) ds args.toList): Calls Tryz.prog f args b8 λe w'=>e=.returned (.bool true)/\Below b8.heap.size b8 w':=by obtain⟨l⟩:=args;refine(h.2 b8 (vc b8) l (Below.refl _ _) af).mono ?_;rintro e w' ⟨v,aW,rfl,X,hs⟩;rw[X.hY];exact⟨rfl,pV.step (Below.refl _ _) hs λ_ h=>h.elim⟩
theorem agl:laidOutB Tryz.prog=true:=by kernel_rfl
theorem Vu{i_:World}(G:Below b8.heap.size b8 i_){sM:Nat->Bool}:∀{Cx:List TypeId} {vs:List Value} {ds:List (DataW H)} {bP:List MemPlace},(∀t∈Cx,Tryz.prog.readableRec t=true/\t<Tryz.prog.types.size)->DataW.TrodAll kG Tryz.prog b8 0 (λ_=>true) true Cx vs ds bP->(∀x∈bP,x.block<b8.heap.size)->(∀x∈bP,sM x.block=true)->DataW.TrodAll kG Tryz.prog i_ 0 sM true Cx vs ds bP
 |[],[],[],_,_,h,_,_=>h
 |t::Cx,v::vs,d::ds,_,ax,⟨p,q,h1,A,e⟩,bg,nm=>by subst e;exact⟨p,q,adl agl (ax t auY).1 (ax t auY).2 h1 G (λx J=>bg x (by simp[J])) sM (λx J=>nm x (by simp[J])),Vu G (λt h=>ax t (auZ _ h)) A (λx J=>bg x (by simp[J])) (λx J=>nm x (by simp[J])),rfl⟩
def NS:List (String×DataW Unit):=YtfnpcdbnoggloaaGreatDoor.Rows.layoutSpansRow.laid
theorem agm(aX:laidMetH Tryz.prog NS b8)(iG:b8.ShapedOpen Tryz.prog):dk b8:=by have NT:laidMet Tryz.prog NS b8:=aX;refine⟨utf8Tabs_of_reads (ρ:=Tryz.lays260_ren) Tryz.lays260 ⟨by kernel_rfl,by kernel_rfl,by kernel_rfl,by kernel_rfl,by kernel_rfl,by kernel_rfl,by kernel_rfl⟩ (Lib.laidMet.reads NT (.tail _ (.tail _ (.tail _ (.tail _ (.head _)))))) (Lib.laidMet.reads NT (.tail _ (.tail _ (.tail _ (.head _))))),?_,?_⟩;obtain⟨h1,_⟩:=iG;obtain⟨aD,hcs,hsz,dQ⟩:=h1 0 #[.int .i64 0] 3 auH auI;obtain⟨Cx,Nu,_,gg⟩:=dQ auI;(have agn:Cx=[3]:=by(have:Tryz.prog.cellTypes Tryz.prog.depth 3=some [3]:=by kernel_rfl);exact avB (Nu.symm.trans this));subst agn;have h0:aD[0]?=some (aD[0]'(by rw[hsz];decide)):=awd _;obtain⟨ao,au,cD⟩:=gg 0 _ h0;(have c0:ao=3:=by simpa using au.symm);subst c0;(have hc:b8.cell? ⟨0,0,none⟩=some (aD[0]'(by rw[hsz];decide)):=by simp only[World.cell?,hcs];simpa using h0);generalize aD[0]'(by rw[hsz];decide)=v at cD hc;unfold Cell.ok at cD;rw[Tryz.underlying3]at cD;(cases v with|int k n=>obtain⟨rfl,_⟩:=cD;exact⟨n,hc⟩|_=>exact cD.elim);exact Lib.tabIs_of_head (rest:=_) (g:=3) (t:=423) (e:=190) (n:=20) auI auI auI auI auI auI NT.tail.tail
structure ago where
 name:auM
 set:auM
 px:auM
 py:auM
 l2:auM
 Cj:Int
 Ck:Int
 fj:Int
def agp(v:ago):D:=.agg [.N v.name,.N v.set,.N v.px,.N v.py,.N v.l2,u v.Cj,u v.Ck,u v.fj]
theorem agq(d:DataW H):1<=jw d:=by cases d with|lit l=>cases l<;>simp[jw,Rows.uptoBulk]|_=>simp[jw,Rows.uptoBulk]
theorem agr(n:Nat):lp kG Tryz.prog b8 n 140 pw (λ_ d=>2<=1*jw d):=by intro aD x h;obtain⟨xs,m,rfl,J,lm,ih,M⟩:=HC Tryz.underlying140 auI auI h;match aD,lm,xs,ih with|[mu,ff,ea,pJ,s1,vH],_,[Au,Ct,Fp,Cu,IO,IP],_ =>obtain⟨hC,gW,_⟩:=ug _ _ (M 0 _ _ _ rfl rfl rfl);obtain⟨fb,mw,_⟩:=oT _ _ (M 1 _ _ _ rfl rfl rfl);obtain⟨gx,nB,_⟩:=oT _ _ (M 2 _ _ _ rfl rfl rfl);obtain⟨ip,oi,_⟩:=oT _ _ (M 3 _ _ _ rfl rfl rfl);obtain⟨Ax,oU,_⟩:=oT _ _ (M 4 _ _ _ rfl rfl rfl);obtain⟨Ay,vI,_⟩:=Vn _ _ (M 5 _ _ _ rfl rfl rfl);refine⟨⟨hC,fb,gx,ip,Ax,Ay⟩,.cons gW.head (.cons mw.head (.cons nB.head (.cons oi.head (.cons oU.head (.cons vI.head (.nil _ _)))))),?_⟩;rw[J];simp only[jw,Rows.uptoBulk,avc,Rows.uptoBulkAll];have a8:=agq Au.1;simp only[jw]at a8;omega
theorem ags(n:Nat):lp kG Tryz.prog b8 n 31 agp (λv d=>v.name.length+v.set.length+v.px.length+v.py.length+v.l2.length<=jw d):=by intro aD x h;obtain⟨xs,m,rfl,J,lm,ih,M⟩:=HC Tryz.underlying31 auI auI h;match aD,lm,xs,ih with|[mu,ff,ea,pJ,s1,vH,w9,w_],_,[Au,Ct,Fp,Cu,IO,IP,af',aga],_ =>obtain⟨hC,gW,mi,_⟩:=ug _ _ (M 0 _ _ _ rfl rfl rfl);obtain⟨fb,mw,bZ,_⟩:=ug _ _ (M 1 _ _ _ rfl rfl rfl);obtain⟨gx,nB,b0,_⟩:=ug _ _ (M 2 _ _ _ rfl rfl rfl);obtain⟨ip,oi,kx,_⟩:=ug _ _ (M 3 _ _ _ rfl rfl rfl);obtain⟨Ax,oU,zT,_⟩:=ug _ _ (M 4 _ _ _ rfl rfl rfl);obtain⟨Ay,vI,BS,_⟩:=oT _ _ (M 5 _ _ _ rfl rfl rfl);obtain⟨Fq,Cv,Es,_⟩:=oT _ _ (M 6 _ _ _ rfl rfl rfl);obtain⟨Fr,Cw,Fs,_⟩:=oT _ _ (M 7 _ _ _ rfl rfl rfl);refine⟨⟨hC,fb,gx,ip,Ax,Ay,Fq,Fr⟩,.cons gW.head (.cons mw.head (.cons nB.head (.cons oi.head (.cons oU.head (.cons vI.head (.cons Cv.head (.cons Cw.head (.nil _ _)))))))),?_⟩;rw[J];simp only[avc,awp,mi,bZ,b0,kx,zT,BS,Es,Fs,jw,Rows.uptoBulk,Rows.uptoBulkAll];omega
theorem agt(n:Nat):lp kG Tryz.prog b8 n 34 im (λm d=>m.name.length+m.set.length+m.px.length+m.py.length+m.l2.length<=jw d/\2*m.gM.length<=jw d):=by intro aD x h;obtain⟨xs,m,rfl,rfl,aj,ih,M⟩:=DataW.trod_struct Tryz.underlying34 h;(have da:Tryz.prog.cellsOf 34=13:=by kernel_rfl);(have agu:Tryz.prog.cellsOf 31=8:=by kernel_rfl);(have g3:Tryz.prog.cellsOf 3=1:=by kernel_rfl);(have agv:Tryz.prog.cellsOf 32=1:=by kernel_rfl);(have g4:Tryz.prog.cellsOf 4=1:=by kernel_rfl);match aD,aj.trans da,xs,ih with|[mu,ff,ea,pJ,s1,vH,w9,w_,Av,Aw,mx,xa,Cy],_,[Au,Ct,Fp,Cu,IO,IP],_ =>have h0:DataW.trod kG Tryz.prog b8 0 (λ_=>true) true m 31 (List.take (Tryz.prog.cellsOf 31) (List.drop 0 [mu,ff,ea,pJ,s1,vH,w9,w_,Av,Aw,mx,xa,Cy]))=some Au:=M 0 _ rfl;have h1:DataW.trod kG Tryz.prog b8 0 (λ_=>true) true m 3 (List.take (Tryz.prog.cellsOf 3) (List.drop 8 [mu,ff,ea,pJ,s1,vH,w9,w_,Av,Aw,mx,xa,Cy]))=some Ct:=M 1 _ rfl;have A:DataW.trod kG Tryz.prog b8 0 (λ_=>true) true m 3 (List.take (Tryz.prog.cellsOf 3) (List.drop 9 [mu,ff,ea,pJ,s1,vH,w9,w_,Av,Aw,mx,xa,Cy]))=some Fp:=M 2 _ rfl;have aa:DataW.trod kG Tryz.prog b8 0 (λ_=>true) true m 32 (List.take (Tryz.prog.cellsOf 32) (List.drop 10 [mu,ff,ea,pJ,s1,vH,w9,w_,Av,Aw,mx,xa,Cy]))=some Cu:=M 3 _ rfl;have aF:DataW.trod kG Tryz.prog b8 0 (λ_=>true) true m 3 (List.take (Tryz.prog.cellsOf 3) (List.drop 11 [mu,ff,ea,pJ,s1,vH,w9,w_,Av,Aw,mx,xa,Cy]))=some IO:=M 4 _ rfl;have a8:DataW.trod kG Tryz.prog b8 0 (λ_=>true) true m 4 (List.take (Tryz.prog.cellsOf 4) (List.drop 12 [mu,ff,ea,pJ,s1,vH,w9,w_,Av,Aw,mx,xa,Cy]))=some IP:=M 5 _ rfl;rw[agu]at h0;rw[g3]at h1 A aF;rw[agv]at aa;rw[g4]at a8;obtain⟨⟨hC,fb,gx,ip,Ax,Ay,Fq,Fr⟩,gW,mi⟩:=ags m [mu,ff,ea,pJ,s1,vH,w9,w_] Au h0;obtain⟨NQ,mw,bZ,_⟩:=oT _ _ h1;obtain⟨NR,nB,b0,_⟩:=oT _ _ A;obtain⟨aP,oi,kx⟩:=lp.slice (enc:=kG) (b8:=b8) (j3:=m) Tryz.underlying32 (k:=6) (f:=pw) auI auD (λa=>⟨rfl,rfl⟩) (λu_ _=>agr u_) [mx] Cu aa;obtain⟨agw,oU,zT,_⟩:=oT _ _ aF;obtain⟨agx,vI,BS⟩:=Vn _ _ a8;refine⟨⟨hC,fb,gx,ip,Ax,Ay,Fq,Fr,NQ,NR,aP,agw,agx⟩,db.append gW (.cons mw.head (.cons nB.head (.cons oi.head (.cons oU.head (.cons vI.head (.nil _ _)))))),?_⟩;have G:=NP (m:=λ_=>2) kx;simp only[List.map_const',List.sum_replicate_nat,Nat.one_mul]at G;simp only[avc,awp,jw,Rows.uptoBulk,Rows.uptoBulkAll]at mi G⊢;constructor<;>omega
theorem agy{d:DataW H}{p:List MemPlace}{base:Nat}(X:Value.okWide Tryz.prog b8 .any base 34 v)(h:DataW.Trod kG Tryz.prog b8 0 (λ_=>true) true 34 v d p): ∃m:fT,bh b8 (vc b8) (im m) v/\m.name.length+m.set.length+m.px.length+m.py.length+m.l2.length<=jw d/\2*m.gM.length<=jw d:=by obtain⟨j3,M⟩:=h;obtain⟨aD,rfl,_⟩:=okWide_struct Tryz.underlying34 X;obtain⟨m,af,aS⟩:=agt (kG:=kG) (b8:=b8) j3 _ _ M;obtain⟨l⟩:=aD;exact⟨m,.agg _ _ af.1 af.2,aS⟩
theorem own:ownKnob Tryz.prog.godebug=none:=by kernel_rfl
noncomputable def NU(os:Os):World :=
 let w0:=World.holding Tryz.prog os ⟨#[],#[],[]⟩
 let put (h:Array Obj) (g:Nat) (aD:Array Value):Array Obj:=h.modify g fun
  |.cells _ t frozen=>.cells aD t frozen
  |o=>o
 let h1:=put w0.heap 1 (Lib.firstTab.map λQ=>Value.int .u8 Q).toArray
 let A:=put h1 2 ((List.range 16).flatMap λi=>[Value.int .u8 (Lib.accLo i),Value.int .u8 (Lib.accHi i)]).toArray
 let aa:=put A 3 (Lib.pow10Tab.map λQ=>Value.int .u64 Q).toArray
 let aF:=put aa 4 ([0,1,28,2,29,14,24,3,30,22,20,15,25,17,4,8,31,27,13,23,21,19,16,7,26,12,18,6,11,5,10,9].map λQ=>Value.int .u8 Q).toArray
 let a8:=put aF 5 ([0,1,56,2,57,49,28,3,61,58,42,50,38,29,17,4,62,47,59,36,45,43,51,22,53,39,33,30,24,18,12,5,63,55,48,27,60,41,37,16,46,35,44,21,52,32,23,11,54,26,40,15,34,20,31,10,25,14,19,9,13,8,7,6].map λQ=>Value.int .u8 Q).toArray
 {w0 with heap:=a8}
theorem agz(os:Os)(args:Array Value):laidMet Tryz.prog NS ((NU os).forCall (λ_ _=>0) ⟨#[],args,[]⟩).memory :=
 laidMet_of_run' 8 auI auI
variable{B:World}
def Fu(c:Int):List Int:=[IntKind.wrap .u8 (c.fdiv (2 ^ min (8:Int).toNat IntKind.i64.bits)),IntKind.wrap .u8 c]
def r9(l:List Int):List Int:=l.flatMap Fu
theorem agA(l:List Int):∀x∈r9 l,0<=x/\x<=255:=λx J=>by
 obtain⟨c,_,h⟩:=awD.1 J;have e:∀m,IntKind.wrap .u8 m=m%256:=λm=>by simp[IntKind.wrap,IntKind.bits,IntKind.signed]
 simp only[Fu,au8,axe,axy,e]at h;rcases h with rfl|rfl<;>omega
theorem Vv(l:List Int):(r9 l).length=2*l.length:=by unfold r9;induction l with|nil=>rfl|cons x r aV=>rw[avF,auV,aV,auX];simp only[Fu,auX,avh];omega
theorem agB(l:List Int)(c:Int):r9 (l++[c])=r9 l++Fu c:=by simp[r9]
def fl(s:auM):auM:=if(chars s).2=0 then(r9 (chars s).1).map oQ else[]
theorem Vw{s:auM}:(chars s).1.length<=s.length/\(chars s).1.length<=65536:=by unfold chars;split;simp;cases hc:ju s with|none=>simp|some l=>have:=Cf s.length s (auW _) l hc;simp only;omega
theorem agC(s:auM):(fl s).length<=2*s.length/\(fl s).length<=131072:=by have:=@Vw s;unfold fl;split;rw[auS,Vv];omega;simp
theorem agD(aX:dk B)(s:auM)(hs:s.length<1000000):aT B 184 [.N s] (.bm [.N (fl s),u (chars s).2]):=by have agE:=M9 (B:=B) aX s auD;have lm:=@Vw s;unfold fl;generalize(chars s).1=l at*;generalize(chars s).2=e at*;have fr:(fL .i64 l).length=l.length:=auS _;refine fn Tryz.func184 Tryz.ntmps184 λW=>?_;refine go ?_;refine bq agE ?_;refine cb (t:=!(e==0)) ?_ ?_<;>intro hc;rw[auN (by simpa using hc)];refine go ?_;exact an;rw[auO (by simpa using hc)];refine go ?_;rw[fr,show(2:Int)*(l.length:Nat)=((2*l.length:Nat):Int) by omega];refine .inr (ah.L9 aN (n:=2*l.length) (cP:=.i64) (d0:=.i64) rfl rfl rfl rfl rfl rfl (by show 1*(2*l.length)<=_;omega) auD λw0=>?_);(conv=>whnf);refine go ?_;rw[fr];refine hf (λx:Nat×Value=>x.1<=l.length) [21,22] [] (λx=>[(6,.T (.own 20 x.2) 1 ((r9 (l.take x.1)).map (D.int .u8))),(23,u x.1)]) (λx=>[(20,.own x.2 ((r9 (l.take x.1)).map (D.int .u8)).length 1 5)]) (λx=>l.length-x.1) (0,w0) (au7 _) [(20,20)] ?_;rintro⟨k,w⟩ Z;dsimp only at Z⊢;refine go ?_;refine cb (t:=decide ((k:Int)<(l.length:Nat))) ?_ ?_<;>intro bx;(·(have eK:k<l.length:=by have:=avg bx;omega);(have jl:(fL .i64 l)[k]?=some (.int .i64 l[k]):=by simp[fL,eK]);(have Fd:l.take (k+1)=l.take k++[l[k]]:=by rw[auU eK]);(have hlen:(r9 (l.take k)).length=2*k:=by rw[Vv,au9];omega);generalize l[k]=c at*;refine go ?_;refine⟨u c,λ_=>jl,?_⟩;(conv=>whnf);apply cj;(conv=>whnf);refine z1 ?_;(conv=>whnf);refine Y.Tz aN (by rfl) ?_;(conv=>whnf);(iterate 3 (refine And.intro rfl ?_;(conv=>whnf);refine z1 ?_;(conv=>whnf)));refine And.intro (λ_=>by decide) ?_;(conv=>whnf);refine And.intro rfl ?_;(conv=>whnf);refine z1 ?_;(conv=>whnf);refine .inr ?_;(conv=>whnf);refine And.intro rfl ?_;(conv=>whnf);refine z1 ?_;(conv=>whnf);refine And.intro rfl ?_;(conv=>whnf);refine z1 ?_;(conv=>whnf);refine .inr ?_;(conv=>whnf);refine go ?_;intro gO;(conv=>whnf);refine go ?_;(have oG:(r9 (l.take k)).map (D.int .u8)++(Fu c).map (D.int .u8)=(r9 (l.take (k+1))).map (D.int .u8):=by rw[Fd,agB,avo]);refine fs (k+1,gO) [(20,34)] (by dsimp only;omega) (A:=⟨⟨E,E,ap.i' oG,E,ak⟩,rfl,rfl,jq (by rw[<-oG,auV];rfl),ak⟩));(have gd:k=l.length:=by have:=ava bx;omega);subst gd;refine Y.exit ?_;(conv=>whnf);refine go ?_;rw[au2];refine .inr (ah.va aN (aP:=(r9 l).map oQ) (tg:=.own 20 w) rfl rfl rfl rfl rfl rfl (auP (D.T _ 1) (ys _ (agA l))) ?_);(conv=>whnf);refine go ?_;exact⟨E,dx (by simp at hc;omega),ak⟩
def kc(n:Int):Int:=(n+2048-1).tdiv 2048
def k9(n:Int):Int:=if n<=1872 then 0 else kc n
def yz(n:Int):Int:=if(bif decide (n<0)then true else decide (4096<n))=true then 0 else(n+8-1).tdiv 8*8
def NV(n:Int):Int:=(n+3).tdiv 4*4
def agF(n:Int):Bool:=bif decide (0<=n)then decide (n<4294967296)else false
def Az(n:Int):Bool:=bif decide (0<=n)then decide (n<=3)else false
theorem agG(n:Int)(h0:0<=n)(h1:n<1000000000000):aT B 314 [u n] (u (kc n)):=by refine bB Tryz.func314 Tryz.ntmps314 λW=>?_;exact ayq
theorem Vx(n:Int)(h0:0<=n)(h1:n<1000000000000):aT B 271 [u n] (u (k9 n)):=by refine bB Tryz.func271 Tryz.ntmps271 λW=>?_;refine go ?_;refine aI _ rfl ?_ ?_<;>intro hc;refine go ?_;rw[k9,auO (by simpa using hc)];exact E;refine go ?_;refine bq (agG n h0 h1) ?_;rw[k9,auN (by simpa using hc)];exact E
theorem agH(n:Int):aT B 272 [u n] (u (yz n)):=by refine bB Tryz.func272 Tryz.ntmps272 λW=>?_;refine go ?_;refine aI _ rfl ?_ ?_<;>intro hc;refine go ?_;rw[yz,auO hc];exact E;apply ci;have bx:=hc;rw[yz,auN (by rw[bx];decide)];(have h0:0<=n/\n<=4096:=by revert hc;cases h:decide (n<0)<;>simp at h⊢<;>omega);apply b1;refine vh ?_;refine⟨λ_=>by omega,?_⟩;refine go ?_;have I:(n+8-1).tdiv 8=(n+8-1)/8:=au4 auD;refine go ?_;exact E
theorem agI(n:Int)(h0:0<=n)(h1:n<1000000000000):aT B 313 [u n] (u (NV n)):=by refine bB Tryz.func313 Tryz.ntmps313 λW=>?_;apply b1;apply b1;refine lq ?_;refine⟨λ_=>by omega,?_⟩;refine go ?_;have I:(n+3).tdiv 4=(n+3)/4:=au4 auD;refine go ?_;exact E
theorem Vy(n:Int):aT B 354 [u n] (.bool (agF n)):=by refine bB Tryz.func354 Tryz.ntmps354 λW=>?_;refine go ?_;exact E
theorem agJ(n:Int):aT B 139 [u n] (.bool (Az n)):=by refine bB Tryz.func139 Tryz.ntmps139 λW=>?_;refine go ?_;exact E
def xb(l:List Int):Int:=(l.drop 1).foldl (λm x=>if x>m then x else m) (l.headD 0)
variable{i:Nat}
theorem agK{l:List Int}(h:0<i)(hi:i<l.length):xb (l.take (i+1))=if l[i]>xb (l.take i)then l[i]else xb (l.take i):=by
 rw[xb,xb,auU hi,awZ (by rw[au9];omega),avW]
 have e:(l.take i++[l[i]]).headD 0=(l.take i).headD 0:=by
  cases l with
  |nil=>simp at hi
  |cons a r=>cases i with
   |zero=>omega
   |succ i=>rfl
 rw[e];rfl
theorem agL(l:List Int)(h0:0<l.length)(aj:l.length<1000000000):aT B 352 [.T .none 1 (fL .i64 l)] (u (xb l)):=by refine bB Tryz.func352 Tryz.ntmps352 λW=>?_;refine cc ?_;refine Y.k0 (α:=Unit) (λx=>[(0,.T .none 1 (fL .i64 l))]) (λx=>[]) ?_ ?_;refine go ?_;refine aI _ rfl ?_ ?_<;>intro hc;exfalso;simp[fL]at hc;omega;refine go ?_;exact⟨(),[],an,rfl,ak⟩;rintro⟨⟩;refine go ?_;refine⟨λ_=>by simp[fL];omega,?_⟩;refine go ?_;refine⟨u l[0],λ_=>by simp[fL,h0],?_⟩;refine go ?_;refine Y.loop (α:={i:Nat // 1<=i/\i<=l.length}) (λx=>[(0,.T .none 1 (fL .i64 l)),(3,u (xb (l.take x.1))),(4,u x.1)]) (λ_=>[]) (λx=>l.length-x.1) ⟨1,by omega⟩ ⟨E,ap.of_eq (auP (D.int .i64) (by cases l with|nil=>simp at h0|cons a r=>rfl)),E,ak⟩ trivial ?_;rintro⟨i,p',hi⟩;dsimp only at hi p'⊢;refine go ?_;refine aI (decide ((i:Int)<((fL .i64 l).length:Nat))) rfl ?_ ?_<;>intro hc;apply ci;refine jJ ?_;(have aG:i<l.length:=by simpa[fL]using hc);refine lZ ?_;refine⟨λ_=>by simp[fL];omega,?_⟩;refine go ?_;refine⟨u l[i],λ_=>by simp[fL,aG],?_⟩;refine go ?_;exact⟨⟨i+1,by omega,aG⟩,azh,⟨E,ap.of_eq (auP (D.int .i64) (agK p' aG).symm),E,ak⟩,ak⟩;refine go ?_;(have cr:i=l.length:=by simp[fL]at hc;omega);subst cr;refine go ?_;rw[au2];exact E
def vJ(size:Nat)(c:Int)(k:Nat):Int:=IntKind.wrap .u8 (c.fdiv (2 ^ min (8*((size:Int)-1-(k:Int))).toNat IntKind.i64.bits))
def q4(size:Nat)(l:List Int):List Int:=(8*(size:Int))::l.flatMap λc=>(List.range size).map (vJ size c)
def Cz(size:Nat)(l:List Int):auM:=(q4 size l).map oQ
theorem agM{size:Nat}{l:List Int}(h:i<l.length):q4 size (l.take (i+1))=q4 size (l.take i)++(List.range size).map (vJ size l[i]):=by rw[q4,q4,auU h,awx];simp
theorem agN(f:Nat->Int)(k:Nat):(List.range (k+1)).map f=(List.range k).map f++[f k]:=by rw[awh,avo];rfl
theorem NW(n:Int):0<=IntKind.wrap .u8 n/\IntKind.wrap .u8 n<=255:=by unfold IntKind.wrap;dsimp only[IntKind.bits,IntKind.signed];simp only[Bool.false_and,avT,awq];omega
theorem agO{size:Nat}(hs:size=1\/size=2)(l:List Int):∀n∈q4 size l,0<=n/\n<=255:=λn ar=>by
 simp only[q4,au8,awD,au_]at ar;rcases ar with rfl|⟨c,_,k,_,rfl⟩
 ·omega
 exact NW _
theorem Vz(size:Nat):∀l:List Int,(l.flatMap λc=>(List.range size).map (vJ size c)).length=l.length*size
 |[]=>by simp
 |c::r=>by rw[avF,auV,Vz size r,auS,List.length_range,auX,awP];omega
theorem VA(size:Nat)(l:List Int):(q4 size l).length=l.length*size+1:=by rw[q4,auX,Vz]
theorem agP(size:Nat)(l:List Int):(Cz size l).length=l.length*size+1:=by rw[Cz,auS,VA]
abbrev yA(l:List Int):List D:=l.map (D.int .u8)
theorem VB(l:List Int)(size:Nat)(hs:size=1\/size=2)(aj:l.length<1000000):aT B 353 [.T .none 1 (fL .i64 l),u (size:Nat)] (.N (Cz size l)):=by refine bB Tryz.func353 Tryz.ntmps353 λW=>?_;apply b1;apply b1;(conv=>whnf);refine dc ?_;refine p9 ?_;refine Y.own 5 1000 1 5 rfl (λw=>?_);refine go ?_;refine Y.ee (α:={i:Nat // i<=l.length}×Value) (λx=>[(1,u (size:Nat)),(5,.T (.own 1000 x.2) 1 (yA (q4 size (l.take x.1.1)))),(13,.T .none 1 (fL .i64 l)),(14,u ((fL .i64 l).length:Nat)),(15,u x.1.1)]) (λx=>[(1000,.own x.2 (yA (q4 size (l.take x.1.1))).length 1 5)]) (λx=>l.length-x.1.1) (⟨0,by omega⟩,w) [(1000,1000)] ⟨an,rfl,a_⟩ ?_;rintro⟨⟨i,hi⟩,w⟩;dsimp only at hi⊢;refine go ?_;refine aI (decide ((i:Int)<((fL .i64 l).length:Nat))) rfl ?_ ?_<;>intro hc;apply ci;(have aG:i<l.length:=by simpa[fL]using hc);have c2:=agM (size:=size) aG;(have mO:(q4 size (l.take i)).length<=i*size+1:=by rw[VA,au9,axm hi];omega);(have Sh:i*size<=2*i:=by rcases hs with rfl|rfl<;>omega);generalize q4 size (l.take i)=L at*;refine gJ ?_;refine⟨λ_=>by simp[fL];omega,?_⟩;refine go ?_;refine⟨u l[i],λ_=>by simp[fL,aG],?_⟩;refine go ?_;refine Y.ee (α:={k:Nat // k<=size}×Value) (λx=>[(1,u (size:Nat)),(5,.T (.own 1000 x.2) 1 (yA (L++(List.range x.1.1).map (vJ size l[i])))),(7,u l[i]),(13,.T .none 1 (fL .i64 l)),(14,u ((fL .i64 l).length:Nat)),(15,u i),(19,u (size:Nat)),(20,u x.1.1)]) (λx=>[(1000,.own x.2 (yA (L++(List.range x.1.1).map (vJ size l[i]))).length 1 5)]) (λx=>size-x.1.1) (⟨0,by omega⟩,w) [(1000,1000)] ⟨⟨E,ap.i' auF,E,E,E,E,E,E,ak⟩,rfl,rfl,jq auF,ak⟩ ?_;rintro⟨⟨k,Z⟩,w⟩;dsimp only at Z⊢;refine go ?_;refine aI (decide ((k:Int)<(size:Nat))) rfl ?_ ?_<;>intro bx;apply ci;(have iI:k<size:=by simpa using bx);have yB:=agN (vJ size l[i]) k;(have VC:(L++(List.range k).map (vJ size l[i])).length<=2*i+1+k:=by simp;omega);generalize gT:L++(List.range k).map (vJ size l[i])=ai at*;(have VD:L++(List.range (k+1)).map (vJ size l[i])=ai++[vJ size l[i] k]:=by rw[yB,<-avr,gT]);refine jJ ?_;apply b1;apply jH;refine hb ?_;refine vh ?_;refine⟨λ_=>by omega,?_⟩;refine go ?_;refine .inr ?_;(conv=>whnf);refine mm ?_;refine⟨by simp only[yA,auS,auX,avh];omega,by simp only[yA,auS,auX,avh];omega,auK,λgO=>?_⟩;refine go ?_;exact⟨(⟨k+1,iI⟩,gO),[(1000,33)],by show size-(k+1)<size-k;omega,⟨E,ap.i' (by rw[VD,yA,yA,avo];rfl),E,E,E,E,E,E,ak⟩,rfl,rfl,jq (by rw[VD];simp),ak⟩;refine go ?_;(have gd:k=size:=by simp at bx;omega);subst gd;refine go ?_;exact⟨(⟨i+1,aG⟩,w),[(1000,1000)],azh,⟨E,ap.i' (by rw[c2]),E,E,E,ak⟩,rfl,rfl,jq (by rw[c2]),ak⟩;refine go ?_;(have cr:i=l.length:=by simp[fL]at hc;omega);subst cr;rw[au2];refine go ?_;refine .inr (ah.va aN (aP:=Cz size l) (tg:=.own 1000 w) rfl rfl rfl rfl rfl rfl (auP (D.T (.own 1000 w) 1) (ys (q4 size l) (agO hs l))) ?_);refine go ?_;exact E
def s2(s:auM):auM×Int :=
 if(65536:Int)<(s.length:Nat)then([],7)else if(chars s).2≠0 then([],3)else if(chars s).1=[]then([],0)else if xb (chars s).1<=255 then(Cz 1 (chars s).1,0)else(Cz 2 (chars s).1,0)
theorem VE(s:auM):(chars s).1.length<=65536:=by unfold chars;split;simp;split;rename_i l h;have:=(Cf s.length s (auW _) l h).1;simp only;omega;simp
theorem VF(aX:dk B)(s:auM)(hs:s.length<1000000000):aT B 311 [.N s] (.bm [.N (s2 s).1,u (s2 s).2]):=by refine bB Tryz.func311 Tryz.ntmps311 λW=>?_;refine go ?_;refine aI (decide ((65536:Int)<(s.length:Nat))) rfl ?_ ?_<;>intro hc;refine go ?_;rw[s2,auO (by simpa using hc)];exact an;refine go ?_;(have h1:¬(65536:Int)<(s.length:Nat):=by simpa using hc);rw[s2,auN h1];have lm:=VE s;refine go ?_;refine bq (M9 aX s hs) ?_;refine aI ((chars s).2 !=0) rfl ?_ ?_<;>intro hc;refine go ?_;rw[auO (by simpa using hc)];exact an;refine go ?_;(have A:¬(chars s).2≠0:=by simpa using hc);rw[auN A];generalize(chars s).1=l at*;refine go ?_;refine aI ((((fL .i64 l).length:Nat):Int)==0) rfl ?_ ?_<;>intro hc;refine go ?_;rw[auO (by simpa[fL]using hc)];exact an;refine go ?_;(have aa:¬l=[]:=by simpa[fL]using hc);rw[auN aa];have r_:0<l.length:=avY.2 aa;refine go ?_;refine bq (agL l r_ auD) ?_;refine aI (decide (xb l<=255)) rfl ?_ ?_<;>intro hc;refine go ?_;refine bq (VB l 1 (.inl rfl) auD) ?_;rw[auO (by simpa using hc)];exact an;refine go ?_;refine bq (VB l 2 (.inr rfl) auD) ?_;rw[auN (by simpa using hc)];exact an
def VG(s:auM)(bc dp:Bool):D:=.agg [.N s,.bool false,.bool bc,.bool false,.bool dp,.bool false,u 0,u 0,u 0]
def vK(s:auM)(bc dp:Bool):auM×Bool :=
 if dp=true then([],bif bc then s==[]else false)else((s2 s).1,bif (bif (s2 s).2==0 then !(s==[])else false)then decide ((((s2 s).1.length:Nat):Int)<=255)else false)
theorem agQ(aX:dk B)(s:auM)(bc dp:Bool)(hs:s.length<1000000000):aT B 312 [VG s bc dp] (.bm [.N (vK s bc dp).1,.bool (vK s bc dp).2]):=by refine bB Tryz.func312 Tryz.ntmps312 λW=>?_;refine go ?_;intro dI;refine go ?_;refine bq (Vy 0) ?_;refine⟨[u 0],_,λh=>Vy 0,an,?_⟩;refine il ?_;refine aI false rfl ?_ ?_<;>intro hc;cases hc;refine go ?_;refine aI dp rfl ?_ ?_<;>intro hc;refine mQ ?_;refine go ?_;rw[vK,auO hc];exact an;refine go ?_;refine bq (VF aX s hs) ?_;rw[vK,auN (by rw[hc];decide)];exact an
def uh(s:auM)(bc dp:Bool):Int×Int:=if(vK s bc dp).2=true then(NV (38+((vK s bc dp).1.length:Nat)),0)else(0,1)
theorem NX(s:auM):(s2 s).1.length<=131073:=by have:=VE s;unfold s2;split;simp;split;simp;split;simp;split<;>simp only[agP]<;>omega
theorem VH(s:auM)(bc dp:Bool):(vK s bc dp).1.length<=131073:=by have:=NX s;unfold vK;split;simp;exact this
theorem VI(aX:dk B)(s:auM)(bc dp:Bool)(hs:s.length<1000000000):aT B 270 [VG s bc dp] (.bm [u (uh s bc dp).1,u (uh s bc dp).2]):=by refine bB Tryz.func270 Tryz.ntmps270 λW=>?_;refine go ?_;intro dI;refine go ?_;refine bq (agQ aX s bc dp hs) ?_;refine aI (!(vK s bc dp).2) rfl ?_ ?_<;>intro hc;refine go ?_;rw[uh,auN (by simpa using hc)];exact an;apply ci;have dg:=VH s bc dp;apply b1;refine lq ?_;refine⟨[u (38+((vK s bc dp).1.length:Nat))],_,λ_=>agI _ auD auD,an,?_⟩;refine hz ?_;rw[uh,auO (by simpa using hc)];exact an
def iM(y:Int):Bool:=bif y.tmod 400==0 then true else(bif y.tmod 4==0 then y.tmod 100 !=0 else false)
def nC(y:Int):Int:=if iM y=true then 366 else 365
def CA(m:Int):Int:=([31,28,31,30,31,30,31,31,30,31,30,31]:List Int).getD (m-1).toNat 31
def nD(y m:Int):Int:=if(bif m==2 then iM y else false)=true then 29 else CA m
def IQ(t:Int):Bool:=bif decide (315532800<=t)then decide (t<=4102444799)else false
def IR(Q:Int):Bool:=bif decide (-1440<=Q)then decide (Q<=1440)else false
def NY(Q:Int):Bool:=bif (bif Q.tmod 15==0 then decide (-720<=Q)else false)then decide (Q<=780)else false
theorem VJ(y:Int):aT B 274 [u y] (.bool (iM y)):=by refine bB Tryz.func274 Tryz.ntmps274 λW=>?_;refine pl ?_;refine⟨λ_=>by omega,?_⟩;refine mR ?_;refine⟨λh=>by omega,?_⟩;apply g';refine hd ?_;refine⟨λh=>by omega,?_⟩;refine go ?_;exact E
theorem VK(y:Int):aT B 222 [u y] (u (nC y)):=by refine bB Tryz.func222 Tryz.ntmps222 λW=>?_;refine go ?_;refine bq (VJ y) ?_;refine aI _ rfl ?_ ?_<;>intro hc;refine go ?_;rw[nC,auO hc];exact E;refine go ?_;rw[nC,auN (by rw[hc];decide)];exact E
theorem agR(m:Int)(h1:1<=m)(A:m<=12):([D.int .i64 31,D.int .i64 28,D.int .i64 31,D.int .i64 30,D.int .i64 31,D.int .i64 30,D.int .i64 31,D.int .i64 31,D.int .i64 30,D.int .i64 31,D.int .i64 30,D.int .i64 31])[0+(m-1).toNat*1]?=some (.int .i64 (CA m)):=by(have hm:(m-1).toNat<12:=by omega);unfold CA;rw[avu,axr];generalize(m-1).toNat=k at*;match k,hm with|0,_=>rfl|1,_=>rfl|2,_=>rfl|3,_=>rfl|4,_=>rfl|5,_=>rfl|6,_=>rfl|7,_=>rfl|8,_=>rfl|9,_=>rfl|10,_=>rfl|11,_=>rfl
theorem VL(y m:Int)(h1:1<=m)(A:m<=12):aT B 223 [u y,u m] (u (nD y m)):=by refine bB Tryz.func223 Tryz.ntmps223 λW=>?_;apply b1;apply eh;refine Y.Me aN ?_;apply tU;refine ah.ad6 rfl rfl rfl auL rfl rfl rfl rfl rfl rfl rfl rfl rfl rfl rfl rfl ?_;apply ei;refine go ?_;intro cF;apply ei;refine go ?_;refine bq (VJ y) ?_;refine aI (bif m==2 then iM y else false) rfl ?_ ?_<;>intro hc;refine go ?_;rw[nD,auO hc];exact E;apply ci;refine np ?_;apply ei;refine lq ?_;refine⟨rfl,ak,.inr (ah.ad7 rfl rfl rfl rfl auD auD ?_)⟩;(conv=>whnf);refine⟨rfl,ak,.inr (ah.ad8 aN rfl rfl rfl rfl (agR m h1 A) ?_)⟩;apply ei;refine go ?_;rw[nD,auN (by rw[hc];decide)];exact E
theorem agS(t:Int):aT B 220 [u t] (.bool (IQ t)):=by refine bB Tryz.func220 Tryz.ntmps220 λW=>?_;refine go ?_;exact E
theorem agT(t:Int):aT B 221 [u t] (.bool (IR t)):=by refine bB Tryz.func221 Tryz.ntmps221 λW=>?_;refine go ?_;exact E
theorem agU(t:Int):aT B 157 [u t] (.bool (NY t)):=by refine bB Tryz.func157 Tryz.ntmps157 λW=>?_;refine pl ?_;refine⟨λ_=>by omega,?_⟩;refine go ?_;exact E
theorem VM(y:Int):365<=nC y/\nC y<=366:=by unfold nC;split<;>omega
theorem agV(y m:Int)(h1:1<=m)(A:m<=12):28<=nD y m/\nD y m<=31:=by unfold nD CA;split;omega;(have hm:(m-1).toNat<12:=by omega);generalize(m-1).toNat=k at*;match k,hm with|0,_=>decide|1,_=>decide|2,_=>decide|3,_=>decide|4,_=>decide|5,_=>decide|6,_=>decide|7,_=>decide|8,_=>decide|9,_=>decide|10,_=>decide|11,_=>decide
def s3(y m:Int):Int:=([0,31,59,90,120,151,181,212,243,273,304,334]:List Int).getD (m-1).toNat 0+(if(decide (2<m)&&iM y)=true then 1 else 0)
theorem agW(y m:Int)(h1:1<=m)(A:m<12):s3 y (m+1)=s3 y m+nD y m:=by obtain⟨k,Z,rfl⟩:∃k:Nat,k<11/\m=(k:Int)+1:=⟨(m-1).toNat,by omega,by omega⟩;unfold s3 nD CA;match k,Z with|0,_=>cases iM y<;>decide|1,_=>cases iM y<;>decide|2,_=>cases iM y<;>decide|3,_=>cases iM y<;>decide|4,_=>cases iM y<;>decide|5,_=>cases iM y<;>decide|6,_=>cases iM y<;>decide|7,_=>cases iM y<;>decide|8,_=>cases iM y<;>decide|9,_=>cases iM y<;>decide|10,_=>cases iM y<;>decide
theorem agX(y m:Int)(h1:1<=m)(A:m<=12):0<=s3 y m:=by obtain⟨k,Z,rfl⟩:∃k:Nat,k<12/\m=(k:Int)+1:=⟨(m-1).toNat,by omega,by omega⟩;unfold s3;match k,Z with|0,_=>cases iM y<;>decide|1,_=>cases iM y<;>decide|2,_=>cases iM y<;>decide|3,_=>cases iM y<;>decide|4,_=>cases iM y<;>decide|5,_=>cases iM y<;>decide|6,_=>cases iM y<;>decide|7,_=>cases iM y<;>decide|8,_=>cases iM y<;>decide|9,_=>cases iM y<;>decide|10,_=>cases iM y<;>decide|11,_=>cases iM y<;>decide
theorem agY(y:Int):s3 y 12+nD y 12=nC y:=by unfold s3 nD CA nC;cases iM y<;>decide
def CB(d y:Int):Int×Int:=if h:nC y<=d then CB (d-nC y) (y+1)else(d,y)
termination_by d.toNat
decreasing_by have:=VM y;omega
def xc(n:Nat)(y d m:Int):Int×Int:=match n with
 |0=>(d,m)
 |n+1=>if nD y m<=d then xc n y (d-nD y m) (m+1)else(d,m)
theorem agZ{n:Nat}{y d m:Int}(h:¬nD y m<=d):xc n y d m=(d,m):=by cases n with|zero=>rfl|succ n=>rw[xc,auN h]
def VN(y:Int)(b:Int×Int)(eu:Int):List Int:=[y,b.2,b.1+1,eu.tdiv 3600,(eu.tdiv 60).tmod 60,eu.tmod 60]
def VO(a:Int×Int)(eu:Int):List Int:=VN a.2 (xc 12 a.2 a.1 1) eu
def ET(D eu:Int):List Int:=VO (CB D 1970) eu
def VP(t Q:Int):List Int:=ET ((t+60*Q).tdiv 86400) ((t+60*Q).tmod 86400)
def yC(t Q:Int):Bool:=!(bif !IQ t then true else !IR Q)
def oV(t Q:Int):List Int:=if yC t Q=true then VP t Q else[0,0,0,0,0,0]
def VQ(l:List Int):D:=.agg (l.map (D.int .i64))
theorem ag0(t Q:Int):aT B 156 [u t,u Q] (.bm [VQ (oV t Q),u (if yC t Q=true then 0 else 2)]):=by
 refine bB Tryz.func156 Tryz.ntmps156 λW=>?_;refine go ?_;intro cJ;refine go ?_;refine bq (agS t) ?_;refine bq (agT Q) ?_;refine aI (bif !IQ t then true else !IR Q) rfl ?_ ?_<;>intro hc
 ·refine go ?_;have hs:¬yC t Q=true:=by unfold yC;rw[hc];decide
  rw[oV,auN hs,auN hs];refine go ?_;exact an
 have hs:yC t Q=true:=by unfold yC;rw[hc];rfl
 have af:315532800<=t/\t<=4102444799/\-1440<=Q/\Q<=1440:=by
  revert hc;unfold IQ IR
  cases h1:decide (315532800<=t)<;>cases A:decide (t<=4102444799)<;>cases aa:decide (-1440<=Q)<;>cases aF:decide (Q<=1440)<;>simp at h1 A aa aF⊢<;>omega
 rw[oV,auO hs,auO hs,VP];have NZ:(t+60*Q).tdiv 86400=(t+60*Q)/86400:=au4 auD;have N0:(t+60*Q).tmod 86400=(t+60*Q)%86400:=avH auD;apply ci;apply b1;refine hb ?_;refine hb ?_;refine cc ?_;refine⟨λ_=>by omega,?_⟩;refine lq ?_;refine⟨λ_=>by omega,?_⟩;(conv=>whnf);generalize s4:(t+60*Q).tdiv 86400=yD at*;generalize mV:(t+60*Q).tmod 86400=eu at*;have ag1:0<=yD/\yD<60000:=auD
 have asI:0<=eu/\eu<86400:=auD
 have IS:eu.tdiv 3600=eu/3600:=au4 auD;have asJ:eu.tdiv 60=eu/60:=au4 auD;refine cc ?_;refine⟨λ_=>by omega,?_⟩;refine lq ?_;refine⟨λ_=>by omega,?_⟩;refine lq ?_;refine⟨λ_=>by omega,?_⟩;(conv=>whnf);refine⟨λ_=>by omega,?_⟩;refine go ?_;intro jd;refine go ?_;unfold ET;generalize EY:CB yD 1970=N1 at*;generalize da:VO N1 eu=ag2 at*;refine go ?_
 refine Y.ee (α:={p:Int×Int // CB p.1 p.2=N1/\0<=p.1/\p.1<=yD/\1970<=p.2/\p.2<=1970+(yD-p.1)}) (λx=>[(4,.box 4 cJ 0),(7,u x.1.1),(9,.box 9 jd 0)])
  (λx=>[(4,.box cJ [u 0,u 0,u 0,u 0,u 0,u 0]),(9,.box jd [u x.1.2,u 1,u 0,u (eu.tdiv 3600),u ((eu.tdiv 60).tmod 60),u (eu.tmod 60)])]) (λx=>x.1.1.toNat) ⟨(yD,1970),EY,ag1.1,avK _,avK _,by omega⟩ [(4,4),(9,9)]
  ⟨an,rfl,a_⟩ ?_
 rintro⟨⟨d,y⟩,hy,ud,E3,EE,N2⟩;dsimp only at hy ud E3 EE N2⊢;have asK:=VM y;refine go ?_;refine bq (VK y) ?_;refine aI (decide (nC y<=d)) rfl ?_ ?_<;>intro bx
 ·refine go ?_;have dP:nC y<=d:=by simpa using bx
  refine go ?_;refine bq (VK y) ?_;exact⟨⟨(d-nC y,y+1),by rw[<-hy];conv=>{rhs;rw[CB,awu dP]},by show 0<=d-nC y;omega,by show d-nC y<=yD;omega,by show 1970<=y+1;omega,by show y+1<=1970+(yD-(d-nC y));omega⟩,[(4,4),(9,9)],by show(d-nC y).toNat<d.toNat;omega,an,rfl,a_⟩
 have ag3:N1=(d,y):=by rw[<-hy,CB,axx (by simpa using bx)]
 have bg : d < nC y := by have : ¬nC y<=d := by simpa using bx
                          omega
 refine go ?_
 refine Y.ee (α:={p:Int×Int×Nat // xc p.2.2 y p.1 p.2.1=xc 12 y d 1/\0<=p.1/\1<=p.2.1/\p.2.1<=12/\p.1+s3 y p.2.1=d/\(p.2.2:Int)+p.2.1=13}) (λx=>[(4,.box 4 cJ 0),(7,u x.1.1),(9,.box 9 jd 0)])
  (λx=>[(4,.box cJ [u 0,u 0,u 0,u 0,u 0,u 0]),(9,.box jd [u y,u x.1.2.1,u 0,u (eu.tdiv 3600),u ((eu.tdiv 60).tmod 60),u (eu.tmod 60)])]) (λx=>x.1.1.toNat) ⟨(d,1,12),rfl,ud,by show(1:Int)<=1;decide,by show(1:Int)<=12;decide,by show d+s3 y 1=d;rw[show s3 y 1=0 from by unfold s3;cases iM y<;>decide];omega,by show((12:Nat):Int)+1=13;decide⟩ [(4,4),(9,9)]
  ⟨an,rfl,a_⟩ ?_
 rintro⟨⟨e,m,n⟩,hm,pF,mt,sY,nU,iq⟩;dsimp only at hm pF mt sY nU iq⊢;have asL:=agV y m mt sY;have Fv:=agX y m mt sY;refine go ?_;refine bq (VL y m mt sY) ?_;refine aI (decide (nD y m<=e)) rfl ?_ ?_<;>intro eb
 ·refine go ?_;have dP:nD y m<=e:=by simpa using eb
  have ag4:m<12:=by
   rcases Int.lt_or_le m 12 with h|h
   ·exact h
   have:m=12:=auD
   subst this;have:=agY y;omega
  obtain⟨n,rfl⟩:∃k,n=k+1:=⟨n-1,by omega⟩;refine go ?_;refine bq (VL y m mt sY) ?_;exact⟨⟨(e-nD y m,m+1,n),by rw[<-hm];conv=>{rhs;rw[xc,auO dP]},by show 0<=e-nD y m;omega,by show 1<=m+1;omega,by show m+1<=12;omega,by show e-nD y m+s3 y (m+1)=d;rw[agW y m mt ag4];omega,by show(n:Int)+(m+1)=13;omega⟩,[(4,4),(9,9)],by show(e-nD y m).toNat<e.toNat;omega,an,rfl,a_⟩
 have ag5:xc 12 y d 1=(e,m):=by rw[<-hm];exact agZ (by simpa using eb)
 have ag6:ag2=[y,m,e+1,eu.tdiv 3600,(eu.tdiv 60).tmod 60,eu.tmod 60]:=by rw[<-da,ag3];show VN y (xc 12 y d 1) eu=_;rw[ag5];rfl
 subst ag6;have CC:e<1000000:=auD
 refine go ?_;exact an
def Fw(t Q:Int):Bool:=yC t Q&&NY Q
def CD(t Q:Int):List Int:=[IntKind.wrap .u8 (IntKind.wrap .i64 ((oV t Q).getD 0 0-1900)),IntKind.wrap .u8 ((oV t Q).getD 1 0),IntKind.wrap .u8 ((oV t Q).getD 2 0),IntKind.wrap .u8 ((oV t Q).getD 3 0),IntKind.wrap .u8 ((oV t Q).getD 4 0),IntKind.wrap .u8 ((oV t Q).getD 5 0),IntKind.wrap .u8 (IntKind.wrap .i8 (IntKind.wrap .i64 (Q.tdiv 15)))]
def vL(t Q:Int):auM×Int:=if Fw t Q=true then((CD t Q).map oQ,0)else([],2)
theorem ag7(t Q:Int):∀n∈CD t Q,0<=n/\n<=255:=λn ar=>by
 simp only[CD,au8,axe,axy]at ar;rcases ar with rfl|rfl|rfl|rfl|rfl|rfl|rfl<;>exact NW _
theorem ag8(t Q:Int):VQ (oV t Q)=.agg [u ((oV t Q).getD 0 0),u ((oV t Q).getD 1 0),u ((oV t Q).getD 2 0),u ((oV t Q).getD 3 0),u ((oV t Q).getD 4 0),u ((oV t Q).getD 5 0)]:=by unfold oV;split<;>rfl
theorem VR(t Q:Int):aT B 108 [u t,u Q] (.bm [.N (vL t Q).1,u (vL t Q).2]):=by refine bB Tryz.func108 Tryz.ntmps108 λW=>?_;refine pl ?_;refine⟨[u t,u Q],_,λ_=>ag0 t Q,an,?_⟩;rw[ag8];refine go ?_;intro dW;refine go ?_;refine bq (agU Q) ?_;refine aI (!Fw t Q) (auP D.bool (by unfold Fw;cases yC t Q<;>cases NY Q<;>rfl)) ?_ ?_<;>intro hc;refine go ?_;(have hs:¬Fw t Q=true:=by simpa using hc);rw[vL,auN hs];exact an;apply ci;refine vd ?_;apply mj;refine ej ?_;refine .inr ?_;refine n7 ?_;refine .inr ?_;apply mj;apply cj;refine n7 ?_;refine .inr ?_;apply mj;apply cj;refine n7 ?_;refine .inr ?_;apply mj;apply cj;refine n7 ?_;refine .inr ?_;apply mj;apply cj;refine n7 ?_;refine .inr ?_;apply mj;apply cj;refine n7 ?_;refine .inr ?_;(conv=>whnf);refine⟨λ_=>by omega,?_⟩;refine go ?_;refine x7 ?_;refine x7 ?_;refine x7 ?_;refine .inr (ah.va aN (aP:=(CD t Q).map oQ) (tg:=.dZ) rfl rfl rfl rfl rfl rfl (auP (D.T .dZ 1) (ys (CD t Q) (ag7 t Q))) ?_);refine go ?_;(have hs:Fw t Q=true:=by simpa using hc);rw[vL,auO hs];exact an
theorem VS(t Q:Int):(vL t Q).1.length<=7:=by unfold vL CD;split<;>simp
def oW(n:U)(o:fk):Int:=if(!valid n)=true then 1 else if(32:Int)<((o.gM.map pw).length:Nat)then 7 else(vL 315619200 o.c6).2
theorem ag9(aX:dk B)(n:U)(o:fk)(bn:aB n+n.name.length<10000000):aT B 75 [az n,r2 o] (u (oW n o)):=by refine bB Tryz.func75 Tryz.ntmps75 λW=>?_;refine go ?_;intro ca;refine go ?_;intro el;refine go ?_;refine bq (An aX n bn) ?_;refine aI (!valid n) rfl ?_ ?_<;>intro hc;refine go ?_;rw[oW,auO hc];exact E;refine go ?_;rw[oW,auN (by rw[hc];decide)];refine go ?_;refine aI (decide ((32:Int)<((o.gM.map pw).length:Nat))) rfl ?_ ?_<;>intro hc;refine go ?_;rw[auO (by simpa using hc)];exact E;refine go ?_;rw[auN (by simpa using hc)];refine go ?_;refine bq (VR 315619200 o.c6) ?_;exact E
theorem ag_:aT B 320 [u 4] (.bool true):=by refine bB Tryz.func320 Tryz.ntmps320 λW=>?_;apply b1;apply b1;refine il ?_;refine il ?_;refine hz ?_;exact E
theorem ag'(n:Int)(h0:0<=n)(h1:n<4294967296):aT B 321 [u n,u 4] (.bool true):=by
 refine bB Tryz.func321 Tryz.ntmps321 λW=>?_;apply b1;apply b1;apply g';refine hd ?_;refine .inl ⟨λh=>by simp[dz],?_⟩;refine mR ?_;refine⟨λh=>by omega,?_⟩;apply g';refine no ?_;refine tV ?_;refine hz ?_;have e:IntKind.i64.wrap (2 ^ min 32 IntKind.i64.bits)=4294967296:=by decide
 have bZ:decide (0<=n)=true:=avP h0;have b0:decide (n<4294967296)=true:=avP h1;refine ap.of_eq (auP D.bool ?_);simp[e,bZ,b0,h0,h1]
theorem aha:aT B 323 [u 4] (.fn (.func 361) [] []):=by refine bB Tryz.func323 Tryz.ntmps323 λW=>?_;apply b1;refine gp ?_;exact E
theorem ahb(i:Int):aT B 361 [u i] (u i):=by refine bB Tryz.func361 Tryz.ntmps361 λW=>?_;apply b1;refine gp ?_;exact E
theorem ahc:aT B 324 [u 4] (.fn (.func 362) [] [.a7 1 [u 4] 0 0]):=by refine bB Tryz.func324 Tryz.ntmps324 λW=>?_;refine cc ?_;intro b;(conv=>whnf);refine Y.BP 1 1 (u 4) rfl rfl rfl rfl ?_;refine gp ?_;exact E
theorem ahd(i:Int)(h0:0<=i)(h1:i<=3):aT B 362 [u i,.a7 1 [u 4] 0 0] (u (3-i)):=by refine bB Tryz.func362 Tryz.ntmps362 λW=>?_;apply b1;apply b1;refine wQ (u 4) ?_;refine hb ?_;refine hb ?_;refine hz ?_;exact dx auD
def ahe(n:Int)(k:Nat):Int:=IntKind.wrap .u8 (n.fdiv (2 ^ min (8*(k:Int)).toNat IntKind.i64.bits))
def vM(n:Int)(iN:Nat->Nat):Nat->List Int
 |0=>[0,0,0,0]
 |k+1=>(vM n iN k).set (iN k) (ahe n k)
theorem N3(n:Int)(iN:Nat->Nat):∀k,(vM n iN k).length=4
 |0=>rfl
 |k+1=>by simp only[vM,awc];exact N3 n iN k
theorem ahf(m:Int):0<=IntKind.wrap .u8 m/\IntKind.wrap .u8 m<=255:=by
 have e:IntKind.wrap .u8 m=m%256:=by simp[IntKind.wrap,IntKind.bits,IntKind.signed]
 rw[e];omega
theorem VT(n:Int)(iN:Nat->Nat):∀k,∀x∈vM n iN k,0<=x/\x<=255
 |0,x,h=>by simp[vM]at h;omega
 |k+1,x,h=>by rcases awS h with h|h;exact VT n iN k x h;subst h;exact ahf _
def CE(n:Int)(iN:Nat->Nat):auM:=(vM n iN 4).map oQ
theorem VU(n:Int)(iN:Nat->Nat):(CE n iN).length=4:=by simp[CE,N3]
theorem VV(n:Int)(b6:Nat)(cs:List D)(iN:Nat->Nat)(aw:∀k,k<4->iN k<4/\aT B b6 ([u (k:Nat)]++cs) (u (iN k:Nat))):aT B 322 [u n,u 4,.fn (.func b6) [] cs] (.N (CE n iN)):=by refine bB Tryz.func322 Tryz.ntmps322 λW=>?_;refine go ?_;refine .inr (ah.x4 aN (n:=4) rfl rfl rfl rfl rfl rfl rfl auG auG λgP=>?_);refine go ?_;refine Y.ee (α:={k:Nat // k<=4}) (λx=>[(0,u n),(1,u 4),(2,.fn (.func b6) [] cs),(7,.am gP),(11,u 4),(12,u (x.1:Nat))]) (λx=>[(10,.row gP ((vM n iN x.1).map (D.int .u8)) 1 5)]) (λx=>4-x.1) ⟨0,by omega⟩ [(10,10)] ⟨an,rfl,a_⟩ ?_;rintro⟨k,Z⟩;refine go ?_;refine aI (decide ((k:Int)<4)) rfl ?_ ?_<;>intro hc;apply ci;(have AA:k<4:=by have:=avg hc;omega);have Ak:=N3 n iN k;refine gJ ?_;refine Y.x2 aN 9 mixed auI ?_;refine go ?_;refine⟨[u (k:Nat)]++cs,_,λ_=>(aw k AA).2,dO.refl _,?_⟩;refine lq ?_;refine⟨λ_=>by omega,?_⟩;refine go ?_;refine x7 ?_;refine .inr (ah.eG aN 10 rfl rfl rfl rfl rfl rfl rfl auD (by simp[Ak];have:=(aw k AA).1;omega) ?_);refine go ?_;refine .inr (ah.nl aN 10 (i:=iN k) (by simp;rfl) rfl rfl rfl (by simp[Ak];exact(aw k AA).1) rfl ?_);refine go ?_;exact⟨⟨k+1,by omega⟩,[(10,10)],by show 4-(k+1)<4-k;omega,an,rfl,rfl,auP (λQ=>some (aJ.row gP Q 1 5)) (by simp only[vM,axG];rfl),ak⟩;refine vf ?_;(have AA:k=4:=by have:=ava hc;omega);subst AA;refine Y.fc [(7,.am gP)] [(10,.row gP ((vM n iN 4).map (D.int .u8)) 1 5)] [(10,10)] ⟨an,rfl,a_⟩ ?_;refine Y.vp 10 7 rfl ?_;refine go ?_;refine .inr (ah.va aN (aP:=CE n iN) (tg:=.none) rfl rfl rfl rfl rfl rfl (auP (D.T .none 1) (ys (vM n iN 4) (VT n iN 4))) ?_);refine go ?_;exact E
def CF(n:Int):auM:=CE n (λk=>k)++CE n (λk=>3-k)
theorem IT(n:Int):(CF n).length=8:=by simp[CF,VU]
theorem ahg(n:Int)(h0:0<=n)(h1:n<4294967296):aT B 278 [u n,u 4] (.bm [.N (CF n),u 0]):=by refine bB Tryz.func278 Tryz.ntmps278 λW=>?_;apply b1;refine p9 ?_;refine⟨_,_,λ_=>ag_,an,?_⟩;refine Y.cond false rfl (λhc=>nomatch hc) (λhc=>?_);apply ci;refine p9 ?_;refine⟨_,_,λ_=>ag' n h0 h1,an,?_⟩;refine Y.cond false rfl (λhc=>nomatch hc) (λhc=>?_);apply ci;refine cc ?_;refine⟨_,_,λ_=>aha,an,?_⟩;refine go ?_;refine⟨_,_,λ_=>VV n 361 [] (λk=>k) (λk Z=>⟨Z,ahb _⟩),an,?_⟩;refine go ?_;refine⟨_,_,λ_=>ahc,an,?_⟩;refine go ?_;refine⟨_,_,λ_=>VV n 362 [.a7 1 [u 4] 0 0] (λk=>3-k) (λk Z=>⟨by omega,by have:=ahd (B:=B) (k:Nat) auD auD;rw[show((3-k:Nat):Int)=3-(k:Int) by omega];exact this⟩),an,?_⟩;refine go ?_;refine⟨λ_=>by simp[VU],?_⟩;refine go ?_;exact an
def s5(p:Int->Bool):Nat->List Int->Int
 |_,[]=>-1
 |i,x::r=>if p x then(i:Int)else s5 p (i+1) r
theorem VW(p:Int->Bool):∀(l:List Int) (i:Nat),decide (0<=s5 p i l)=l.any p
 |[],i=>by simp[s5]
 |x::r,i=>by by_cases J:p x=true;simp[s5,J];have:=VW p r (i+1);simp[s5,J,this]
theorem ahh(tg:iA)(V:List Int)(hT:V.length<1000000)(b6:Nat)(cs:List D)(p:Int->Bool)(m5:∀k∈V,aT B b6 (u k::cs) (.bool (p k))):aT B 143 [.T tg 1 (V.map (D.int .i64)),.fn (.func b6) [] cs] (u (s5 p 0 V)):=by refine bB Tryz.func143 Tryz.ntmps143 λW=>?_;refine go ?_;refine Y.loop (α:={i:Nat // i<=V.length/\s5 p 0 V=s5 p i (V.drop i)}) (λx=>[(0,.T tg 1 (V.map (D.int .i64))),(1,.fn (.func b6) [] cs),(7,u (V.map (D.int .i64)).length),(8,u x.1)]) (λ_=>[]) (λx=>V.length-x.1) ⟨0,by simp⟩ an trivial ?_;rintro⟨i,hi,bf⟩;refine go ?_;refine aI (decide ((i:Int)<(V.map (D.int .i64)).length)) rfl ?_ ?_<;>intro hc;apply ci;(have aG:i<V.length:=by simpa using hc);have ly:=avL aG;refine jJ ?_;refine pl ?_;refine pk ?_;refine⟨u V[i],λ_=>by simp[aG],?_⟩;refine go ?_;refine⟨u V[i]::cs,_,λ_=>m5 V[i] (auT aG),⟨E,dO.refl _⟩,?_⟩;refine go ?_;refine aI (p V[i]) rfl ?_ ?_<;>intro hc;refine go ?_;exact dx (bf.trans (by show s5 p i (V.drop i)=(i:Int);rw[ly];simp[s5,hc])).symm;refine go ?_;exact⟨⟨i+1,aG,by rw[bf,ly];simp[s5,hc]⟩,azi,an,ak⟩;refine go ?_;(have cr:i=V.length:=by simp at hc;omega);refine go ?_;exact dx (bf.trans (by rw[cr];simp[s5])).symm
theorem ahi(tg:iA)(V:List Int)(hT:V.length<1000000)(b6:Nat)(cs:List D)(p:Int->Bool)(m5:∀k∈V,aT B b6 (u k::cs) (.bool (p k))):aT B 146 [.T tg 1 (V.map (D.int .i64)),.fn (.func b6) [] cs] (.bool (V.any p)):=by refine bB Tryz.func146 Tryz.ntmps146 λW=>?_;refine pl ?_;refine⟨_,_,λ_=>ahh tg V hT b6 cs p m5,an,?_⟩;refine go ?_;exact ap.of_eq (auP D.bool (VW p V 0))
def AB(n:Int):Bool:=decide (n<0)||decide (4294967296<=n)
theorem ahj(n:Int):aT B 319 [u n] (.bool (AB n)):=by refine bB Tryz.func319 Tryz.ntmps319 λW=>?_;refine go ?_;refine ap.of_eq (auP D.bool ?_);unfold AB;cases decide (n<0)<;>rfl
theorem VX(tg:iA)(V:List Int)(hT:V.length<1000000):aT B 277 [.T tg 1 (V.map (D.int .i64))] (.bool (!V.any AB)):=by refine bB Tryz.func277 Tryz.ntmps277 λW=>?_;refine pl ?_;refine⟨_,_,λ_=>ahi tg V hT 319 [] AB (λk _=>ahj k),an,?_⟩;refine go ?_;exact E
def lE(Fx ahk:auM):D:=.agg [.N Fx,u 1,.N ahk]
theorem ahl:aT B 161 [u 0] (.bm [lE [83,80] [190,239,0],u 0]):=by refine bB Tryz.func161 Tryz.ntmps161 λW=>?_;refine cc ?_;intro b;refine gj ?_;refine il ?_;refine Y.cond false rfl (λhc=>nomatch hc) (λhc=>?_);apply ci;refine qI ?_;refine .inl (.inl ⟨by simp[dz],?_⟩);refine go ?_;refine .inr (ah.va aN (aP:=[190,239,0]) (tg:=.dZ) rfl rfl rfl rfl rfl rfl rfl ?_);refine go ?_;exact an
theorem ahm:aT B 236 [.N [82,82,73,80,95,49,57,57,49,65],.N [82,79,67,75,32,82,73,68,71,69],.N [77,65,83,84,69,82,68,73,83,67],u 1] (.bm [lE [69,82] ([10,10,10,1]++[82,82,73,80,95,49,57,57,49,65]++[82,79,67,75,32,82,73,68,71,69]++[77,65,83,84,69,82,68,73,83,67]),u 0]):=by refine bB Tryz.func236 Tryz.ntmps236 λW=>?_;refine cc ?_;intro b;refine gj ?_;refine il ?_;refine Y.cond false rfl (λhc=>nomatch hc) (λhc=>?_);apply ci;refine gj ?_;refine hb ?_;refine hb ?_;refine Y.cond false rfl (λhc=>nomatch hc) (λhc=>?_);apply ci;refine cc ?_;refine .inl ⟨by simp[dz],?_⟩;(conv=>whnf);refine .inl ⟨by simp[dz],?_⟩;(conv=>whnf);refine .inl ⟨by simp[dz],?_⟩;(conv=>whnf);refine .inl ⟨by simp[dz],?_⟩;refine go ?_;refine .inr (ah.va aN (aP:=[10,10,10,1]) (tg:=.dZ) rfl rfl rfl rfl rfl rfl rfl ?_);refine go ?_;refine mS ?_;refine mS ?_;refine mS ?_;exact an
def VY:D:=lE [69,82] ([10,10,10,1]++[82,82,73,80,95,49,57,57,49,65]++[82,79,67,75,32,82,73,68,71,69]++[77,65,83,84,69,82,68,73,83,67])
theorem ahn:aT B 164 [] (VY):=by refine bB Tryz.func164 Tryz.ntmps164 λW=>?_;refine go ?_;intro b;refine cc ?_;refine⟨_,_,λ_=>ahm,an,?_⟩;refine go ?_;intro b;refine go ?_;exact E
def r'(oX:Bool)(kind hk kd ke kf:Int)(named:Bool)(name target:auM)(aho:Bool)(fj bX cv:Int)(jQ:Bool):D:=.agg [.bool oX,u kind,u hk,u kd,u ke,u kf,.bool named,.N name,.N target,.bool aho,u fj,u bX,u cv,.bool jQ]
structure N4 (kind hk kd ke kf:Int) (named:Bool) (name target:auM) (fj bX:Int):Prop where
 gz:0<=kind
 cP:kind<=2
 nE:0<=hk
 m1:hk<=4095
 w:[kd,ke,kf,bX,0].any AB=false
 n:named=true->dS name=true
 dK:named=false->name=[]
 t:target=[]\/k7 target=true
 t0:315532800<=fj
 IU:fj<=4102444799
 CG:name.length<1000000000
 Fy:target.length<1000000000
theorem ahp(aX:dk B)(kind hk kd ke kf:Int)(named:Bool)(name target:auM)(fj bX:Int)(jQ:Bool)(h:N4 kind hk kd ke kf named name target fj bX):aT B 230 [r' true kind hk kd ke kf named name target true fj bX 0 jQ] (u 0):=by
 refine bB Tryz.func230 Tryz.ntmps230 λW=>?_;refine cc ?_;intro b;refine gJ ?_
 repeat ((first|refine⟨rfl,?_⟩|refine⟨λh=>h,?_⟩|refine⟨λh0 h=>ay_,?_⟩);(conv=>whnf))
 obtain⟨gz,cP,nE,m1,cz,ar,wK,ax,t0,IU,CG,Fy⟩:=h;refine Y.cond false rfl (λhc=>nomatch hc) (λhc=>?_);refine go ?_
 repeat ((first|refine⟨rfl,?_⟩|refine⟨λh=>h,?_⟩|refine⟨λh0 h=>ay_,?_⟩);(conv=>whnf))
 refine aI _ rfl (λhc=>?_) (λbx=>?_)
 ··exact False.elim (by revert hc;cases named<;>simp_all)
 refine go ?_
 repeat ((first|refine⟨rfl,?_⟩|refine⟨λh=>h,?_⟩|refine⟨λh0 h=>ay_,?_⟩);(conv=>whnf))
 refine aI _ rfl (λhc=>?_) (λeb=>?_)
 ··exact False.elim (by have bZ : decide (kind < 0) = false := by simp;omega
                        have b0:decide (2<kind)=false:=by simp;omega
                        rw[bZ,b0]at hc;cases hc)
 refine go ?_
 repeat ((first|refine⟨rfl,?_⟩|refine⟨λh=>h,?_⟩|refine⟨λh0 h=>ay_,?_⟩);(conv=>whnf))
 refine⟨_,_,λh=>yu aX name CG,an,?_⟩;refine go ?_
 repeat ((first|refine⟨rfl,?_⟩|refine⟨λh=>h,?_⟩|refine⟨λh0 h=>ay_,?_⟩);(conv=>whnf))
 refine⟨_,_,λh=>Iw aX target Fy,an,?_⟩;refine go ?_
 repeat ((first|refine⟨rfl,?_⟩|refine⟨λh=>h,?_⟩|refine⟨λh0 h=>ay_,?_⟩);(conv=>whnf))
 refine aI _ rfl (λhc=>?_) (λod=>?_)
 ··exact False.elim (by revert hc;rcases ax with rfl|ax<;>cases named<;>simp_all)
 refine go ?_
 repeat ((first|refine⟨rfl,?_⟩|refine⟨λh=>h,?_⟩|refine⟨λh0 h=>ay_,?_⟩);(conv=>whnf))
 refine go ?_;refine⟨_,_,λ_=>VX .dZ [kd,ke,kf,bX,0] auF,an,?_⟩;refine go ?_;refine aI _ rfl (λhc=>?_) (λAC=>?_)
 ··exact False.elim (by have bZ : decide (hk < 0) = false := by simp;omega
                        have b0:decide (4095<hk)=false:=by simp;omega
                        rw[bZ,b0,cz]at hc;cases hc)
 refine go ?_
 repeat ((first|refine⟨rfl,?_⟩|refine⟨λh=>h,?_⟩|refine⟨λh0 h=>ay_,?_⟩);(conv=>whnf))
 refine aI _ rfl (λhc=>?_) (λxd=>?_)
 ··exact False.elim (by have bZ : decide (fj < 315532800) = false := by simp;omega
                        have b0:decide (4102444799<fj)=false:=by simp;omega
                        rw[bZ,b0]at hc;cases hc)
 refine go ?_;exact E
theorem ahq(aX:dk B) : aT B 230 [r' false 0 0 0 0 0 false [] [] false 0 0 1 false] (u 0):=by refine bB Tryz.func230 Tryz.ntmps230 λW=>?_;refine cc ?_;intro b;refine gJ ?_;(repeat ((first|refine⟨rfl,?_⟩|refine⟨λh=>h,?_⟩|refine⟨λh0 h=>ay_,?_⟩);(conv=>whnf)));refine Y.cond false rfl (λhc=>nomatch hc) (λhc=>?_);refine cc ?_;(repeat ((first|refine⟨rfl,?_⟩|refine⟨λh=>h,?_⟩|refine⟨λh0 h=>ay_,?_⟩);(conv=>whnf)));refine Y.cond false rfl (λhc=>nomatch hc) (λbx=>?_);refine cc ?_;(repeat ((first|refine⟨rfl,?_⟩|refine⟨λh=>h,?_⟩|refine⟨λh0 h=>ay_,?_⟩);(conv=>whnf)));refine Y.cond false rfl (λhc=>nomatch hc) (λeb=>?_);refine go ?_;(repeat ((first|refine⟨rfl,?_⟩|refine⟨λh=>h,?_⟩|refine⟨λh0 h=>ay_,?_⟩);(conv=>whnf)));refine⟨_,_,λh=>yu aX [] auG,an,?_⟩;refine go ?_;(repeat ((first|refine⟨rfl,?_⟩|refine⟨λh=>h,?_⟩|refine⟨λh0 h=>ay_,?_⟩);(conv=>whnf)));refine⟨_,_,λh=>Iw aX [] auG,an,?_⟩;(conv=>whnf);(repeat ((first|refine⟨rfl,?_⟩|refine⟨λh=>h,?_⟩|refine⟨λh0 h=>ay_,?_⟩);(conv=>whnf)));refine Y.cond false rfl (λhc=>nomatch hc) (λod=>?_);refine go ?_;(repeat ((first|refine⟨rfl,?_⟩|refine⟨λh=>h,?_⟩|refine⟨λh0 h=>ay_,?_⟩);(conv=>whnf)));refine go ?_;refine⟨_,_,λ_=>VX .dZ [0,0,0,0,1] auG,an,?_⟩;refine il ?_;refine Y.cond false rfl (λhc=>nomatch hc) (λAC=>?_);refine cc ?_;(repeat ((first|refine⟨rfl,?_⟩|refine⟨λh=>h,?_⟩|refine⟨λh0 h=>ay_,?_⟩);(conv=>whnf)));refine Y.cond false rfl (λhc=>nomatch hc) (λxd=>?_);refine go ?_;exact E
def oY(l:Int)(k:U):Bool:=k.kind==0&&kb 2 k (l+1)
def jR(m:U)(l:Int):Int:=if m.kind=0 then 2+(m.F.countP (oY l):Nat)else 1
theorem ahr(p:U->Bool)(L:List U)(h:i<L.length):(L.take (i+1)).countP p=(L.take i).countP p+if p L[i]then 1 else 0:=by rw[auU h,List.countP_append];simp[List.countP_cons]
theorem VZ(b:D)(m:U)(l:Int)(r_:0<=l)(kA:l<=1000000)(hm:m.F.length<=1000000):aT B 163 [b,az m,u l] (r' true m.kind m.cu (jR m l) m.n2 m.n3 false [] [] true m.n4 0 0 false):=by refine bB Tryz.func163 Tryz.ntmps163 λW=>?_;refine cc ?_;intro cJ;(conv=>whnf);intro dW;refine cc ?_;refine Y.k0 (α:=Unit) (λx=>[(4,.box 4 cJ 0),(6,.box 6 dW 0),(7,u (jR m l))]) (λx=>[(4,.box cJ (az m).cells),(6,.box dW [.bool false,u 0,u 0,u 0,u 0,u 0,.bool false,.N [],.N [],.bool false,u 0,u 0,u 0,.bool false])]) ?_ ?_;refine gK ?_;refine aI (m.kind==0) rfl ?_ ?_<;>intro hc;apply b1;refine gK ?_;apply n1;refine Y.ee (α:={i:Nat // i<=m.F.length}) (λx=>[(2,u l),(4,.box 4 cJ 0),(6,.box 6 dW 0),(7,u (2+((m.F.take x.1).countP (oY l):Nat))),(14,.T .none 12 (m.F.map enc)),(15,u (m.F.map enc).length),(16,u x.1)]) (λx=>[(4,.box cJ (az m).cells),(6,.box dW [.bool false,u 0,u 0,u 0,u 0,u 0,.bool false,.N [],.N [],.bool false,u 0,u 0,u 0,.bool false])]) (λx=>m.F.length-x.1) ⟨0,by omega⟩ [(4,4),(6,6)] ⟨an,rfl,a_⟩ ?_;rintro⟨i,hi⟩;apply b1;apply eh;refine aI (decide ((i:Int)<(m.F.map enc).length)) rfl ?_ ?_<;>intro bx;apply ci;(have aG:i<m.F.length:=by simpa using bx);have IB:=ahr (oY l) m.F aG;have lm:(m.F.take i).countP (oY l)<=i:=av6 (List.countP_le_length) auE;refine vg ?_;refine⟨az m.F[i],λ_=>lx aG,?_⟩;(conv=>whnf);intro jd;apply cj;refine gK ?_;apply cj;apply g';refine hb ?_;refine hd ?_;refine⟨[u 2,az m.F[i],u (l+1)],_,λh=>Fg 2 m.F[i] (l+1),an,?_⟩;refine tV ?_;refine aI (oY l m.F[i]) (by rw[oY];cases(m.F[i].kind==0)<;>rfl) ?_ ?_<;>intro eb;apply jH;refine hb ?_;refine ml ?_;exact⟨⟨i+1,aG⟩,[(4,4),(6,6)],by show m.F.length-(i+1)<m.F.length-i;omega,⟨E,E,E,dx (by show(2:Int)+((m.F.take i).countP (oY l):Nat)+1=2+((m.F.take (i+1)).countP (oY l):Nat);rw[IB,auO eb];omega),E,E,E,ak⟩,rfl,a_⟩;refine qJ ?_;exact⟨⟨i+1,aG⟩,[(4,4),(6,6)],by show m.F.length-(i+1)<m.F.length-i;omega,⟨E,E,E,dx (by show(2:Int)+((m.F.take i).countP (oY l):Nat)=2+((m.F.take (i+1)).countP (oY l):Nat);rw[IB,auN (by simp[eb])];rfl),E,E,E,ak⟩,rfl,a_⟩;refine vf ?_;(have cr:i=m.F.length:=by simp at bx;omega);(have jN:m.kind=0:=by simpa using hc);exact⟨(),[(4,4),(6,6)],⟨E,E,dx (by show(2:Int)+((m.F.take i).countP (oY l):Nat)=jR m l;rw[cr,au2,jR,auO jN]),ak⟩,rfl,a_⟩;refine eY ?_;exact⟨(),[(4,4),(6,6)],⟨E,E,dx (by unfold jR;rw[auN (by simpa using hc)]),ak⟩,rfl,a_⟩;rintro⟨⟩;refine gK ?_;apply cj;apply cj;apply cj;apply cj;apply cj;apply x6;refine ej ?_;exact E
theorem N5:Tryz.prog.underlying 161=some (.pointer 164):=by kernel_rfl
theorem V0:Tryz.prog.underlying 300=some .unsafePointer:=by kernel_rfl
theorem V1:(Tryz.prog.info? 164).map (·.size)=some 2:=by kernel_rfl
theorem ahs:liesAt Tryz.prog Tryz.prog.depth 164 (2/Tryz.prog.cellsOf 164) 0 164 1=true:=by kernel_rfl
theorem aht(b:Nat)(w:World)(h0:w.cell? ⟨b,0,none⟩=some (.pointer (some ⟨b,0,none⟩))): Calls Tryz.prog 154 #[.pointer (some ⟨b,0,none⟩)] w λe w'=>e=.returned (.tuple #[])/\w'=w:=by obtain⟨j,ad,_⟩:=avS.1 V1;go_enter Tryz.func154,Tryz.ntmps154;go_wp2;rw[Lib.run_neq_ptr_same w _ N5 ad];go_wp2;go_end0;exact⟨rfl,rfl⟩
theorem ahu(b:Nat)(w:World)(h0:w.cell? ⟨b,0,none⟩=some (.pointer none))(iG:w.shape? b=some (164,2))(MI:w.frozen? ⟨b,0,none⟩=false): Calls Tryz.prog 154 #[.pointer (some ⟨b,0,none⟩)] w λe w'=>e=.returned (.tuple #[])/\w'=w.setCell ⟨b,0,none⟩ (.pointer (some ⟨b,0,none⟩)):=by obtain⟨j,ad,ahv⟩:=avS.1 V1;go_enter Tryz.func154,Tryz.ntmps154;go_wp2;rw[Lib.run_to_unsafe w ⟨b,0,none⟩ N5 V0 ad (by rw[ahv];decide) iG (Nat.zero_lt_succ 1)];simp only[Result.andThen];rw[Oper.upon_value];go_wp2;rw[run_callFunc_extern Tryz.func218 auI auI auI (e:=Extern.AbiNoEscape.same) auI];rw[Lib.run_noEscape];simp only[Result.andThen];rw[Oper.upon_value];go_wp2;rw[Lib.run_from_unsafe w ⟨b,0,none⟩ V0 N5 ad iG ahs];simp only[Result.andThen];rw[Oper.upon_value];go_wp2;go_end0;exact⟨rfl,rfl⟩
theorem V2(w:World)(C:Nat->Nat):bh w C (.bm []) (.tuple #[]):=by exact .bm [] [] rfl (λj d v O X=>by simp at O)
def IV(b:Nat):D:=.am (.pointer (some ⟨b,0,none⟩))
theorem V3(b:Nat)(p:Value)(d:D)(o:aJ)(aw:p=.pointer none\/p=.pointer (some ⟨b,0,none⟩)):c4 B 154 [.box 6000 b 0] (aM [(6000,.kT b 164 [.am p,d]),(6001,o)]) λr aO=>r=.bm []/\aO=aM [(6000,.kT b 164 [IV b,d]),(6001,o)]:=by refine⟨jt Tryz.func154 rfl auH,λw C args Ft gi qE hH kX=>?_⟩;obtain⟨nA,af⟩:=kX;match args,nA with|[a],_ =>have ha:=(af 0 _ a rfl rfl).wy;subst ha;obtain⟨vs,G,hZ,da⟩:=hH.cl 6000 _ rfl;(match vs,hZ.1 with|[BZ,v],_ =>have zX:=(hZ.2 0 _ BZ rfl rfl).gh;subst zX;(have mu:w.cell? ⟨b,0,none⟩=some BZ:=by rw[Lib.cell_of_heap G];rfl);rcases aw with rfl|rfl;refine(ahu b w mu (by simp[World.shape?,G]) (Lib.frozen_of_heap G 0)).mono ?_;rintro e w' ⟨rfl,rfl⟩;have bg:b<w.heap.size:=(awt.1 G).1;(have bZ:w.setCell ⟨b,0,none⟩ (.pointer (some ⟨b,0,none⟩))={w with heap:=w.heap.setIfInBounds b (.cells #[.pointer (some ⟨b,0,none⟩),v] 164 (0,0))}:=by(have aS:w.heap[b]=.cells #[.pointer none,v] 164 (0,0):=by have:=awd bg;rw[this]at G;exact avB G);unfold World.setCell;congr 1;apply Array.ext;simp;intro i h1 A;by_cases hi:i=b;subst hi;simp[Array.getElem_modify,aS];rw[Array.getElem_setIfInBounds];simp[Array.getElem_modify,Ne.symm hi];simpa using A);have a1:=de.Hx (bN:=.cells #[.pointer (some ⟨b,0,none⟩),v] 164 (0,0)) G da;(have pj:({w with heap:=w.heap.setIfInBounds b (.cells #[.pointer (some ⟨b,0,none⟩),v] 164 (0,0))}:World).heap[b]?=some (.cells #[.pointer (some ⟨b,0,none⟩),v] 164 (0,0)):=by simp[bg]);rw[<-bZ]at a1 pj;have bK:=hH.cQ 6000 _ b rfl rfl;(have key:∀s x,aM [(6000,aJ.kT b 164 [IV b,d]),(6001,o)] s=some x->(s=6000/\x=.kT b 164 [IV b,d])\/(s=6001/\x=o):=λs x h=>by simp only[aM]at h;cases h1:Nat.beq s 6000 with|true=>rw[h1]at h;exact .inl ⟨avb h1,(avB h).symm⟩|false =>rw[h1]at h;(cases A:Nat.beq s 6001 with|true=>rw[A]at h;exact .inr ⟨avb A,(avB h).symm⟩|false=>rw[A]at h;cases h));(have nX:∀s x,aM [(6000,aJ.kT b 164 [IV b,d]),(6001,o)] s=some x->∃y,aM [(6000,aJ.kT b 164 [.am (.pointer none),d]),(6001,o)] s=some y/\∀Q,x.es Q->y.es Q:=λs x h=>by rcases key s x h with⟨rfl,rfl⟩|⟨rfl,rfl⟩;exact⟨_,rfl,λQ bn=>bn⟩;exact⟨_,rfl,λQ bn=>bn⟩);refine⟨_,_,C,_,rfl,⟨rfl,rfl⟩,V2 _ _,(de.refl Ft w C).trans a1 (λx _ J=>by subst J;exact bK),⟨λs x h=>?_,λs bp x y Q ar h1 A au c0=>?_,λs x Q h au=>?_⟩⟩;rcases key s x h with⟨rfl,rfl⟩|⟨rfl,rfl⟩;exact⟨[_,v],pj,.cons (.am _) (.cons ((hZ.2 1 _ v rfl rfl).ext a1.ext) (.nil _ _)),da⟩;exact(hH.cl 6001 _ rfl).iB a1.ext λQ bn=>a1.iB Q ((hH.cl 6001 _ rfl).lt bn) (λe=>by subst e;exact hH.inj 6001 6000 _ _ Q auG rfl rfl bn rfl);obtain⟨bw,aa,aF⟩:=nX s x h1;obtain⟨SS,a8,cN⟩:=nX bp y A;exact hH.inj s bp bw SS Q ar aa a8 (aF Q au) (cN Q c0);obtain⟨bw,aa,aF⟩:=nX s x h;exact .inl (hH.cQ s bw Q aa (aF Q au));refine(aht b w mu).mono ?_;rintro e w' ⟨rfl,rfl⟩;exact⟨_,_,C,_,rfl,⟨rfl,rfl⟩,V2 _ _,.refl _ _ _,⟨hH.cl,hH.inj,λs x y h1 A=>.inl (hH.cQ s x y h1 A)⟩⟩)
def nF(l:auM):List D:=l.map λc=>D.int .u8 c.toNat
theorem V4(a b:auM):nF (a++b)=nF a++nF b:=avo
theorem ui(a:auM):(nF a).length=a.length:=auS _
abbrev yE(b:Nat)(p v:Value)(xs:auM):List (Nat×aJ):=[(6000,.kT b 164 [.am p,.am v]),(6001,.row v (nF xs) 1 5)]
abbrev qi(b:Nat):Value:=.pointer (some ⟨b,0,none⟩)
theorem V5(b:Nat)(p v:Value)(xs s:auM)(aw:p=.pointer none\/p=qi b)(aj:xs.length+s.length<=100000000): c4 B 105 [.box 6000 b 0,.N s] (aM (yE b p v xs)) λd aO=>∃c',True/\d=.bm [u s.length,.am .nilIface]/\aO=aM (yE b (qi b) c' (xs++s)):=by refine EN Tryz.func105 Tryz.ntmps105 λW=>?_;refine go ?_;refine mq [(6000,6000),(6001,6001)] (V3 b p (.am v) (.row v (nF xs) 1 5) aw) ?_;refine .inr (ah.HX aN rfl rfl ?_);refine ej ?_;refine dc ?_;refine .inr (ah.aem aN 6001 rfl rfl rfl auG rfl auI rfl rfl rfl (by rw[ui];show _*1<=_;omega) (by rw[ui];omega) λgn cu AD=>?_);(conv=>whnf);refine dc ?_;refine .inr (ah.Ti aN rfl rfl rfl ?_);(conv=>whnf);refine dc ?_;refine Y.B0 14 6001 rfl ?_;refine go ?_;exact⟨.bm [u s.length,.am .nilIface],an,.slice gn cu AD,ak,rfl,rfl,by rw[V4];rfl,ak⟩
theorem ahw(b:Nat)(p v:Value)(tg:iA)(xs s:auM)(aw:p=.pointer none\/p=qi b)(h0:0<s.length)(aj:xs.length+s.length<=100000000): c4 B 280 [.box 6000 b 0,.T tg 1 (nF s)] (aM (yE b p v xs)) λd aO=>∃c',True/\d=.bm [u (nF s).length,.am .nilIface]/\aO=aM (yE b (qi b) c' (xs++s)):=by refine EN Tryz.func280 Tryz.ntmps280 λW=>?_;refine go ?_;refine mq [(6000,6000),(6001,6001)] (V3 b p (.am v) (.row v (nF xs) 1 5) aw) ?_;refine .inr (ah.HX aN rfl rfl ?_);refine ej ?_;refine dc ?_;refine .inr (ah.ph aN 6001 rfl rfl rfl auG rfl rfl rfl (by rw[ui];exact h0) (by rw[ui,ui];show _*1<=_;omega) (by rw[ui,ui];omega) λgn cu AD=>?_);(conv=>whnf);refine dc ?_;refine .inr (ah.Ti aN rfl rfl rfl ?_);(conv=>whnf);refine dc ?_;refine Y.B0 14 6001 rfl ?_;refine go ?_;exact⟨.bm [u (nF s).length,.am .nilIface],an,.slice gn cu AD,ak,rfl,rfl,by rw[V4];rfl,ak⟩
theorem V6(b:Nat)(p v:Value)(xs:auM)(aj:xs.length<=100000000)(h0:0<xs.length): c4 B 107 [.box 6000 b 0] (aM (yE b p v xs)) λd aO=>d=.N xs/\aO=aM []:=by refine kv Tryz.func107 Tryz.ntmps107 λW=>?_;apply eh;refine go ?_;refine Y.ad5 6001 rfl (by rw[ui];exact h0) λd_ cap X pq x5=>?_;subst X;refine' eU (yE b p (.slice (some ⟨d_,0,none⟩) (nF xs).length cap) xs) 0 (λy=>[_,_,_,.am (.slice (some ⟨d_,0,none⟩) (nF xs).length cap),.am (.pointer (some ⟨d_,0,none⟩)),_,_,_,.am (.slice (some ⟨d_,0,none⟩) (nF xs).length cap),u (nF xs).length,.N xs,_]) (λy=>[(10,6001,none)]) [0,1,3,7,15,0,32,96,224,480,1023,2047] [(10,6001)] ?_ ?_;rotate_left 7;refine dB ?_;refine bQ (λy=>ah.HX aN rfl rfl ⟨rfl,cB y⟩) ?_;refine bQ (λy=>ah.adY rfl (by rw[ui]at pq;omega) (cB y)) ?_;refine bQ (λy=>ah.HX aN rfl rfl ⟨rfl,cB y⟩) ?_;refine bQ (λy=>ah.ad1 aN (b:=d_) (cap:=cap) (aP:=xs) 6001 auI rfl rfl (by rw[ui];rfl) rfl (by rw[ui];rfl) h0 auD (cB y)) ?_;exact trivial;intro _;(conv=>whnf);refine go ?_;exact⟨.N xs,E,rfl,ak⟩
theorem ahx(s p:auM):aT B 281 [.N s,.N p] (.bm [.N (Lib.trimPrefix s p),.bool (Lib.hasPrefix s p)]) :=
 .zK (jt Tryz.func281 rfl auH) rfl λw G=>(Tryz.strings_CutPrefix ⟨⟨s⟩⟩ ⟨⟨p⟩⟩ w).mono λe w' ⟨aq,cz⟩=>by
  subst cz
  exact⟨_,aq,λC=>.bm _ [_,_] rfl λi d v O X=>(by
   match i with
   |0=>cases O;cases X;exact .N _
   |1=>cases O;cases X;exact .bool _
   |i+2=>simp at O),.refl _ _⟩
theorem ahy(tg:iA)(l:List auM)(sep:auM)(h1:l.length<=1000000)(A:(Lib.join l sep).length<=140737488355328):aT B 232 [.T tg 1 (aQ l),.N sep] (.N (Lib.join l sep)):=by refine⟨jt Tryz.func232 rfl auH,λw C args G af=>?_⟩;(obtain⟨a,b,rfl⟩:∃a b,args=[a,b]:=by have:=af.1;match args,this with|[a,b],_=>exact⟨a,b,rfl⟩);have ahz:=(af.tail.head).kS;subst ahz;rcases af.head.kt with⟨J,⟨dT,rfl⟩,_⟩|⟨d_,o,cap,g,rfl,_,nV,hcap,nU,Z,da,gg,en,eX⟩;have r_:l=[]:=List.map_eq_nil_iff.1 J;subst r_;(exact(Tryz.strings_Join_none dT 0 ⟨⟨sep⟩⟩ w).mono λe w' ⟨aq,cz⟩=>by subst cz;exact⟨_,C,aq,.N [],.refl _ _ _⟩);(have hlen:(aQ l).length=(l.map λx=>(⟨⟨x⟩⟩:ByteArray)).length:=by simp[aQ]);(have zM:(l.map λx=>(⟨⟨x⟩⟩:ByteArray)).map (·.data.toList)=l:=by rw[avR];exact List.map_id' l);(have H3:b4 (aQ l)=aQ l:=by rw[rM];intro x J;exact azu);rw[hlen]at hcap⊢;refine(Tryz.strings_Join d_ o cap (l.map λx=>⟨⟨x⟩⟩) ⟨⟨sep⟩⟩ w (λj x ad=>?_) nV auE hcap (by rw[zM];exact A)).mono λe w' ⟨aq,cz⟩=>?_;rw[au']at ad;(cases J:l[j]? with|none=>rw[J]at ad;cases ad|some y =>rw[J]at ad;cases ad;(have O:(b4 (aQ l))[j]?=some (.N y):=by rw[H3,aQ,au',J];rfl);rw[gg j _ O,(eX j _ O).kS]);rw[zM]at aq;exact⟨_,C,aq,.N _,de.below cz⟩
def IW(k:Int):Int:=if k=0 then 4 else if k=1 then 8 else 10
theorem ahA(k:Int)(h0:0<=k)(h1:k<=2):aT B 234 [u k] (u (IW k)):=by obtain⟨i3,sX,qj,_⟩:=(aN.get (t:=3) rfl).1.pZ;refine fn Tryz.func234 Tryz.ntmps234 λW=>?_;refine go ?_;refine dR (ah.ady (q:=.i64) (gn:=4) (a2:=8) (a3:=10) auI sX qj (λw=>by rfl) rfl rfl rfl) ?_;refine dR (ah.aen (d:=u (IW k)) (n:=3) auI sX qj auI rfl rfl h0 auD (by(have:k=0\/k=1\/k=2:=by omega);rcases this with rfl|rfl|rfl<;>rfl)) ?_;exact t6
def hl(l:List Int):auM:=l.flatMap CF
theorem yF(l:List Int):(hl l).length=8*l.length:=by induction l with|nil=>rfl|cons x l aV=>simp only[hl,avF,auV,IT,auX]at*;omega
theorem ahB{l:List Int}(h:i<l.length):hl (l.take (i+1))=hl (l.take i)++CF l[i]:=by rw[hl,auU h,awx,axR];rfl
theorem Fz(tg:iA)(l:List Int)(h1:0<l.length)(A:l.length<=1000000)(h:∀x∈l,0<=x/\x<4294967296):aT B 233 [.T tg 1 (l.map (D.int .i64))] (.N (hl l)):=by refine fn Tryz.func233 Tryz.ntmps233 λW=>?_;refine go ?_;refine .inr (ah.Th aN rfl rfl λb=>?_);(conv=>whnf);refine Y.Tj 3 (dA:=[.am (.pointer none),.am (.slice none 0 0)]) rfl ⟨E,ap.rO,ak⟩ ?_;refine Y.qF 6001 1 5 ?_;refine go ?_;refine hf (λx:Nat×Value×Value=>x.1<=l.length/\(x.2.1=.pointer none\/x.2.1=qi b)) [3,8,9] [] (λx=>[(10,u x.1)]) (λx=>[(3,.kT b 164 [.am x.2.1,.am x.2.2]),(6001,.row x.2.2 (nF (hl (l.take x.1))) 1 5)]) (λx=>l.length-x.1) (0,.pointer none,.slice none 0 0) ⟨au7 _,.inl rfl⟩ [(3,3),(6001,6001)] ?_;rintro⟨i,p,v⟩ ⟨hi,aw⟩;dsimp only at hi aw⊢;refine go ?_;refine cb (t:=decide ((i:Int)<(l.map (D.int .i64)).length)) ?_ ?_<;>intro hc;(have c1:i<l.length:=by simpa using hc);have hm:=h l[i] (auT c1);refine go ?_;refine bq (ahg l[i] hm.1 hm.2) ?_;refine ps [(6000,3),(6001,6001)] (V5 b p v (hl (l.take i)) (CF l[i]) aw (by rw[IT,yF,au9];omega)) λc' _=>?_;refine fs (i+1,qi b,c') [(3,3),(6001,6001)] ⟨c1,.inr rfl⟩ (by dsimp only;omega) ⟨cX,rfl,?_⟩;rw[ahB c1];exact cX;(have c1:i=l.length:=by simp at hc;omega);subst c1;rw[au2];refine go ?_;refine mq [(6000,3),(6001,6001)] (V6 b p v (hl l) (by rw[yF];omega) (by rw[yF];omega)) ?_;exact t6
def qk(c:UInt8)(aU:auM):auM:=c::UInt8.ofNat aU.length::aU
theorem IX(c:UInt8)(aU:auM)(b:Nat)(p v:Value)(xs:auM)(aw:p=.pointer none\/p=qi b)(ar:aU.length<=255)(aj:xs.length<=10000000): c4 B 279 [.int .u8 c.toNat,.N aU,.box 6000 b 0] (aM (yE b p v xs)) λd aO=>∃c',True/\d=.bm []/\aO=aM (yE b (qi b) c' (xs++qk c aU)):=by(have e:(D.T .dZ 1 [.int .u8 c.toNat,.int .u8 (aU.length:Nat)])=.T .dZ 1 (nF [c,UInt8.ofNat aU.length]):=by(have:((UInt8.ofNat aU.length).toNat:Nat)=aU.length:=by simp;omega);simp only[nF,avc,awp,this]);refine EN Tryz.func279 Tryz.ntmps279 λW=>?_;refine go ?_;refine ps [(6000,6000),(6001,6001)] (ahw b p v .dZ xs [c,UInt8.ofNat aU.length] aw auF auE) λjr _=>?_;refine ps [(6000,6000),(6001,6001)] (V5 b (qi b) jr (xs++[c,UInt8.ofNat aU.length]) aU (.inr rfl) auE) λv2 _=>?_;exact⟨.bm [],ak,v2,ak,rfl,rfl,by rw[avr];rfl,ak⟩
def m6(p:auM):auM:=if p=[]then[]else if p=[46]then qk 2 []else if p=[46,46]then qk 4 []else qk 0 p
def vN(t:auM):auM:=(if Lib.hasPrefix t [47]=true then qk 8 []else[])++(cO 47 [] (Lib.trimPrefix t [47])).flatMap m6
theorem V7(p:auM):(m6 p).length<=p.length+2:=by
 unfold m6;repeat' split
 all_goals simp[qk]
theorem V8{c:UInt8}:∀(s p:auM),p≠[]->∃x r,cO c p s=x::r/\x≠[]
 |[],p,h=>⟨p,[],rfl,h⟩
 |b::r,p,h=>by rw[cO];split;exact⟨p,_,rfl,h⟩;exact V8 r (p++[b]) auF
theorem ahC{p:auM}(h:p≠[]):m6 p≠[]:=by unfold m6;rw[auN h];split;simp[qk];split<;>simp[qk]
theorem ahD(t:auM)(h:t≠[]):0<(vN t).length:=by rw[avY];unfold vN;by_cases aw:Lib.hasPrefix t [47]=true;rw[auO aw];simp[qk];rw[auN aw,av4];cases t with|nil=>exact absurd rfl h|cons b r =>have G:b≠47:=λe=>aw (by subst e;simp[Lib.hasPrefix,List.isPrefixOf]);(have ax:Lib.trimPrefix (b::r) [47]=b::r:=by rw[Iu,gA,auN G]);rw[ax,cO,auN G];obtain⟨x,q,I,J⟩:=V8 (c:=47) r ([]++[b]) auF;rw[I,avF];exact λe=>ahC J (axS.1 e).1
theorem ahE(aX:dk B)(t:auM)(ax:k7 t=true):aT B 235 [.N t] (.bm [.N (vN t),u 0]):=by
 have aZ:=ahD t (by rintro rfl;cases ax)
 have i7 : t.length<=128 := by unfold k7 at ax;split at ax;· cases ax
                               omega
 refine fn Tryz.func235 Tryz.ntmps235 λW=>?_;refine go ?_;refine bq (Iw aX t auD) ?_;refine H' (t:=!k7 t) (by rw[ax];rfl) ?_;refine .inr (ah.Th aN rfl rfl λb=>?_);(conv=>whnf);refine Y.Tj 4 (dA:=[.am (.pointer none),.am (.slice none 0 0)]) rfl ⟨E,ap.rO,ak⟩ ?_;refine Y.qF 6001 1 5 ?_;refine go ?_;refine bq (ahx t [47]) ?_;generalize l0:(if Lib.hasPrefix t [47]=true then qk 8 []else[])=pre;have dh:pre.length<=2:=by rw[<-l0];split<;>simp[qk]
 have ahF:(Lib.trimPrefix t [47]).length<=128:=by rw[Iu];exact av6 (Iv t) i7
 refine nt (λx:Value×Value=>x.1=.pointer none\/x.1=qi b) [4,5,6] [] (λ_=>[]) (λx=>[(4,.kT b 164 [.am x.1,.am x.2]),(6001,.row x.2 (nF pre) 1 5)]) ?_ ?_
 ·refine gV (t:=Lib.hasPrefix t [47]) (λhc=>?_) (λhc=>?_)
  ·rw[auO hc]at l0;refine ps [(6000,4),(6001,6001)] (IX 8 [] b (.pointer none) (.slice none 0 0) [] (.inl rfl) auF auF) λc' _=>?_;subst l0;exact gL (qi b,c') [(4,4),(6001,6001)] (.inr rfl)
  rw[auN (by simp[hc])]at l0;subst l0;exact gL (.pointer none,.slice none 0 0) [(4,4),(6001,6001)] (.inl rfl)
 rintro⟨sO,v0⟩ m5;dsimp only at m5⊢;refine go ?_;refine bq (It aX (Lib.trimPrefix t [47]) 47 auD) ?_;have fe:=rZ (c:=47) (Lib.trimPrefix t [47]) [];have n':vN t=pre++(cO 47 [] (Lib.trimPrefix t [47])).flatMap m6:=by rw[<-l0];rfl
 generalize cO 47 [] (Lib.trimPrefix t [47])=bP at*;have sa:bP.length<=129:=auD
 have yG:∀x∈bP,x.length<=128:=λx J=>by have:=fe.2 x J;simp at this;omega
 have dg:∀n,((bP.take n).flatMap m6).length<=130*n:=λn=>by
  induction n with
  |zero=>simp
  |succ n aV =>
   rcases au6 n bP.length with h|h
   ·rw[auU h,awx,auV,axR];have h1:=V7 bP[n];have A:=yG _ (auT h);omega
   rw[ave auD]at aV⊢;omega
 refine hf (λx:Nat×Value×Value=>x.1<=bP.length/\(x.2.1=.pointer none\/x.2.1=qi b)) [4,5,23,24] [] (λx=>[(25,u x.1)]) (λx=>[(4,.kT b 164 [.am x.2.1,.am x.2.2]),(6001,.row x.2.2 (nF (pre++(bP.take x.1).flatMap m6)) 1 5)]) (λx=>bP.length-x.1) (0,sO,v0) ⟨au7 _,m5⟩ [(4,4),(6001,6001)] ?_ (h1:=⟨cX,rfl,by simp only[aw2,List.flatMap_nil,avC];exact cX⟩);rintro⟨i,p,v⟩ ⟨hi,aw⟩;dsimp only at hi aw⊢;refine go ?_;refine cb (t:=decide ((i:Int)<(aQ bP).length)) ?_ ?_<;>intro hc
 ·have c1:i<bP.length:=by simp[aQ]at hc;omega
  have hm:=yG _ (auT c1);have j7:=dg i;have c2:(bP.take (i+1)).flatMap m6=(bP.take i).flatMap m6++m6 bP[i]:=by rw[auU c1,awx,axR]
  have ih:(pre++(bP.take i).flatMap m6).length<=1000000:=by rw[auV];omega
  refine go ?_;refine bJ (.N bP[i]) (z6 rfl c1) ?_;refine gV (t:=bP[i]==[]) (λhc=>?_) (λhc=>?_)
  ·have hj:bP[i]=[]:=by simpa using hc
   refine fs (i+1,p,v) [(4,4),(6001,6001)] ⟨c1,aw⟩ (by dsimp only;omega) ⟨cX,rfl,?_⟩;rw[c2,show m6 bP[i]=[]from auO hj,avC];exact cX
  have hj:bP[i]≠[]:=by simpa using hc
  refine gV (t:=bP[i]==[46]) (λhc=>?_) (λhc=>?_)
  ·have jP:bP[i]=[46]:=by simpa using hc
   refine ps [(6000,4),(6001,6001)] (IX 2 [] b p v (pre++(bP.take i).flatMap m6) aw auF auD) λc' _=>?_;refine fs (i+1,qi b,c') [(4,4),(6001,6001)] ⟨c1,.inr rfl⟩ (by dsimp only;omega) ⟨cX,rfl,?_⟩;rw[c2,show m6 bP[i]=qk 2 []from(auN hj).trans (auO jP),<-avr];exact cX
  have jP:bP[i]≠[46]:=by simpa using hc
  refine gV (t:=bP[i]==[46,46]) (λhc=>?_) (λhc=>?_)
  ·have pG:bP[i]=[46,46]:=by simpa using hc
   refine ps [(6000,4),(6001,6001)] (IX 4 [] b p v (pre++(bP.take i).flatMap m6) aw auF auD) λc' _=>?_;refine fs (i+1,qi b,c') [(4,4),(6001,6001)] ⟨c1,.inr rfl⟩ (by dsimp only;omega) ⟨cX,rfl,?_⟩;rw[c2,show m6 bP[i]=qk 4 []from(auN hj).trans ((auN jP).trans (auO pG)),<-avr];exact cX
  have pG:bP[i]≠[46,46]:=by simpa using hc
  refine ps [(6000,4),(6001,6001)] (IX 0 bP[i] b p v (pre++(bP.take i).flatMap m6) aw auD auD) λc' _=>?_;refine fs (i+1,qi b,c') [(4,4),(6001,6001)] ⟨c1,.inr rfl⟩ (by dsimp only;omega) ⟨cX,rfl,?_⟩;rw[c2,show m6 bP[i]=qk 0 bP[i]from(auN hj).trans ((auN jP).trans (auN pG)),<-avr];exact cX
 have c1:i=bP.length:=by simp[aQ]at hc;omega
 subst c1;rw[au2,<-n'];refine go ?_;refine mq [(6000,4),(6001,6001)] (V6 b p v (vN t) (by rw[n',auV];have:=dg bP.length;rw[au2]at this;omega) aZ) ?_;exact an
theorem V9(t:auM)(ax:k7 t=true):(vN t).length<=20000:=by
 have i7 : t.length<=128 := by unfold k7 at ax;split at ax;· cases ax
                               omega
 have ahF:(Lib.trimPrefix t [47]).length<=128:=by rw[Iu];exact av6 (Iv t) i7
 have fe:=rZ (c:=47) (Lib.trimPrefix t [47]) []
 have dg:∀(bP:List auM),(∀x∈bP,x.length<=128)->(bP.flatMap m6).length<=130*bP.length:=λbP=>by
  induction bP with
  |nil=>simp
  |cons x r aV =>
   intro J;have h1:=aV λy hy=>J y (.tail _ hy);have A:=V7 x;have aa:=J x (.head _);simp only[avF,auV,auX];omega
 have:=dg _ (λx J=>by have:=fe.2 x J;simp at this;omega);unfold vN;rw[auV];have f1:(qk 8 []).length=2:=rfl;split
 ·omega
 rw[avh];omega
def yH(n:Int):Int:=(33+n+1).tdiv 2*2
def N6(n:Int):Int:=(n+1).tdiv 2*2
def IY(i ao:Int):Bool:=bif (bif (bif (bif decide (i<1)then true else decide (254<i))then true else decide (ao<0))then true else decide (254<ao))then true else ao.tmod 2 !=0
def vO(i ao:Int):Int:=if IY i ao=true then 0 else if yH i+ao<=254 then yH i+ao else 0
theorem ahG(n:Int)(h0:0<=n)(h1:n<1000000000000):aT B 242 [u n] (u (yH n)):=by refine bB Tryz.func242 Tryz.ntmps242 λW=>?_;apply b1;apply b1;refine vh ?_;refine⟨λ_=>by omega,?_⟩;refine go ?_;have I:(33+n+1).tdiv 2=(33+n+1)/2:=au4 auD;refine go ?_;exact E
theorem ahH(n:Int)(h0:0<=n)(h1:n<1000000000000):aT B 250 [u n] (u (N6 n)):=by refine bB Tryz.func250 Tryz.ntmps250 λW=>?_;apply b1;apply b1;refine lq ?_;refine⟨λ_=>by omega,?_⟩;refine go ?_;have I:(n+1).tdiv 2=(n+1)/2:=au4 auD;refine go ?_;exact E
theorem V_(n:Int)(h0:0<=n)(h1:n<1000000000000):aT B 171 [u n] (u (kc n)):=by refine bB Tryz.func171 Tryz.ntmps171 λW=>?_;exact ayq
theorem ahI{i ao:Int}(h:IY i ao=false):1<=i/\i<=254/\0<=ao/\ao<=254:=by revert h;unfold IY;cases h1:decide (i<1)<;>cases A:decide (254<i)<;>cases aa:decide (ao<0)<;>cases aF:decide (254<ao)<;>simp at h1 A aa aF⊢<;>omega
theorem ahJ{i:Int}(h0:0<=i)(h1:i<=1000):33<=yH i/\yH i<=1100:=by unfold yH;rw[au4 auD];omega
theorem V'(i ao:Int):aT B 174 [u i,u ao] (u (vO i ao)):=by refine bB Tryz.func174 Tryz.ntmps174 λW=>?_;apply b1;refine gj ?_;refine il ?_;refine il ?_;refine il ?_;refine mR ?_;refine⟨λh=>by omega,?_⟩;refine go ?_;refine aI (IY i ao) rfl ?_ ?_<;>intro hc;refine go ?_;rw[vO,auO hc];exact E;refine go ?_;obtain⟨AE,qO,asM,asN⟩:=ahI hc;have aw:=ahJ (i:=i) auD auD;rw[vO,auN (by rw[hc];decide)];refine go ?_;refine bq (ahG i auD auD) ?_;refine aI _ rfl ?_ ?_<;>intro hc;refine go ?_;rw[auO (by simpa using hc)];exact E;refine go ?_;rw[auN (by simpa using hc)];exact E
theorem ahK(b6:Nat):aT B 229 [.fn (.func b6) [] []] (.T .none 3 []):=by refine bB Tryz.func229 Tryz.ntmps229 λW=>?_;refine go ?_;exact ap.nil
def uj(n:Int):Bool:=bif (bif decide (n<34)then true else decide (254<n))then true else n.tmod 2 !=0
def s6(oX n:Int):Int:=if 2048-oX.tmod 2048<n then oX+(2048-oX.tmod 2048)else oX
def IZ(q:List Int×Int)(n:Int):List Int×Int:=(q.1++[s6 q.2 n],s6 q.2 n+n)
def oj(l:List Int):List Int×Int:=l.foldl IZ ([],0)
def sb(l:List Int):List Int×Int×Bool:=if l.any uj=true then([],0,false)else((oj l).1,(oj l).2,true)
theorem Wa{l:List Int}(h:i<l.length):oj (l.take (i+1))=IZ (oj (l.take i)) l[i]:=by rw[oj,oj,auU h,avW];rfl
theorem Wb(a n:Int)(h0:0<=a)(ar:n<=254):a<=s6 a n/\s6 a n<=a+2048:=by unfold s6;rw[avH h0];split<;>omega
theorem FA{n:Int}(h:uj n=false):34<=n/\n<=254:=by revert h;unfold uj;cases h1:decide (n<34)<;>cases A:decide (254<n)<;>simp at h1 A⊢<;>omega
theorem N7{l:List Int}(aj:∀j (ad:j<l.length),uj l[j]=false):∀k,k<=l.length->(oj (l.take k)).1.length=k/\0<=(oj (l.take k)).2/\(oj (l.take k)).2<=2302*(k:Int)
 |0,_=>by simp[oj]
 |k+1,Z=>by(have fv:k<l.length:=by omega);obtain⟨h1,A,aa⟩:=N7 aj k auD;have aF:=FA (aj k fv);have a8:=Wb (oj (l.take k)).2 l[k] A aF.2;rw[Wa fv];simp only[IZ,auV,auX,avh];omega
theorem ahL(l:List Int)(aj:l.length<1000000):aT B 251 [.T .none 1 (bo l)] (.bm [.T .none 1 (bo (sb l).1),u (sb l).2.1,.bool (sb l).2.2]):=by
 refine bB Tryz.func251 Tryz.ntmps251 λW=>?_;apply b1;apply b1;apply b1;refine p9 ?_;refine Y.own 5 1000 1 3 rfl (λw=>?_);refine go ?_
 refine Y.ee (α:={i:Nat // i<=l.length/\∀j (ad:j<l.length),j<i->uj l[j]=false}×Value) (λx=>[(5,.T (.own 1000 x.2) 1 (bo (oj (l.take x.1.1)).1)),(6,u (oj (l.take x.1.1)).2),(10,.T .none 1 (bo l)),(11,u ((bo l).length:Nat)),(12,u x.1.1)])
  (λx=>[(1000,.own x.2 (bo (oj (l.take x.1.1)).1).length 1 3)]) (λx=>l.length-x.1.1) (⟨0,by omega,λj _ h=>by omega⟩,w) [(1000,1000)]
  ⟨an,rfl,a_⟩ ?_
 rintro⟨⟨i,hi,cD⟩,w⟩;dsimp only at hi cD⊢;refine go ?_;refine aI (decide ((i:Int)<((bo l).length:Nat))) rfl ?_ ?_<;>intro hc
 ·apply ci;have aG:i<l.length:=by simpa[bo]using hc
  have c2:=Wa aG;have i7:(l.take i).length=i:=by rw[au9];omega
  have oZ:=N7 (l:=l.take i) (λj ad=>by rw[List.getElem_take];exact cD j auD auD) i auD;rw[List.take_take,Nat.min_self]at oZ;obtain⟨hj,jP,pG⟩:=oZ;generalize hE:oj (l.take i)=ahM at*;obtain⟨ck,oX⟩:=ahM;dsimp only at hj jP pG;refine gJ ?_;refine⟨λ_=>by simp[bo];omega,?_⟩;refine go ?_;refine⟨u l[i],λ_=>by simp[bo,aG],?_⟩;refine gj ?_;refine il ?_;refine mR ?_;refine⟨λh=>by omega,?_⟩;refine go ?_;refine aI (uj l[i]) rfl ?_ ?_<;>intro bx
  ·refine go ?_;have G:l.any uj=true:=av'.2 ⟨l[i],auT aG,bx⟩;rw[sb,auO G];exact⟨ap.nil,E,E,ak⟩
  apply ci;have AF:=FA bx;have uk:=Wb oX l[i] jP AF.2;have I:oX.tmod 2048=oX%2048:=avH jP;(conv=>whnf);refine Y.k0 (α:=Unit) (λx=>[(5,.T (.own 1000 w) 1 (bo ck)),(6,u (s6 oX l[i])),(8,u l[i]),(10,.T .none 1 (bo l)),(11,u ((bo l).length:Nat)),(12,u i)]) (λx=>[(1000,.own w (bo ck).length 1 3)]) ?_ ?_
  ·refine cc ?_;refine⟨λ_=>by omega,?_⟩;refine go ?_;refine aI (decide (2048-oX.tmod 2048<l[i])) rfl ?_ ?_<;>intro eb
   ·refine go ?_;exact⟨(),[(1000,1000)],⟨E,ap.of_eq (auP (D.int .i64) (by rw[s6,auO (by simpa using eb)])),E,E,E,E,ak⟩,rfl,a_⟩
   refine go ?_;exact⟨(),[(1000,1000)],⟨E,ap.of_eq (auP (D.int .i64) (by rw[s6,auN (by simpa using eb)])),E,E,E,E,ak⟩,rfl,a_⟩
  rintro⟨⟩;have c1:(bo ck).length=i:=by rw[bo,auS,hj]
  refine cc ?_;refine mm ?_;refine⟨by show(_+1)*8<=_;omega,by show _+1<=_;omega,auK,λgO=>?_⟩;refine go ?_;have aq:(oj (l.take (i+1))).1=ck++[s6 oX l[i]]:=by rw[c2];rfl
  have FB:(oj (l.take (i+1))).2=s6 oX l[i]+l[i]:=by rw[c2];rfl
  exact⟨(⟨i + 1,aG,λj ad h => by rcases au6 j i with lF|lF
                                 ·exact cD j ad lF
                                 have:j=i:=auD
                                 subst this;exact bx⟩,gO),[(1000,39)],azh,⟨ap.i' (by rw[aq,bo,bo,avo];rfl),ap.of_eq (auP (D.int .i64) FB.symm),E,E,E,ak⟩,rfl,rfl,jq (by rw[aq,bo,bo,avo];simp),ak⟩
 have cr:i=l.length:=by simp[bo]at hc;omega
 subst cr
 have G:¬l.any uj=true:=by
  rw[av'];rintro⟨x,J,yI⟩;obtain⟨j,ad,rfl⟩:=avm.1 J;rw[cD j ad ad]at yI;cases yI
 rw[au2,sb,auN G];refine go ?_;exact⟨ap.mf,E,E,ak⟩
def yJ(l:List Int):Int:=((sb l).2.1+2048-1).tdiv 2048
theorem Wc(l:List Int)(aj:l.length<1000000):0<=(sb l).2.1/\(sb l).2.1<=2302000000:=by unfold sb;split;decide;rename_i h;have:=N7 (l:=l) (λj ad=>by cases G:uj l[j]with|false=>rfl|true=>exact absurd (av'.2 ⟨l[j],auT ad,G⟩) h) l.length (auW _);rw[au2]at this;simp only;omega
theorem ahN(l:List Int)(aj:l.length<1000000):0<=yJ l/\yJ l<=2000000:=by have:=Wc l aj;unfold yJ;rw[au4 auD];omega
theorem ahO(l:List Int)(aj:l.length<1000000):aT B 180 [.T .none 1 (bo l)] (u (yJ l)):=by refine bB Tryz.func180 Tryz.ntmps180 λW=>?_;refine cc ?_;have oZ:=Wc l aj;have I:((sb l).2.1+2048-1).tdiv 2048=((sb l).2.1+2048-1)/2048:=au4 auD;refine cc ?_;refine⟨[.T .none 1 (bo l)],_,λ_=>ahL l aj,an,?_⟩;apply b1;refine vh ?_;refine⟨λ_=>by omega,?_⟩;refine go ?_;exact E
structure c7 where
 ql:auM
 FC:Int
 data:auM
 deriving Inhabited
def AG(x:c7):D:=.agg [.N x.ql,u x.FC,.N x.data]
def eL(l:List c7):List D:=l.map AG
def ir(l:List c7):Int:=l.foldl (λn x=>n+(4+(x.data.length:Nat))) 0
theorem I0{l:List c7}(h:i<l.length):ir (l.take (i+1))=ir (l.take i)+(4+(l[i].data.length:Nat)):=by rw[ir,ir,auU h,avW];rfl
theorem FD{l:List c7}(O:∀x∈l,x.data.length<1000000):∀k,k<=l.length->0<=ir (l.take k)/\ir (l.take k)<=1000004*(k:Int)
 |0,_=>by simp[ir]
 |k+1,Z=>by have:=FD O k auD;have A:=O _ (auT (show k<l.length by omega));rw[I0 auD];omega
theorem I1(l:List c7)(aj:l.length<1000000)(O:∀x∈l,x.data.length<1000000):aT B 241 [.T .none 3 (eL l)] (u (ir l)):=by refine bB Tryz.func241 Tryz.ntmps241 λW=>?_;refine go ?_;refine Y.ee (α:={i:Nat // i<=l.length}) (λx=>[(3,u (ir (l.take x.1))),(6,.T .none 3 (eL l)),(7,u ((eL l).length:Nat)),(8,u x.1)]) (λ_=>[]) (λx=>l.length-x.1) ⟨0,by omega⟩ [] ⟨an,rfl,ak⟩ ?_;rintro⟨i,hi⟩;dsimp only at hi⊢;refine go ?_;refine aI (decide ((i:Int)<((eL l).length:Nat))) rfl ?_ ?_<;>intro hc;apply ci;(have aG:i<l.length:=by simpa[eL]using hc);have AF:=FD O i hi;have c2:=I0 aG;have lW:=O _ (auT aG);generalize gU:ir (l.take i)=S at*;refine gJ ?_;refine⟨λ_=>by simp[eL];omega,?_⟩;refine go ?_;refine⟨AG l[i],λ_=>by simp[eL,aG],?_⟩;refine go ?_;intro cF;refine go ?_;exact⟨⟨i+1,aG⟩,[],azh,⟨ap.of_eq (auP (D.int .i64) c2.symm),E,E,E,ak⟩,rfl,ak⟩;refine go ?_;(have cr:i=l.length:=by simp[eL]at hc;omega);exact azf
def FE(c:Int):Bool:=bif (bif decide (c<65)then true else decide (90<c))then(bif decide (c<48)then true else decide (57<c))else false
def FF(s:auM):Bool:=if(s.any λc=>FE (c.toNat:Nat))=true then false else((s.length:Nat):Int)==2
theorem ahP(s:auM)(hs:s.length<1000000000):aT B 289 [.N s] (.bool (FF s)):=by
 refine bB Tryz.func289 Tryz.ntmps289 λW=>?_;refine go ?_;refine .inr (ah.rT aN rfl rfl rfl rfl rfl rfl rfl auD ?_);refine go ?_;refine Y.ee (α:={i:Nat // i<=s.length/\∀j (ad:j<s.length),j<i->FE (s[j].toNat:Nat)=false}) (λx=>[(0,.N s),(6,.T .none 1 (s.map λc=>D.int .u8 c.toNat)),(7,u ((s.map λc=>D.int .u8 c.toNat).length:Nat)),(8,u x.1)]) (λ_=>[]) (λx=>s.length-x.1) ⟨0,by omega,λj _ h=>by omega⟩ [] ⟨an,rfl,ak⟩ ?_;rintro⟨i,hi,cD⟩;dsimp only at hi cD⊢;refine go ?_;refine aI (decide ((i:Int)<((s.map λc=>D.int .u8 c.toNat).length:Nat))) rfl ?_ ?_<;>intro hc
 ·apply ci;have aG:i<s.length:=by simpa using hc
  refine gJ ?_;refine⟨λ_=>by rw[auS];omega,?_⟩;(conv=>whnf);refine⟨.int .u8 (s[i].toNat:Nat),λ_=>by simp[aG],?_⟩;refine go ?_;refine aI (FE (s[i].toNat:Nat)) rfl ?_ ?_<;>intro bx
  ·refine go ?_;have G:(s.any λc=>FE (c.toNat:Nat))=true:=av'.2 ⟨s[i],auT aG,bx⟩;rw[FF,auO G];exact E
  refine go ?_
  exact⟨⟨i + 1,aG,λj ad h => by rcases au6 j i with lF|lF
                                ·exact cD j ad lF
                                have:j=i:=auD
                                subst this;exact bx⟩,[],azg,an,rfl,ak⟩
 refine go ?_;have cr:i=s.length:=by simp at hc;omega
 subst cr
 have G:¬(s.any λc=>FE (c.toNat:Nat))=true:=by
  rw[av'];rintro⟨x,J,yI⟩;obtain⟨j,ad,rfl⟩:=avm.1 J;rw[cD j ad ad]at yI;cases yI
 rw[FF,auN G];refine go ?_;exact E
def xe(x:c7):Option Int :=
 if(!FF x.ql)=true then some 1 else if(bif decide (x.FC<0)then true else decide (255<x.FC))=true then some 2 else if(251:Int)<(x.data.length:Nat)then some 7 else none
def xf(l:List c7):Int:=if(1024:Int)<((eL l).length:Nat)then 7 else(l.findSome? xe).getD 0
theorem FG{bL:Type}{p:bL->Option Int}{l:List bL}{e:Int}(h:i<l.length)(ar:∀j (ad:j<l.length),j<i->p l[j]=none)(aq:p l[i]=some e):l.findSome? p=some e:=by induction l generalizing i with|nil=>simp at h|cons a r aV =>(cases i with|zero=>simp at aq;simp[aq]|succ i =>have h0:=ar 0 auF auD;simp at h0;rw[List.findSome?_cons,h0];exact aV (i:=i) (by simpa using h) (λj ad fq=>ar (j+1) (by simpa using ad) auD) (by simpa using aq))
theorem N8{bL:Type}{p:bL->Option Int}{l:List bL}(ar:∀j (ad:j<l.length),p l[j]=none):l.findSome? p=none :=
 List.findSome?_eq_none_iff.2 λx J=>by obtain⟨j,ad,rfl⟩:=avm.1 J;exact ar j ad
theorem ahQ(l:List c7)(aj:l.length<1000000)(O:∀x∈l,x.ql.length<1000000/\x.data.length<1000000):aT B 240 [.T .none 3 (eL l)] (u (xf l)):=by
 refine bB Tryz.func240 Tryz.ntmps240 λW=>?_;refine go ?_;refine aI (decide ((1024:Int)<((eL l).length:Nat))) rfl ?_ ?_<;>intro hc
 ·refine go ?_;rw[xf,auO (by simpa using hc)];exact E
 refine go ?_;rw[xf,auN (by simpa using hc)];refine go ?_;refine Y.ee (α:={i:Nat // i<=l.length/\∀j (ad:j<l.length),j<i->xe l[j]=none}) (λx=>[(8,.T .none 3 (eL l)),(9,u ((eL l).length:Nat)),(10,u x.1)]) (λ_=>[]) (λx=>l.length-x.1) ⟨0,by omega,λj _ h=>by omega⟩ [] ⟨an,rfl,ak⟩ ?_;rintro⟨i,hi,cD⟩;dsimp only at hi cD⊢;refine go ?_;refine aI (decide ((i:Int)<((eL l).length:Nat))) rfl ?_ ?_<;>intro bx
 ·apply ci;have aG:i<l.length:=by simpa[eL]using bx
  have lW:=O _ (auT aG);refine gJ ?_;refine⟨λ_=>by simp[eL];omega,?_⟩;refine go ?_;refine⟨AG l[i],λ_=>by simp[eL,aG],?_⟩;refine go ?_;intro cJ;refine go ?_;refine bq (ahP l[i].ql auD) ?_;refine aI (!FF l[i].ql) rfl ?_ ?_<;>intro eb
  ·refine go ?_;rw[FG aG cD (e:=1) (by rw[xe,auO eb])];exact E
  refine go ?_;refine aI (bif decide (l[i].FC<0)then true else decide (255<l[i].FC)) rfl ?_ ?_<;>intro od
  ·refine go ?_;rw[FG aG cD (e:=2) (by rw[xe,auN (by rw[eb];decide),auO od])];exact E
  refine go ?_;refine aI (decide ((251:Int)<(l[i].data.length:Nat))) rfl ?_ ?_<;>intro AC
  ·refine go ?_;rw[FG aG cD (e:=7) (by rw[xe,auN (by rw[eb];decide),auN (by rw[od];decide),auO (by simpa using AC)])];exact E
  refine go ?_
  exact⟨⟨i + 1,aG,λj ad h => by rcases au6 j i with lF|lF
                                ·exact cD j ad lF
                                have:j=i:=auD
                                subst this;rw[xe,auN (by rw[eb];decide),auN (by rw[od];decide),auN (by simpa using AC)]⟩,[],azh,an,rfl,ak⟩
 have cr:i=l.length:=by simp[eL]at bx;omega
 subst cr;rw[N8 λj ad=>cD j ad ad];refine go ?_;exact E
theorem FH(a b:auM):Lib.join [a,b] []=a++b:=by rw[Lib.join_cons];simp[Lib.joinTail]
theorem ul(c:Bool)(Fx:auM)(tg:iA)(l:List auM)(b:Nat)(v:Value)(xs:List D)(aj:l.length<=1000000)(ad:(Lib.join l []).length<=140737488355328)(J:xs.length<=1000000): c4 B 231 [.bool c,.N Fx,.T tg 1 (aQ l),.box 7000 b 0] (aM [(7000,.box b [.am v]),(7001,.row v xs 3 238)]) λd aO=>∃c',True/\d=.bm []/\aO=aM [(7000,.box b [.am c']),(7001,.row c' (xs++if c=true then[lE Fx (Lib.join l [])]else[]) 3 238)]:=by refine EN Tryz.func231 Tryz.ntmps231 λW=>Y.To ?_;refine go ?_;refine gV (t:=c) (λhc=>?_) (λhc=>?_);refine Y.x2 aN 6 mixed auH ?_;(conv=>whnf);refine go ?_;refine bq (ahy tg l [] aj ad) ?_;refine .inr (ah.ph aN 7001 rfl rfl rfl auG rfl rfl rfl auF (by show(_+1)*40<=_;omega) (by show _+1<=_;omega) λgn cu AD=>?_);(conv=>whnf);refine go ?_;subst hc;refine TI [] [(7000,.box b [.am (.slice gn cu AD)]),(7001,.row (.slice gn cu AD) (xs++[lE Fx (Lib.join l [])]) 3 238)] [(7000,7000),(7001,14)] ?_;exact⟨.bm [],ak,.slice gn cu AD,ak,rfl,a_⟩;subst hc;refine TI [] [(7000,.box b [.am v]),(7001,.row v xs 3 238)] [(7000,7000),(7001,7001)] ?_;exact⟨.bm [],ak,v,ak,rfl,rfl,auP (λQ=>some (aJ.row v Q 3 238)) (avC xs).symm,ak⟩
def um(hk kind:Int):Int:=qy .or .i64 hk (IntKind.i64.wrap (IW kind*2 ^ min (Int.toNat 12) IntKind.i64.bits))
def uo(kind hk kd ke kf:Int)(named:Bool)(name target:auM)(fj bX:Int)(jQ:Bool):List c7 :=
 ⟨[80,88],1,hl [um hk kind,kd,ke,kf]⟩::((if named=true then[⟨[78,77],1,[0]++name⟩]else[])++((if target≠[]then[⟨[83,76],1,[0]++vN target⟩]else[]) ++
  (⟨[84,70],1,[2]++(vL fj 0).1⟩::((if bX≠0 then[⟨[67,76],1,hl [bX]⟩]else[])++if jQ=true then[⟨[82,69],1,[]⟩]else[]))))
theorem Wd(aX:dk B)(kind hk kd ke kf:Int)(named:Bool)(name target:auM)(fj bX:Int)(jQ:Bool)(h:N4 kind hk kd ke kf named name target fj bX)(N9:0<=um hk kind/\um hk kind<4294967296)(We:∀x∈[kd,ke,kf,bX],0<=x/\x<4294967296): aT B 162 [r' true kind hk kd ke kf named name target true fj bX 0 jQ] (.bm [.T .none 3 (eL (uo kind hk kd ke kf named name target fj bX jQ)),u 0]):=by refine fn Tryz.func162 Tryz.ntmps162 λW=>?_;refine go ?_;intro dI;(conv=>whnf);refine go ?_;refine bq (ahp aX kind hk kd ke kf named name target fj bX jQ h) ?_;intro cF;(conv=>whnf);refine Y.jo 5 (dA:=[.am (.slice none 0 0)]) rfl ⟨ap.rO,ak⟩ ?_;refine Y.qF 7001 3 238 ?_;refine go ?_;have ahR:=ahA (B:=B) kind h.gz h.cP;have ahS:=Fz (B:=B) .dZ [um hk kind,kd,ke,kf] auF auF (λx J=>by rcases au8.1 J with rfl|J;exact N9;exact We x (by simp at J⊢;rcases J with rfl|rfl|rfl<;>simp));let CH:List D:=(r' true kind hk kd ke kf named name target true fj bX 0 jQ).cells;let FI:List D:=[]++if(true:Bool)=true then[lE [80,88] (Lib.join [hl [um hk kind,kd,ke,kf]] [])]else[];let FJ:List D:=FI++if named=true then[lE [78,77] (Lib.join [[0],name] [])]else[];let yK:List D:=FJ++if target≠[]then[lE [83,76] (Lib.join [[0],vN target] [])]else[];let o0:List D:=yK++if(true:Bool)=true then[lE [84,70] (Lib.join [[2],(vL fj 0).1] [])]else[];let pK:List D:=o0++if(bX !=0)=true then[lE [67,76] (Lib.join [hl [bX]] [])]else[];let vP:List D:=pK++if((0:Int)!=0)=true then[lE [80,76] (Lib.join [hl [0]] [])]else[];let Wf:List D:=vP++if jQ=true then[lE [82,69] (Lib.join [] [])]else[];(have dL:FI.length<=1:=by simp[FI]);(have cC:FJ.length<=2:=by simp only[FJ,auV];split<;>simp<;>omega);(have uq:yK.length<=3:=by simp only[yK,auV];split<;>simp<;>omega);(have I2:o0.length<=4:=by simp only[o0,auV];split<;>simp<;>omega);(have ahT:pK.length<=5:=by simp only[pK,auV];split<;>simp<;>omega);(have ahU:vP.length<=6:=by simp only[vP,auV];split<;>simp<;>omega);refine' eU [(1,.box dI CH),(5,.box cF [.am (.slice none 0 0)]),(7001,.row (.slice none 0 0) [] 3 238)] (α:=Value) (.slice none 0 0) (λy=>[_,_,_,_,_,_,_,_,_,_,_,_,_,_,_,_,_,.bm []]) (λy=>[(17,5,some (.box cF [.am y])),(17,7001,some (.row y ([]++if(true)=true then[lE [80,88] (Lib.join [(hl [um hk kind,kd,ke,kf])] [])]else[]) 3 238))]) [0,0,2,0,8,24,56,126,0,256,0,1024,0,4096,16382,32766,65534,131071] [(17,5),(17,7001)] ?_ ?_;rotate_left 17;refine dB ?_;refine bQ (λy=>ah.yi rfl [.bool (true),.N [80,88],.T .dZ 1 (aQ [(hl [um hk kind,kd,ke,kf])]),.box 7000 cF 0] [(7000,5),(7001,7001)] rV (ul (true) [80,88] .dZ [(hl [um hk kind,kd,ke,kf])] cF (.slice none 0 0) [] auF (by simp[Lib.join_one,yF]) auF) rfl ja λc' _=>ed c') ?_;exact trivial;intro jr;(conv=>whnf);refine go ?_;clear ahS ahR;refine ps [(7000,5),(7001,7001)] (ul named [78,77] .dZ [[0],name] cF jr FI auF (by rw[FH];simp;have:=h.CG;omega) auD) λv2 _=>?_;refine nt (α:=Value) (λ_=>True) [1,5,6] [1] (λ_=>[]) (λx=>[(5,.box cF [.am x]),(7001,.row x yK 3 238)]) ?_ ?_;refine gV (t:=target !=[]) (λhc=>?_) (λhc=>?_);(have ax:target≠[]:=by simpa using hc);refine bq (ahE aX target (h.t.resolve_left ax)) ?_;refine ps [(7000,5),(7001,7001)] (ul true [83,76] .dZ [[0],vN target] cF v2 FJ auF (by rw[FH];have:=V9 target (h.t.resolve_left ax);simp;omega) auD) λv3 _=>?_;refine gL v3 [(1,1),(5,5),(7001,7001)] trivial ⟨cX,rfl,?_⟩;simp only[yK,auO ax];exact cX;(have ax:target=[]:=by simpa using hc);refine gL v2 [(1,1),(5,5),(7001,7001)] trivial ⟨cX,rfl,?_⟩;simp only[yK,auN (show¬target≠[]from λh=>h ax),avC];exact cX;intro v3 _;refine go ?_;refine bq (VR fj 0) ?_;refine ps [(7000,5),(7001,7001)] (ul true [84,70] .dZ [[2],(vL fj 0).1] cF v3 yK auF (by rw[FH];have:=VS fj 0;simp;omega) auD) λv4 _=>?_;have ahV:=Fz (B:=B) .dZ [bX] auF auF (λx J=>We x (by simp at J⊢;simp[J]));refine' eU [(1,.box dI CH),(5,.box cF [.am v4]),(7001,.row v4 o0 3 238)] (α:=Value) v4 (λy=>[_,_,_,_,_,_,_,_,_,.bm []]) (λy=>[(9,5,some (.box cF [.am y])),(9,7001,some (.row y (o0++if(bX !=0)=true then[lE [67,76] (Lib.join [(hl [bX])] [])]else[]) 3 238))]) [0,0,2,6,0,16,48,112,240,511] [(9,5),(9,7001)] ?_ ?_;rotate_left 9;refine dB ?_;refine bQ (λy=>ah.yi rfl [.bool (bX !=0),.N [67,76],.T .dZ 1 (aQ [(hl [bX])]),.box 7000 cF 0] [(7000,5),(7001,7001)] rV (ul (bX !=0) [67,76] .dZ [(hl [bX])] cF v4 o0 auF (by simp[Lib.join_one,yF]) auD) rfl ja λc' _=>ed c') ?_;exact trivial;intro v5;(conv=>whnf);refine go ?_;clear ahV;have Wg:=Fz (B:=B) .dZ [0] auF auF (λx J=>by simp at J;omega);refine' eU [(1,.box dI CH),(5,.box cF [.am v5]),(7001,.row v5 pK 3 238)] (α:=Value) v5 (λy=>[_,_,_,_,_,_,_,_,_,.bm []]) (λy=>[(9,5,some (.box cF [.am y])),(9,7001,some (.row y (pK++if((0:Int)!=0)=true then[lE [80,76] (Lib.join [(hl [0])] [])]else[]) 3 238))]) [0,0,2,6,0,16,48,112,240,511] [(9,5),(9,7001)] ?_ ?_;rotate_left 9;refine dB ?_;refine bQ (λy=>ah.yi rfl [.bool ((0:Int)!=0),.N [80,76],.T .dZ 1 (aQ [(hl [0])]),.box 7000 cF 0] [(7000,5),(7001,7001)] rV (ul ((0:Int)!=0) [80,76] .dZ [(hl [0])] cF v5 pK auF (by simp[Lib.join_one,yF]) auD) rfl ja λc' _=>ed c') ?_;exact trivial;intro B2;(conv=>whnf);refine go ?_;refine .inr (ah.yi rfl [.bool jQ,.N [82,69],.T .none 1 (aQ []),.box 7000 cF 0] [(7000,5),(7001,7001)] rV (ul jQ [82,69] .none [] cF B2 vP auF (by simp[Lib.join_nil]) auD) rfl ja λH2 _=>?_);(conv=>whnf);refine dc ?_;refine Y.HH 7001 5 0 rfl rfl auG rfl ?_;(have e:Wf=eL (uo kind hk kd ke kf named name target fj bX jQ):=by simp only[FI,FJ,yK,o0,pK,vP,Wf,uo,eL,FH,Lib.join_one,Lib.join_nil,avV,bne_self_eq_false,avT,awq,avC,av4,avc,avo];by_cases h1:target=[]<;>by_cases A:bX=0<;>cases named<;>cases jQ<;>simp[h1,A,lE,AG]);refine go ?_;exact⟨.of_eq (auP (D.T .none 3) e),E,ak⟩
theorem ahW(aX:dk B):aT B 162 [r' false 0 0 0 0 0 false [] [] false 0 0 1 false] (.bm [.T .none 3 (eL [⟨[80,76],1,hl [1]⟩]),u 0]):=by refine fn Tryz.func162 Tryz.ntmps162 λW=>?_;refine go ?_;intro dI;(conv=>whnf);refine go ?_;refine bq (ahq aX) ?_;intro cF;(conv=>whnf);refine Y.jo 5 (dA:=[.am (.slice none 0 0)]) rfl ⟨ap.rO,ak⟩ ?_;refine Y.qF 7001 3 238 ?_;let CH:List D:=(r' false 0 0 0 0 0 false [] [] false 0 0 1 false).cells;let o0:List D:=[]++if(false:Bool)=true then[lE [78,77] (Lib.join [[0],[]] [])]else[];let pK:List D:=o0++if((0:Int)!=0)=true then[lE [67,76] (Lib.join [hl [0]] [])]else[];let vP:List D:=pK++if((1:Int)!=0)=true then[lE [80,76] (Lib.join [hl [1]] [])]else[];(have I2:o0.length<=1:=by simp[o0]);(have ahT:pK.length<=1:=by simp[pK,o0]);(have ahU:vP.length<=1:=by simp[vP,pK,o0]);refine go ?_;refine ps [(7000,5),(7001,7001)] (ul false [78,77] .dZ [[0],[]] cF (.slice none 0 0) [] auF (by rw[FH];simp) auF) λv2 _=>?_;have Wg:=Fz (B:=B) .dZ [0] auF auF (λx J=>by simp at J;omega);refine' eU [(1,.box dI CH),(5,.box cF [.am v2]),(7001,.row v2 o0 3 238)] (α:=Value) v2 (λy=>[_,_,_,_,_,_,_,_,_,.bm []]) (λy=>[(9,5,some (.box cF [.am y])),(9,7001,some (.row y (o0++if((0:Int)!=0)=true then[lE [67,76] (Lib.join [(hl [0])] [])]else[]) 3 238))]) [0,0,2,6,0,16,48,112,240,511] [(9,5),(9,7001)] ?_ ?_;rotate_left 9;refine dB ?_;refine bQ (λy=>ah.yi rfl [.bool ((0:Int)!=0),.N [67,76],.T .dZ 1 (aQ [(hl [0])]),.box 7000 cF 0] [(7000,5),(7001,7001)] rV (ul ((0:Int)!=0) [67,76] .dZ [(hl [0])] cF v2 o0 auF (by simp[Lib.join_one,yF]) auD) rfl ja λc' _=>ed c') ?_;exact trivial;intro v5;(conv=>whnf);refine go ?_;clear Wg;have asO:=Fz (B:=B) .dZ [1] auF auF (λx J=>by simp at J;omega);refine' eU [(1,.box dI CH),(5,.box cF [.am v5]),(7001,.row v5 pK 3 238)] (α:=Value) v5 (λy=>[_,_,_,_,_,_,_,_,_,.bm []]) (λy=>[(9,5,some (.box cF [.am y])),(9,7001,some (.row y (pK++if((1:Int)!=0)=true then[lE [80,76] (Lib.join [(hl [1])] [])]else[]) 3 238))]) [0,0,2,6,0,16,48,112,240,511] [(9,5),(9,7001)] ?_ ?_;rotate_left 9;refine dB ?_;refine bQ (λy=>ah.yi rfl [.bool ((1:Int)!=0),.N [80,76],.T .dZ 1 (aQ [(hl [1])]),.box 7000 cF 0] [(7000,5),(7001,7001)] rV (ul ((1:Int)!=0) [80,76] .dZ [(hl [1])] cF v5 pK auF (by simp[Lib.join_one,yF]) auD) rfl ja λc' _=>ed c') ?_;exact trivial;intro B2;(conv=>whnf);refine go ?_;refine .inr (ah.yi rfl [.bool false,.N [82,69],.T .none 1 (aQ []),.box 7000 cF 0] [(7000,5),(7001,7001)] rV (ul false [82,69] .none [] cF B2 vP auF (by simp[Lib.join_nil]) auD) rfl ja λH2 _=>?_);(conv=>whnf);refine dc ?_;refine Y.HH 7001 5 0 rfl rfl auG rfl ?_;refine go ?_;exact⟨.of_eq (auP (D.T .none 3) (by simp[vP,pK,o0,eL,AG,lE,Lib.join_one])),E,ak⟩
def je(cw:List (List c7)):List D:=cw.map λg=>.T .none 3 (eL g)
def ur(l:List c7)(eo:Int):Nat->Nat->Nat
 |0,n=>n
 |f+1,n=>if ir (l.take (n+1))<=eo-28 then ur l eo f (n+1)else n
def xg:Nat->List c7->Int->List (List c7)
 |0,l,_=>[l]
 |f+1,l,eo=>if eo<ir l then l.take (ur l eo l.length 0)::xg f (l.drop (ur l eo l.length 0)) 2048 else[l]
def N_(x:c7):Bool:=bif x.ql==[67,69]then true else x.ql==[83,84]
def N'(eo:Int):Bool:=bif decide (eo<0)then true else decide (254<eo)
def Wh(l:List c7)(eo:Int):Bool:=bif decide (eo<ir l)then decide (eo<28)else false
def I3(l:List c7)(eo:Int):List (List c7):=xg (2*l.length+3) l eo
def us(l:List c7)(eo:Int):List (List c7)×Int :=
 if xf l≠0 then([],xf l)else if l.any N_=true then([],1)else if N' eo=true then([],2)else if Wh l eo=true then([],12)
 else if 65<=(I3 l eo).length then([],7)else(I3 l eo,0)
theorem Wi{l:List c7}(h:xf l=0):l.length<=1024/\∀x∈l,x.data.length<=251:=by unfold xf at h;split at h;omega;rename_i h1;(have aj:l.length<=1024:=by simp only[eL,auS]at h1;omega);refine⟨aj,λx J=>?_⟩;cases M:l.findSome? xe with|none =>have:=List.findSome?_eq_none_iff.1 M x J;unfold xe at this;split at this;cases this;split at this;cases this;split at this;cases this;omega|some e =>rw[M]at h;obtain⟨y,hy,aq⟩:=List.exists_of_findSome?_eq_some M;unfold xe at aq;split at aq;cases aq;cases h;split at aq;cases aq;cases h;split at aq;cases aq;cases h;cases aq
theorem ahX(l:List c7)(eo:Int)(hs:eo<ir l):∀(f n:Nat),n<l.length->l.length<=n+f->ur l eo f n=(if ir (l.take (n+1))<=eo-28 then ur l eo (f-1) (n+1)else n)
 |0,n,h1,A=>by omega
 |f+1,n,h1,A=>by rw[ur];rfl
theorem Wj(l:List c7)(eo:Int)(hs:eo<ir l):∀(f n:Nat),n<l.length->l.length<=n+f->n<=ur l eo f n/\ur l eo f n<l.length
 |0,n,h1,A=>by omega
 |f+1,n,h1,A=>by rw[ur];split;rename_i h;(have aa:n+1<l.length:=by rcases au6 (n+1) l.length with aF|aF;exact aF;rw[ave aF]at h;omega);have:=Wj l eo hs f (n+1) aa auD;omega;omega
theorem ahY{bL:Type}{p:bL->Bool}{l:List bL}(h:∀j (ad:j<l.length),p l[j]=false):¬l.any p=true:=by rw[av'];rintro⟨x,J,yI⟩;obtain⟨j,ad,rfl⟩:=avm.1 J;rw[h j ad]at yI;cases yI
structure ut where
 ck:List (List c7)
 l:List c7
 eo:Int
 f:Nat
def ut.vQ(x:ut):Nat:=2*x.l.length+(if x.eo=2048 then 0 else 1)
structure ahZ (cw:List (List c7)) (n:Nat) (x:ut):Prop where
 eq:x.ck++xg x.f x.l x.eo=cw
 j3:x.vQ<x.f
 len:x.l.length<=1024
 data:∀y∈x.l,y.data.length<=251
 eo:0<=x.eo/\x.eo<=2048
 ck:x.ck.length+x.vQ<=n
theorem ah0(l:List c7)(eo:Int)(aj:l.length<1000000)(O:∀x∈l,x.ql.length<1000000/\x.data.length<1000000):aT B 172 [.T .none 3 (eL l),u eo] (.bm [.T .none 1 (je (us l eo).1),u (us l eo).2]):=by
 refine bB Tryz.func172 Tryz.ntmps172 λW=>?_;refine go ?_;refine bq (ahQ l aj O) ?_;refine aI (xf l !=0) rfl ?_ ?_<;>intro hc
 ·refine go ?_;rw[us,auO (by simpa using hc)];exact⟨ap.nil,E,ak⟩
 refine go ?_;have jn:¬xf l≠0:=by simpa using hc
 obtain⟨hlen,ah1⟩:=Wi (l:=l) auD;rw[us,auN jn];refine go ?_;refine Y.ee (α:={i:Nat // i<=l.length/\∀j (ad:j<l.length),j<i->N_ l[j]=false}) (λx=>[(0,.T .none 3 (eL l)),(1,u eo),(16,.T .none 3 (eL l)),(17,u ((eL l).length:Nat)),(18,u x.1)]) (λ_=>[]) (λx=>l.length-x.1) ⟨0,by omega,λj _ h=>by omega⟩ [] ⟨an,rfl,ak⟩ ?_;rintro⟨i,hi,cD⟩;dsimp only at hi cD⊢;refine go ?_;refine aI (decide ((i:Int)<((eL l).length:Nat))) rfl ?_ ?_<;>intro bx
 ·apply ci;have aG:i<l.length:=by simpa[eL]using bx
  refine gJ ?_;refine⟨λ_=>by simp[eL];omega,?_⟩;refine go ?_;refine⟨AG l[i],λ_=>by simp[eL,aG],?_⟩;refine go ?_;intro cG;refine go ?_;refine aI (N_ l[i]) rfl ?_ ?_<;>intro eb
  ·refine go ?_;rw[auO (av'.2 ⟨l[i],auT aG,eb⟩)];exact⟨ap.nil,E,ak⟩
  refine go ?_
  exact⟨⟨i + 1,aG,λj ad h => by rcases au6 j i with lF|lF
                                ·exact cD j ad lF
                                have:j=i:=auD
                                subst this;exact eb⟩,[],azh,an,rfl,ak⟩
 have cr:i=l.length:=by simp[eL]at bx;omega
 subst cr;rw[auN (ahY λj ad=>cD j ad ad)];refine go ?_;refine aI (N' eo) rfl ?_ ?_<;>intro eb
 ·refine go ?_;rw[auO eb];exact⟨ap.nil,E,ak⟩
 refine go ?_;rw[auN (by rw[eb];decide)]
 have rJ:0<=eo/\eo<=254:=by
  revert eb;unfold N';cases h1:decide (eo<0)<;>simp at h1⊢<;>omega
 refine go ?_;refine bq (I1 l aj (λx J=>(O x J).2)) ?_;refine aI (Wh l eo) rfl ?_ ?_<;>intro od
 ·refine go ?_;rw[auO od];exact⟨ap.nil,E,ak⟩
 apply ci;rw[auN (by rw[od];decide)];generalize k_:I3 l eo=cw at*;refine cc ?_;refine Y.own 9 1000 1 236 rfl (λw=>?_);refine go ?_
 refine Y.ee (α:={x:ut // ahZ cw (2*l.length+2) x}×Value) (λx=>[(0,.T .none 3 (eL x.1.1.l)),(1,u x.1.1.eo),(9,.T (.own 1000 x.2) 1 (je x.1.1.ck))])
  (λx=>[(1000,.own x.2 (je x.1.1.ck).length 1 236)]) (λx=>x.1.1.vQ) (⟨⟨[],l,eo,2*l.length+3⟩,by rw[<-k_];rfl,by unfold ut.vQ;dsimp only;split<;>omega,hlen,ah1,by dsimp only;omega,by unfold ut.vQ;dsimp only[List.length_nil];split<;>omega⟩,w) [(1000,1000)]
  ⟨an,rfl,a_⟩ ?_
 rintro⟨⟨⟨ck,cC,q5,f⟩,ii,ah2,nw,rY,qO,CI⟩,w⟩;dsimp only at ii ah2 nw rY qO CI⊢;have Cg:∀x∈cC,x.data.length<1000000:=λx J=>by have:=rY x J;omega
 have fe:=FD Cg cC.length (auW _);rw[au2]at fe;have asP:ut.vQ ⟨ck,cC,q5,f⟩=2*cC.length+(if q5=2048 then 0 else 1):=rfl;refine go ?_;refine bq (I1 cC auD Cg) ?_;refine aI (decide (q5<ir cC)) rfl ?_ ?_<;>intro AC
 ·refine go ?_;have bg:q5<ir cC:=by simpa using AC
  have qL:0<cC.length:=by
   rcases avA cC.length with h|h
   ·have:cC=[]:=au1 h;subst this;have h0:ir ([]:List c7)=0:=rfl;omega
   exact h
  generalize hN:ur cC q5 cC.length 0=bA;have ah3:=Wj cC q5 bg cC.length 0 qL auD;rw[hN]at ah3;have hx:(je ck).length<=3000:=by simp only[je,auS];omega
  refine go ?_
  refine Y.ee (α:={n:Nat×Nat // ur cC q5 n.2 n.1=bA/\n.1<cC.length/\cC.length<=n.1+n.2}) (λx=>[(0,.T .none 3 (eL cC)),(1,u q5),(9,.T (.own 1000 w) 1 (je ck)),(10,u (x.1.1:Nat))])
   (λx=>[(1000,.own w (je ck).length 1 236)]) (λx=>cC.length-x.1.1) ⟨(0,cC.length),hN,qL,by show cC.length<=0+cC.length;omega⟩ [(1000,1000)]
   ⟨an,rfl,a_⟩ ?_
  rintro⟨⟨n,zU⟩,ar,ky,Wk⟩;dsimp only at ar ky Wk⊢;have a1:=ahX cC q5 bg zU n ky Wk;have iJ:=FD Cg (n+1) auD;refine gj ?_;refine lq ?_;refine⟨λ_=>by simp[eL];omega,?_⟩;(conv=>whnf);refine⟨[.T .none 3 (eL (cC.take (n+1)))],_,λ_=>I1 (cC.take (n+1)) (by rw[au9];omega) (λx J=>Cg x (avO J)),⟨ap.of_eq (auP (D.T .none 3) (by simp[eL,List.map_take])),ak⟩,?_⟩;refine hb ?_;refine aI (decide (ir (cC.take (n+1))<=q5-28)) rfl ?_ ?_<;>intro xd
  ·refine go ?_;have dP:ir (cC.take (n+1))<=q5-28:=by simpa using xd
   have rI:n+1<cC.length:=by
    rcases au6 (n+1) cC.length with aF|aF
    ·exact aF
    rw[ave aF]at dP;omega
   refine go ?_;exact⟨⟨(n+1,zU-1),by rw[<-ar,a1,auO dP],rI,by show cC.length<=n+1+(zU-1);omega⟩,[(1000,1000)],by show cC.length-(n+1)<cC.length-n;omega,an,rfl,a_⟩
  have ah4:n=bA:=by rw[<-ar,a1,auN (by simpa using xd)]
  subst ah4;obtain⟨f,rfl⟩:∃k,f=k+1:=⟨f-1,by omega⟩;refine sN ?_;refine oJ ?_;refine⟨λ_=>by simp[eL];omega,?_⟩;(conv=>whnf);refine⟨by simp[eL];omega,by simp[eL];omega,auK,λjr=>?_⟩;(conv=>whnf);refine mm ?_;refine⟨by show(_+1)*24<=_;omega,by show _+1<=_;omega,auK,λv2=>?_⟩;refine go ?_;refine⟨λ_=>by simp[eL];omega,?_⟩;refine go ?_
  have DY:q5=2048->0<n:=λh=>by
   rcases avA n with h0|h0
   ·subst h0;have h1:=I0 (l:=cC) (i:=0) qL;have A:=rY _ (auT qL);have aa:ir (cC.take 0)=0:=rfl;have aF:¬ir (cC.take (0+1))<=q5-28:=by simpa using xd
    omega
   exact h0
  have ah5:ut.vQ ⟨ck++[cC.take n],cC.drop n,2048,f⟩<ut.vQ ⟨ck,cC,q5,f+1⟩:=by
   unfold ut.vQ;dsimp only;rw[avX,auO rfl];split
   ·rename_i h;have:=DY h;omega
   omega
  exact⟨(⟨⟨ck++[cC.take n],cC.drop n,2048,f⟩,by rw[<-ii,xg,auO bg,hN];simp,by show ut.vQ ⟨ck++[cC.take n],cC.drop n,2048,f⟩<f;omega,by dsimp only;rw[avX];omega,λy hy=>rY y (awU hy),by dsimp only;omega,by simp only[auV,auX,avh];omega⟩,v2),[(1000,66)],ah5,⟨ap.of_eq (auP (D.T .none 3) (by simp[eL,List.map_drop];rw[ave auF])),E,ap.i' (by simp[je,eL,List.map_take];rfl),ak⟩,rfl,rfl,jq (by simp[je]),ak⟩
 obtain⟨f,rfl⟩:∃k,f=k+1:=⟨f-1,by omega⟩;have Wl:cw=ck++[cC]:=by rw[<-ii,xg,auN (by simpa using AC)]
 have hx:(je ck).length=ck.length:=by simp only[je,auS]
 have asQ:cw.length=ck.length+1:=by rw[Wl];simp
 refine go ?_;refine aI (decide ((64:Int)<=((je ck).length:Nat))) rfl ?_ ?_<;>intro xd
 ·refine go ?_;have cN:(64:Int)<=((je ck).length:Nat):=by simpa using xd
  rw[auO auD];exact⟨ap.nil,E,ak⟩
 apply ci;refine cc ?_;refine oJ ?_;refine⟨by simp[eL];omega,by simp[eL];omega,auK,λjr=>?_⟩;(conv=>whnf);refine mm ?_;refine⟨by show(_+1)*24<=_;omega,by show _+1<=_;omega,auK,λv2=>?_⟩;refine go ?_;have cN:¬(64:Int)<=((je ck).length:Nat):=by simpa using xd
 rw[auN auD];exact⟨ap.trans ap.mf (ap.of_eq (auP (D.T .none 1) (by rw[Wl];simp[je,eL];rfl))),E,ak⟩
theorem Oa{n:Nat}(h:i<n)(Q:D):(eA i++List.replicate (n-i) Q).set i (u (i:Nat))=eA (i+1)++List.replicate (n-(i+1)) Q:=by apply av2;intro j;(have dh:∀m,(eA m).length=m:=λm=>by simp[eA]);rw[awL];rcases awX i j with e|e|e;rw[auN auD,avl (by rw[dh];omega),avl (by rw[dh];omega),dh,dh];simp only[aw1];(split<;>split<;>first|rfl|omega);subst e;rw[auO rfl,auO (by simp[dh];omega),au3 (by rw[dh];omega)];simp[eA];rw[auN auD,au3 (by rw[dh];omega),au3 (by rw[dh];omega)];simp[eA,show j<i by omega,show j<i+1 by omega]
variable{F:List U}{t:Nat}
theorem ah6(h:t<F.length)(Q:D):(aQ ((F.map U.name).take t)++List.replicate (F.length-t) Q).set t (.N F[t].name)=aQ ((F.map U.name).take (t+1))++List.replicate (F.length-(t+1)) Q:=by(have dh:∀m,m<=F.length->(aQ ((F.map U.name).take m)).length=m:=λm hm=>by simp[aQ];omega);apply av2;intro j;rw[awL];rcases awX t j with e|e|e;rw[auN auD,avl (by rw[dh _ auD];omega),avl (by rw[dh _ auD];omega),dh _ auD,dh _ auD];simp only[aw1];(split<;>split<;>first|rfl|omega);subst e;rw[auO rfl,auO (by simp[aQ];omega),au3 (by rw[dh _ auD];omega)];simp[aQ,h,avE];rw[auN auD,au3 (by rw[dh _ auD];omega),au3 (by rw[dh _ auD];omega)];simp[aQ,avE,show j<t by omega,show j<t+1 by omega]
theorem ah7(aX:dk B)(v:Int)(X:v=2\/v=3)(F:List U)(hF:F.length<=64)(cD:∀k∈F,dS k.name=true/\k.name.length<1000000000)(my:f3 F):aT B 182 [u v,.T .none 12 (F.map enc)] (.bm [.T .none 1 (aQ (F.map U.name)),u 0]):=by refine bB Tryz.func182 Tryz.ntmps182 λW=>?_;refine go ?_;intro bk;refine go ?_;refine bq (Ff v) ?_;refine aI _ rfl ?_ ?_<;>intro hc;refine go ?_;exfalso;(have:ka v=true:=by rcases X with rfl|rfl<;>rfl);rw[this]at hc;cases hc;refine go ?_;refine aI _ rfl ?_ ?_<;>intro hc;refine go ?_;exfalso;simp at hc;omega;refine go ?_;refine .inr (ah.x4 aN (n:=F.length) (cP:=.i64) (d0:=.i64) (Q:=u 0) rfl rfl rfl rfl rfl ?_ ?_ (by show 8*_<=_;omega) auD λgP=>?_);show D.int _ _=_;simp;show D.int _ _=_;simp;refine go ?_;refine Y.ee (α:={i:Nat // i<=F.length}) (λx=>[(0,u v),(3,.box 3 bk 0),(6,.am gP),(25,.T .none 12 (F.map enc)),(26,u (F.map enc).length),(27,u x.1)]) (λx=>[(24,.row gP (eA x.1++List.replicate (F.length-x.1) (u 0)) 1 3),(3,.box bk [.T .none 12 (F.map enc)])]) (λx=>F.length-x.1) ⟨0,by omega⟩ [(24,24),(3,3)] ⟨an,rfl,a_⟩ ?_;rintro⟨i,hi⟩;dsimp only;refine go ?_;refine aI _ rfl ?_ ?_<;>intro hc;refine eY ?_;(have aG:i<F.length:=by simpa using hc);(have dh:(eA i).length=i:=by simp[eA]);refine vg ?_;refine⟨az F[i],λ_=>lx aG,?_⟩;refine go ?_;intro cG;refine go ?_;refine bq (yu aX _ (cD _ (auT aG)).2) ?_;refine aI _ rfl ?_ ?_<;>intro hc;refine go ?_;exfalso;rw[(cD _ (auT aG)).1]at hc;cases hc;refine go ?_;refine .inr (ah.eG aN 24 rfl rfl rfl rfl rfl rfl rfl auD (by simp[dh];omega) ?_);refine go ?_;refine .inr (ah.nl aN 24 (i:=i) auJ rfl rfl rfl (by simp[dh];omega) rfl ?_);refine go ?_;exact⟨⟨i+1,by omega⟩,[(24,24),(3,3)],by show _-(i+1)<_-i;omega,an,rfl,rfl,auP (λQ=>some (aJ.row gP Q 1 3)) (Oa aG _),rfl,a_⟩;refine go ?_;(have cr:i=F.length:=by simp at hc;omega);(have dQ:eA i++List.replicate (F.length-i) (u 0)=eA F.length:=by subst cr;simp);rw[dQ];refine go ?_;refine .inr (ah.call rfl [.am gP,.fn (.func 254) [] [.box 2000 bk 0]] [(2001,24),(2000,3)] (Vh F my auD bk gP) rfl ⟨E,ap.fn trivial ⟨ap.box,ak⟩,ak⟩ ?_);rintro d aO ⟨rfl,rfl⟩;refine rP ?_;refine Y.fc [(6,.am gP),(0,u v),(3,.box 3 bk 0)] [(24,.row gP (eA F.length) 1 3),(3,.box bk [.T .none 12 (F.map enc)])] [(24,24),(3,3)] ⟨an,rfl,a_⟩ ?_;refine Y.vp 24 6 rfl ?_;refine go ?_;refine .inr (ah.x4 aN (n:=F.length) (cP:=.i64) (d0:=.i64) (Q:=.N []) rfl rfl rfl rfl rfl ?_ ?_ (by show 16*_<=_;omega) auD λdD=>?_);show D.int _ _=_;simp;show D.int _ _=_;simp;refine go ?_;refine .inr (ah.makeMap λl_=>?_);refine go ?_;refine Y.ee (α:={i:Nat // i<=F.length}) (λx=>[(0,u v),(3,.box 3 bk 0),(6,.T .none 1 (eA F.length)),(48,.T .none 1 (eA F.length)),(49,u (eA F.length).length),(50,u x.1),(9,.am dD),(10,.am (.map (some l_)))]) (λx=>[(46,.row dD (aQ ((F.map U.name).take x.1)++List.replicate (F.length-x.1) (.N [])) 1 9),(47,.set l_ (((F.map U.name).take x.1).reverse)),(3,.box bk [.T .none 12 (F.map enc)])]) (λx=>F.length-x.1) ⟨0,by omega⟩ [(46,46),(47,47),(3,3)] ⟨an,rfl,a_⟩ ?_;rintro⟨t,ax⟩;dsimp only;refine go ?_;refine aI _ rfl ?_ ?_<;>intro hc;refine eY ?_;(have lG:t<F.length:=by simp[eA]at hc;omega);(have pg:∀j,j<F.length->(F.map enc)[j]?=some (az (F.getD j default)):=λj ad=>by rw[lx ad];simp[List.getD,ad]);refine gJ ?_;refine⟨λ_=>by simp[eA];omega,?_⟩;refine go ?_;refine⟨u (t:Nat),λ_=>by simp[eA,lG],?_⟩;refine En ?_;apply cj;apply g';refine hb ?_;refine hd ?_;refine⟨λh=>by simp at h;simp[eA];omega,?_⟩;refine go ?_;refine⟨u ((t-1:Nat):Int),λh=>ayW,?_⟩;refine hd ?_;refine mS ?_;refine⟨az (F.getD (t-1) default),λh=>pg (t-1) auD,?_⟩;apply cj;refine hd ?_;refine nn ?_;refine hd ?_;refine⟨az F[t],λh=>lx lG,?_⟩;refine go ?_;refine aI _ rfl ?_ ?_<;>intro hc;refine go ?_;exfalso;(cases h0:decide ((0:Int)<t)with|false=>rw[h0]at hc;cases hc|true =>(have Ob:0<t:=by simpa using h0);have aZ:=q2 (pI my (show t-1<t by omega) lG);rw[h0]at hc;have bx:((F.getD (t-1) default).name==F[t].name)=true:=hc;(have:(F.getD (t-1) default).name=F[t].name:=by simpa using bx);apply aZ;rw[<-this];simp[List.getD,show t-1<F.length by omega]);apply ci;apply b1;refine k2 ?_;refine⟨az F[t],λ_=>lx lG,?_⟩;refine go ?_;refine aI _ rfl ?_ ?_<;>intro hc;exfalso;rcases X with rfl|rfl<;>cases hc;refine go ?_;refine .inr (ah.Ej 47 (em:=9) (eB:=4) rfl rfl rfl rfl rfl rfl ?_);refine go ?_;refine .inr (ah.eG aN 46 rfl rfl rfl rfl rfl rfl rfl auD (by simp[aQ];omega) ?_);refine go ?_;refine .inr (ah.nl aN 46 (i:=t) auJ rfl rfl rfl (by simp[aQ];omega) rfl ?_);refine go ?_;exact⟨⟨t+1,by omega⟩,[(46,46),(47,47),(3,3)],by show _-(t+1)<_-t;omega,an,rfl,rfl,auP (λQ=>some (aJ.row dD Q 1 9)) (ah6 lG _),rfl,auP (λQ=>some (aJ.set l_ Q)) (by rw[awF];simp[lG]),rfl,a_⟩;refine vf ?_;(have FK:t=F.length:=by simp[eA]at hc;omega);(have FL:aQ ((F.map U.name).take t)++List.replicate (F.length-t) (D.N [])=aQ (F.map U.name):=by subst FK;rw[ave auF];simp);rw[FL];refine Y.fc [(9,.am dD)] [(46,.row dD (aQ (F.map U.name)) 1 9)] [(46,46)] ⟨an,rfl,a_⟩ ?_;exact ay4
def FM(n:U)(p q:auM):D:=.agg [.N n.name,u n.kind,.N n.cU,.N n.target,u n.cu,u n.n2,u n.n3,u n.n4,u n.n5,u n.n6,.T .none 12 (n.F.map enc),.T .none 2 (n.bD.map cW),.N p,.N q]
theorem ah8(n:U)(p q:auM):aT B 268 [FM n p q] (.bm []):=by refine bB Tryz.func268 Tryz.ntmps268 λW=>?_;refine lZ ?_;intro b;(conv=>whnf);exact trivial
theorem Wm{l:List U}(h:f3 l):l.Pairwise λa b=>Op.bytesLess a.name b.name=true :=
 avU.2 λi j hi ad d6=>pI h d6 ad
theorem Wn{l:List U}(h:l.Pairwise λa b=>Op.bytesLess a.name b.name=true):f3 l:=λi hi=>by
 have:=avU.1 h i (i+1) auD hi auD;simpa[List.getD,hi,show i<l.length by omega]using this
theorem ah9(v:Value)(NA:D):c4 B 350 [.am v,NA] (aM [(2001,.row v [] 12 44)]) λd aO=>d=.bm []/\aO=aM [(2001,.row v [] 12 44)]:=by refine⟨jt Tryz.func350 rfl auH,λw C args Ft p5 qE hH af=>?_⟩;obtain⟨aj,af⟩:=af;match args,aj with|[a0,gn],_ =>have h0:=(af 0 _ a0 rfl rfl).gh;subst h0;obtain⟨a,cap,X,_⟩:ks w C a0 [] 12 44:=hH.cl 2001 _ rfl;subst X;refine(AnyF.slices_SortFunc_none Tryz.laysSlF0_f350 a cap gn w).mono ?_;rintro e w' ⟨rfl,rfl⟩;exact⟨.tuple #[],.bm [],C,_,rfl,⟨rfl,rfl⟩,.bm [] [] rfl (λi d v O _=>by simp at O),.refl _ _ _,⟨hH.cl,hH.inj,λs o b ag au=>.inl (hH.cQ s o b ag au)⟩⟩
def U.named(n:U)(s:auM):U:={n with name:=s}
def keeps(v:Int):Bool:=v==2||v==3
def kg(l:List U):List U:=l.mergeSort λa b=>!Op.bytesLess b.name a.name
mutual
def it(aU:List U->List auM)(v d:Int):U->U
 |.mk a b c t e f g h _ _ ae ch=>.mk a b c t (if keeps v then e else 0) (if keeps v then f else 0) (if keeps v then g else 0) h 0 0 (kg (fy aU v (d+1) ae (aU ae))) (if v=3 then ch else[])
def fy(aU:List U->List auM)(v d:Int):List U->List auM->List U
 |k::r,m::cm=>if kb v k d then(it aU v d k).named m::fy aU v d r cm else fy aU v d r cm
 |_,_=>[]
end
section
variable(aU:List U->List auM)(v d:Int)
theorem FN(n:U):it aU v d n=⟨n.name,n.kind,n.cU,n.target,if keeps v then n.cu else 0,if keeps v then n.n2 else 0,if keeps v then n.n3 else 0,n.n4,0,0,kg (fy aU v (d+1) n.F (aU n.F)),if v=3 then n.bD else[]⟩:=by cases n;simp only[it]
theorem ah_(n:U)(m:auM):it aU v d (n.named m)=(it aU v d n).named m:=by cases n;simp only[U.named,it]
theorem FO(n:U)(m:auM):aB (n.named m)=aB n:=by cases n;simp only[U.named,aB]
theorem Oc:∀{l:List U} {cm:List auM} {i:Nat} (h:i<l.length) (bt:i<cm.length),fy aU v d (l.take (i+1)) (cm.take (i+1))=fy aU v d (l.take i) (cm.take i)++(if kb v l[i] d then[it aU v d (l[i].named cm[i])]else[])
 |k::r,m::cm,0,_,_=>by simp[fy,ah_]
 |k::r,m::cm,i+1,h,bt=>by have:=Oc (l:=r) (cm:=cm) (i:=i) (by simpa using h) (by simpa using bt);simp only[awi,fy,av8];rw[this];split<;>simp
theorem FP:∀(l:List U) (cm:List auM),(fy aU v d l cm).length<=l.length
 |[],cm=>by simp[fy]
 |k::r,[]=>by simp[fy]
 |k::r,m::cm=>by have:=FP r cm;simp only[fy];split<;>simp<;>omega
theorem Od:∀(l:List U) (cm:List auM),((fy aU v d l cm).map U.name).Sublist cm
 |[],cm=>by simp[fy]
 |k::r,[]=>by simp[fy]
 |k::r,m::cm=>by have:=Od r cm;simp only[fy];split;simp only[avc];exact this.cons_cons m;exact this.cons m
end
theorem AH(l:List U):(kg l).Perm l:=axF l _
theorem Oe(l:List U):(kg l).Pairwise λa b=>Op.bytesLess b.name a.name=false:=by
 have h:=axj (le:=λa b:U=>!Op.bytesLess b.name a.name) (λa b c h1 A=>by
  have aa:Op.bytesLess b.name a.name=false:=by simpa using h1
  have aF:Op.bytesLess c.name b.name=false:=by simpa using A
  have:Op.bytesLess c.name a.name=false:=by
   cases a8:Op.bytesLess c.name a.name with
   |false=>rfl
   |true =>
    exfalso
    cases cN:Op.bytesLess a.name b.name with
    |true=>rw[Cq _ _ _ a8 cN]at aF;cases aF
    |false=>rw[w6 _ _ cN aa]at a8;rw[a8]at aF;cases aF
  simpa using this) (λa b=>by
  cases h1:Op.bytesLess b.name a.name with
  |false=>rfl
  |true=>simp[Fe h1]) l
 exact h.imp λ{a b} h=>by simpa using h
theorem Wo{l:List U}(h:(l.map U.name).Nodup):f3 (kg l):=by have h1:=Oe l;have A:((kg l).map U.name).Nodup:=((AH l).map _).nodup_iff.2 h;apply Wn;have aa:=awk.1 (avD.1 A);exact(h1.and aa).imp λ{a b} ⟨aF,a8⟩=>by cases cN:Op.bytesLess a.name b.name with|true=>rfl|false=>exact absurd (w6 _ _ cN aF) a8
theorem ah'{l:List U}(h:f3 l):kg l=l :=
 NJ h (AH l) λi j hi ad d6=>avU.1 (Oe l) i j hi ad d6
theorem aia(dv:List U)(h:(dv.map U.name).Nodup)(hlen:dv.length<1000000)(v:Value): c4 B 350 [.am v,.fn (.func 351) [] []] (aM [(2001,.row v (dv.map az) 12 44)]) λd aO => d=.bm []/\aO=aM [(2001,.row v ((kg dv).map az) 12 44)]:=by by_cases h0:0<dv.length;refine(afP (B:=B) dv h0 hlen v).mono ?_;rintro d aO ⟨rfl,Aq,aw,hs,rfl⟩;rw[NJ (Wo h) (aw.trans (AH dv).symm) hs];exact⟨rfl,rfl⟩;have ar:dv=[]:=au1 auD;subst ar;(have:kg []=[]:=by simp[kg]);rw[this];exact ah9 v _
mutual
def gZ:U->Prop
 |.mk _ _ _ _ _ _ _ _ _ _ ae ch=>ae.length<=64/\ch.length<1000000000/\f3 ae/\xh ae
def xh:List U->Prop
 |[]=>True
 |k::r=>((dS k.name=true/\k.name.length<1000000000)/\gZ k)/\xh r
end
theorem q6:∀{l:List U} (_:xh l) {k:U} (_:k∈l),(dS k.name=true/\k.name.length<1000000000)/\gZ k
 |x::r,h,k,Z=>by simp only[xh]at h;rcases au8.1 Z with rfl|Z;exact h.1;exact q6 h.2 Z
theorem sc(n:U):gZ n↔n.F.length<=64/\n.bD.length<1000000000/\f3 n.F/\xh n.F:=by cases n;simp only[gZ]
theorem aib(n:U)(m:auM):gZ (n.named m)↔gZ n:=by simp only[sc,U.named]
structure CJ (B:World) (v:Int) (aU:List U->List auM):Prop where
 call:∀ae:List U,ae.length<=64->f3 ae->(∀k∈ae,dS k.name=true/\k.name.length<1000000000)->
  aT B 182 [u v,.T .none 12 (ae.map enc)] (.bm [.T .none 1 (aQ (aU ae)),u 0])/\(aU ae).length=ae.length/\(aU ae).Nodup/\∀m∈aU ae,m.length<=1100
def CK(p m:auM)(b:Bool):auM:=if b=true then m else p++[47]++m
theorem Wp(p m:auM)(b:Bool):(CK p m b).length<=p.length+1+m.length:=by simp only[CK];split<;>simp<;>omega
theorem aic(aU:List U->List auM)(v:Int)(iq:CJ B v aU):∀(bA:Nat) (n:U),aB n<bA->gZ n->∀(p q:auM) (d:Int),0<=d->d+aB n<1000000000->p.length+1200*aB n<1000000000->q.length+aB n<1000000000->aT B 310 [u v,FM n p q,u d,.fn (.func 268) [] []] (az (it aU v d n)):=by
 refine λbA=>Nat.rec (λn h=>absurd h (av_ _)) (λbA aV n hN cD p q d O rY aw I=>?_) bA;obtain⟨hF,pi,my,xi⟩:=(sc n).1 cD;have b2:∀k∈n.F,dS k.name=true/\k.name.length<1000000000:=λk Z=>(q6 xi Z).1;obtain⟨DZ,ky,pL,pj⟩:=iq.call n.F hF my b2;refine bB Tryz.func310 Tryz.ntmps310 λW=>?_;refine go ?_;intro cF;refine go ?_;intro cG;refine go ?_;intro jd;refine go ?_;intro jS
 (conv=>whnf)
 refine dc ?_;refine Y.k0 (α:=Unit) (λx=>[(0,u v),(2,u d),(3,.fn (.func 268) [] []),(5,.box 5 cF 0),(8,.box 8 cG 0),(9,.box 9 jd 0),(10,.box 10 jS 0)]) (λx=>[(5,.box cF [.N n.name,u n.kind,.N n.cU,.N n.target,u n.cu,u n.n2,u n.n3,u n.n4,u n.n5,u n.n6,.T .none 12 (n.F.map enc),.T .none 2 (n.bD.map cW),.N p,.N q]),(8,.box cG [.N [],u 0,.N [],.N [],u 0,u 0,u 0,u 0,u 0,u 0,.bd,.bd]),(9,.box jd [.N n.name,u n.kind,.N n.cU,.N n.target,u n.cu,u n.n2,u n.n3,u n.n4,u n.n5,u n.n6,.T .none 12 (n.F.map enc),.T .none 2 (n.bD.map cW)]),(10,.box jS [.N n.name,u n.kind,.N n.cU,.N n.target,u (if keeps v then n.cu else 0),u (if keeps v then n.n2 else 0),u (if keeps v then n.n3 else 0),u n.n4,u 0,u 0,.bd,.bd])]) ?_ ?_
 ·refine go ?_;refine aI _ rfl ?_ ?_<;>intro hc
  ·have Z:keeps v=true:=by
    cases h1:(v==2)with
    |true=>simp only[keeps,h1,Bool.true_or]
    |false =>
     rw[h1]at hc;simpa[keeps,h1]using hc
   rw[Z];refine' eU [(5,.box cF [.N n.name,u n.kind,.N n.cU,.N n.target,u n.cu,u n.n2,u n.n3,u n.n4,u n.n5,u n.n6,.T .none 12 (n.F.map enc),.T .none 2 (n.bD.map cW),.N p,.N q]),(8,.box cG [.N [],u 0,.N [],.N [],u 0,u 0,u 0,u 0,u 0,u 0,.bd,.bd]),(9,.box jd [.N n.name,u n.kind,.N n.cU,.N n.target,u n.cu,u n.n2,u n.n3,u n.n4,u n.n5,u n.n6,.T .none 12 (n.F.map enc),.T .none 2 (n.bD.map cW)]),(10,.box jS [.N n.name,u n.kind,.N n.cU,.N n.target,u 0,u 0,u 0,u n.n4,u 0,u 0,.bd,.bd])] () (λ_:Unit=>[_,_,_,_,_,_,_,.any,_,.any,_,.any]) (λ_=>[(7,10,some (.box jS [.N n.name,u n.kind,.N n.cU,.N n.target,u n.cu,u 0,u 0,u n.n4,u 0,u 0,.bd,.bd])),(9,10,some (.box jS [.N n.name,u n.kind,.N n.cU,.N n.target,u n.cu,u n.n2,u 0,u n.n4,u 0,u 0,.bd,.bd])),(11,10,some (.box jS [.N n.name,u n.kind,.N n.cU,.N n.target,u n.cu,u n.n2,u n.n3,u n.n4,u 0,u 0,.bd,.bd]))]) [0,1,0,4,0,16,3,67,207,463,1023,2047] [(7,10),(9,10),(11,10)] ?_ ?_
   rotate_left 9
   ·refine dB ?_;refine Go.bV.ct.vs ?_;refine Go.bV.ct.vs ?_;refine Go.bV.ct.vs ?_;exact trivial
   intro _
   (conv=>whnf)
   refine go ?_;exact⟨(),[(5,5),(8,8),(9,9),(10,10)],an,rfl,a_⟩
  refine go ?_
  have Z:keeps v=false:=by
   cases h1:(v==2)with
   |true=>rw[h1]at hc;cases hc
   |false =>
    rw[h1]at hc;simpa[keeps,h1]using hc
  rw[Z];exact⟨(),[(5,5),(8,8),(9,9),(10,10)],an,rfl,a_⟩
 rintro⟨⟩;refine Y.k0 (α:={x:D // ap x (.T .none 2 ((if v=3 then n.bD else[]).map cW))}) (λx=>[(0,u v),(2,u d),(3,.fn (.func 268) [] []),(5,.box 5 cF 0),(8,.box 8 cG 0),(9,.box 9 jd 0),(10,.box 10 jS 0)]) (λx=>[(5,.box cF [.N n.name,u n.kind,.N n.cU,.N n.target,u n.cu,u n.n2,u n.n3,u n.n4,u n.n5,u n.n6,.T .none 12 (n.F.map enc),.T .none 2 (n.bD.map cW),.N p,.N q]),(8,.box cG [.N [],u 0,.N [],.N [],u 0,u 0,u 0,u 0,u 0,u 0,.bd,.bd]),(9,.box jd [.N n.name,u n.kind,.N n.cU,.N n.target,u n.cu,u n.n2,u n.n3,u n.n4,u n.n5,u n.n6,.T .none 12 (n.F.map enc),.T .none 2 (n.bD.map cW)]),(10,.box jS [.N n.name,u n.kind,.N n.cU,.N n.target,u (if keeps v then n.cu else 0),u (if keeps v then n.n2 else 0),u (if keeps v then n.n3 else 0),u n.n4,u 0,u 0,.bd,x.1])]) ?_ ?_
 ·refine go ?_;refine aI _ rfl ?_ ?_<;>intro hc
  ·refine go ?_;refine bq (Ve n.bD pi) ?_;have Ae:v=3:=by simpa using hc
   exact⟨⟨.T .none 2 (n.bD.map cW),by rw[auO Ae];exact E⟩,[(5,5),(8,8),(9,9),(10,10)],an,rfl,a_⟩
  refine go ?_;have Ae:¬v=3:=by simpa using hc
  exact⟨⟨.bd,by rw[auN Ae];exact .nil⟩,[(5,5),(8,8),(9,9),(10,10)],an,rfl,a_⟩
 rintro⟨g0,Ac⟩;refine Y.jo 10 (dA:=[.N n.name,u n.kind,.N n.cU,.N n.target,u (if keeps v then n.cu else 0),u (if keeps v then n.n2 else 0),u (if keeps v then n.n3 else 0),u n.n4,u 0,u 0,.bd,.T .none 2 ((if v=3 then n.bD else[]).map cW)]) rfl ⟨E,E,E,E,E,E,E,E,E,E,E,Ac,ak⟩ ?_;refine kB ?_;refine⟨[FM n p q],_,λ_=>ah8 n p q,an,?_⟩;refine kB ?_;refine⟨[u v,.T .none 12 (n.F.map enc)],_,λ_=>DZ,an,?_⟩;refine gj ?_
 (conv=>whnf)
 refine dc ?_;apply n1;refine Y.jo 10 (dA:=[.N n.name,u n.kind,.N n.cU,.N n.target,u (if keeps v then n.cu else 0),u (if keeps v then n.n2 else 0),u (if keeps v then n.n3 else 0),u n.n4,u 0,u 0,.am (.slice none 0 0),.T .none 2 ((if v=3 then n.bD else[]).map cW)]) rfl ⟨E,E,E,E,E,E,E,E,E,E,ap.rO,E,ak⟩ ?_;refine Y.qF 109 12 44 ?_
 refine Y.ee (α:={x:Nat×Value // x.1<=n.F.length}) (λx=>[(0,u v),(2,u d),(3,.fn (.func 268) [] []),(5,.box 5 cF 0),(8,.box 8 cG 0),(9,.box 9 jd 0),(10,.box 10 jS 0),(11,.T .none 1 (aQ (aU n.F))),(61,.T .none 12 (n.F.map enc)),(62,u (n.F.map enc).length),(63,u x.1.1)]) (λx=>[(5,.box cF [.N n.name,u n.kind,.N n.cU,.N n.target,u n.cu,u n.n2,u n.n3,u n.n4,u n.n5,u n.n6,.T .none 12 (n.F.map enc),.T .none 2 (n.bD.map cW),.N p,.N q]),(8,.box cG [.N [],u 0,.N [],.N [],u 0,u 0,u 0,u 0,u 0,u 0,.bd,.bd]),(9,.box jd [.N n.name,u n.kind,.N n.cU,.N n.target,u n.cu,u n.n2,u n.n3,u n.n4,u n.n5,u n.n6,.T .none 12 (n.F.map enc),.T .none 2 (n.bD.map cW)]),(10,.box jS [.N n.name,u n.kind,.N n.cU,.N n.target,u (if keeps v then n.cu else 0),u (if keeps v then n.n2 else 0),u (if keeps v then n.n3 else 0),u n.n4,u 0,u 0,.am x.1.2,.T .none 2 ((if v=3 then n.bD else[]).map cW)]),(109,.row x.1.2 ((fy aU v (d+1) (n.F.take x.1.1) ((aU n.F).take x.1.1)).map az) 12 44)]) (λx=>n.F.length-x.1.1) ⟨(0,.slice none 0 0),au7 _⟩ [(5,5),(8,8),(9,9),(10,10),(109,109)]
  ⟨an,rfl,rfl,rfl,rfl,rfl,rfl,rfl,rfl,rfl,rfl,auP (λQ=>some (aJ.row (.slice none 0 0) Q 12 44)) (by simp[fy]),ak⟩ ?_
 rintro⟨⟨i,gP⟩,hi⟩;dsimp only at hi⊢;refine go ?_;refine aI _ rfl ?_ ?_<;>intro hc
 ·refine eY ?_;have aG:i<n.F.length:=by simpa using hc
  have cr:i<(aU n.F).length:=auD
  have Of:=qT aG;have oO:=pj _ (auT cr);have vv:=Wp p (aU n.F)[i] (d==1);have lF:=Wp q n.F[i].name (d==1);refine gJ ?_;refine mS ?_;refine⟨az n.F[i],λ_=>rU aG,?_⟩;refine go ?_;intro qm;refine go ?_;refine bq (Fg v _ _) ?_;refine aI _ rfl ?_ ?_<;>intro hc
  ·apply eh
   have hs:kb v n.F[i] (d+1)=true:=by
    cases h1:decide ((i:Int)<((aQ (aU n.F)).length:Int))with
    |true=>rw[h1]at hc;exact hc
    |false=>rw[h1]at hc;cases hc
   apply jH;apply cj;refine ej ?_;refine⟨[.N q,.N n.F[i].name,.bool (d==1)],_,λ_=>UP _ _ _ auD,an,?_⟩;refine cc ?_;refine⟨λ_=>by simp[aQ];omega,?_⟩;refine go ?_;refine⟨.N (aU n.F)[i],λ_=>by simp[aQ,cr],?_⟩
   (conv=>whnf)
   refine dc ?_;refine Y.x2 aN 18 mixed auI ?_;refine go ?_;refine⟨[.N p,.N (aU n.F)[i],.bool (d==1)],_,λ_=>UP _ _ _ auD,an,?_⟩;refine lq ?_
   refine⟨[u v,FM (n.F[i].named (aU n.F)[i]) (CK p (aU n.F)[i] (d==1)) (CK q n.F[i].name (d==1)),u (d+1),.fn (.func 268) [] []],_,
    λ_=>aV (n.F[i].named (aU n.F)[i]) (by rw[FO];omega) ((aib _ _).2 (q6 xi (auT aG)).2) (CK p (aU n.F)[i] (d==1)) (CK q n.F[i].name (d==1)) (d+1) auD (by rw[FO];omega)
     (by rw[FO];omega) (by rw[FO];omega),an,?_⟩
   refine go ?_;refine .inr (ah.ph aN 109 rfl rfl rfl auK rfl rfl rfl (awV) ?_ ?_ λbS m cap=>?_)
   ·have:=FP aU v (d+1) (n.F.take i) ((aU n.F).take i);show(_+1)*152<=_;simp at this⊢;omega
   ·have:=FP aU v (d+1) (n.F.take i) ((aU n.F).take i);show _+1<=_;simp at this⊢;omega
   refine go ?_;exact⟨⟨(i+1,.slice bS m cap),aG⟩,[(5,5),(8,8),(9,9),(10,10),(109,109)],by show _-(i+1)<_-i;omega,an,rfl,rfl,rfl,rfl,rfl,rfl,rfl,rfl,rfl,rfl,auP (λQ=>some (aJ.row (.slice bS m cap) Q 12 44)) (by rw[Oc aU v (d+1) aG cr,auO hs];simp;rfl),ak⟩
  have hs:kb v n.F[i] (d+1)=false:=by
   have h1:decide ((i:Int)<((aQ (aU n.F)).length:Int))=true:=by simp[aQ];omega
   rw[h1]at hc;exact hc
  refine go ?_;exact⟨⟨(i+1,gP),aG⟩,[(5,5),(8,8),(9,9),(10,10),(109,109)],by show _-(i+1)<_-i;omega,an,rfl,rfl,rfl,rfl,rfl,rfl,rfl,rfl,rfl,rfl,auP (λQ=>some (aJ.row gP Q 12 44)) (by rw[Oc aU v (d+1) aG cr,hs];simp),ak⟩
 refine go ?_;have cr:i=n.F.length:=by simp at hc;omega
 have dQ:(fy aU v (d+1) (n.F.take i) ((aU n.F).take i)).map az=(fy aU v (d+1) n.F (aU n.F)).map az:=by
  subst cr;rw[au2,ave auD]
 rw[dQ];have hlen:=FP aU v (d+1) n.F (aU n.F);have aid:((fy aU v (d+1) n.F (aU n.F)).map U.name).Nodup:=(Od aU v (d+1) n.F (aU n.F)).nodup pL;refine go ?_;refine .inr (ah.call rfl [.am gP,.fn (.func 351) [] []] [(2001,109)] (aia _ aid auD gP) rfl an ?_);rintro d' aO ⟨rfl,rfl⟩;refine rP ?_;refine Y.fc [(113,.am gP),(8,.box 8 cG 0),(10,.box 10 jS 0)] [(109,.row gP ((kg (fy aU v (d+1) n.F (aU n.F))).map az) 12 44),(8,.box cG [.N [],u 0,.N [],.N [],u 0,u 0,u 0,u 0,u 0,u 0,.bd,.bd]),(10,.box jS [.N n.name,u n.kind,.N n.cU,.N n.target,u (if keeps v then n.cu else 0),u (if keeps v then n.n2 else 0),u (if keeps v then n.n3 else 0),u n.n4,u 0,u 0,.am gP,.T .none 2 ((if v=3 then n.bD else[]).map cW)])] [(109,109),(8,8),(10,10)] ⟨an,rfl,a_⟩ ?_;refine Y.adj 109 113 rfl ?_;refine Y.adi 10 113 (dA:=[.N n.name,u n.kind,.N n.cU,.N n.target,u (if keeps v then n.cu else 0),u (if keeps v then n.n2 else 0),u (if keeps v then n.n3 else 0),u n.n4,u 0,u 0,.T .none 12 ((kg (fy aU v (d+1) n.F (aU n.F))).map az),.T .none 2 ((if v=3 then n.bD else[]).map cW)]) rfl rfl (λw C af dm h=>db.cell (i:=10) h λao au=>(h.SN (i:=10) rfl au) ▸ af) ?_;refine go ?_;rw[FN];refine ap.agg ?_;refine⟨E,E,E,E,E,E,E,E,E,E,ap.of_eq (auP (D.T .none 12) ?_),ap.refl _,ak⟩
 exact avM λk _=>(qK k).symm
end Go.bV.ct
