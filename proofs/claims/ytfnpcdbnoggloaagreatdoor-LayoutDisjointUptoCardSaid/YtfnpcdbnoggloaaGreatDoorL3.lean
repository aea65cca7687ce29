/- Contracts of the program's functions, part 3. No conditions of its own. -/
import Derived.Test.YtfnpcdbnoggloaaGreatDoorL2
import Derived.Test.YtfnpcdbnoggloaaGreatDoorShelf
import Derived.BigQuiet
import Derived.Sort.Grow
import Derived.Test.YtfnpcdbnoggloaaGreatDoorCards
import Derived.LaidByTextLater
import Derived.SevenTiedAt
import Derived.LaidSub
import Derived.LaidOnce
import Derived.ProofKit
import Derived.OpenShut
import Derived.Deep.DeepHandedRow
import Derived.Lib.LaidTab
import Derived.Lib.LaidU8
import Derived.Stop.LaidErr
import Derived.Lib.Builder
import Derived.Lib.FrozenHead
import Derived.Lib.UnsafeStr
import Derived.Laws.Externs
import Derived.WalkKit
set_option linter.unnecessarySimpa false
set_option linter.unusedSimpArgs false
set_option linter.unusedVariables false
set_option maxRecDepth 100000
set_option maxHeartbeats 16000000
namespace Go.bS.cp
open Go Go.Proofs
variable{B:World}
structure dc (B:World):Prop where
 adO:Lib.Utf8Tabs 1 2 B
 TO:∃m,B.cell? ⟨0,0,none⟩=some (.int .i64 m)
 arv : Lib.TabIs Tryz.prog B "internal/strconv.uint64pow10" .u64 Lib.pow10Tab
variable{w:World}{v:Value}
theorem E6(G:pR B w){a:Addr}(h:B.cell? a=some v):w.cell? a=some v:=by(have bi:a.block<B.heap.size:=by simp only[World.cell?]at h;rcases at5 a.block B.heap.size with h1|h1;exact h1;rw[awY h1]at h;cases h);rw[<-h];simp only[World.cell?,G.block _ bi]
theorem adP(G:pR B w)(h:Lib.Utf8Tabs 1 2 B):Lib.Utf8Tabs 1 2 w :=
 ⟨λc hc=>E6 G (h.1 c hc),λi hi=>⟨E6 G (h.2 i hi).1,E6 G (h.2 i hi).2⟩⟩
variable{f:FuncId}
theorem jD{fn:Func}(h : Tryz.prog.funcs[f]?=some fn)(G : fn.body.isSome = true)(av : (fn.name == "runtime.NumGoroutine") = false): Bt Tryz.prog f := ⟨fn,h,G,av⟩
def dR(s:atE):Nat×Nat:=Lib.decodeGo ⟨⟨s⟩⟩
theorem adQ(aV:dc B)(s:atE):aS B 261 [.O s] (.bl [.int .i32 (dR s).1,u (dR s).2]) :=
 .zW (jD Tryz.func261 rfl atz) rfl λw G=>(Tryz.utf8_DecodeRuneInString ⟨⟨s⟩⟩ w (adP G aV.adO)).mono λe w' ⟨ak,cG⟩ =>
  ⟨_,ak,λC=>.bl _ _ rfl λi d v N W=>by
   match i with
   |0=>cases N;cases W;exact .int _ _
   |1=>cases N;cases W;exact .int _ _
   |i+2=>simp at N,cG⟩
theorem TP(a b:atE):aS B 249 [.O a,.O b] (u (Lib.compareBytes a b)) :=
 .pure (jD Tryz.func249 rfl atz) rfl rfl λw _=>Tryz.strings_Compare ⟨⟨a⟩⟩ ⟨⟨b⟩⟩ w
theorem TQ(s:atE)(c:UInt8):aS B 259 [.O s,.O [c]] (.bool (decide (0<=Lib.indexByte s c))) :=
 .pure (jD Tryz.func259 rfl atz) rfl rfl λw _=>Tryz.strings_Contains_one ⟨⟨s⟩⟩ c w
theorem adR(s p:atE):aS B 260 [.O s,.O p] (.O (Lib.trimPrefix s p)) :=
 .pure (jD Tryz.func260 rfl atz) rfl rfl λw _=>Tryz.strings_TrimPrefix ⟨⟨s⟩⟩ ⟨⟨p⟩⟩ w
theorem TR(s:atE)(c:Int)(hs:s.length<4611686018427387904):aS B 24 [.O s,.int .u8 c] (u (Lib.lastIndexByte ⟨⟨s⟩⟩ c)) :=
 .pure (jD Tryz.func24 rfl atz) rfl rfl λw _=>Tryz.strings_LastIndexByte ⟨⟨s⟩⟩ c hs w
def eo(r:Int):Bool:=decide (32<=r)&&(decide (r<=65533)&&(decide (r<55296)||decide (57343<r)))
theorem adS(r:Int):aS B 302 [u r] (.bool (eo r)):=by refine bB Tryz.func302 Tryz.ntmps302 λU=>?_;exact axx
theorem adT(r:Int):aS B 355 [u r] (.bool (eo r)):=by refine bB Tryz.func355 Tryz.ntmps355 λU=>?_;exact axx
theorem w5(s:atE)(h:s≠[]):1<=(dR s).2/\(dR s).2<=s.length/\(dR s).2<=4/\(dR s).1<=1114111:=by
 have h0:¬(⟨⟨s⟩⟩:ByteArray).size=0:=λe=>h (atY e);have al:(⟨⟨s⟩⟩:ByteArray).size=s.length:=rfl;have au:0<s.length:=auX.2 h;unfold dR Lib.decodeGo;rw[atG h0];unfold Utf8.decode;dsimp only;rw[al];have E7:Utf8.runeError=65533:=rfl
 repeat' split
 all_goals simp only[E7,atM,au3,aup,ge_iff_le,Utf8.valid]at*
 all_goals omega
def mf(s:atE):Bool:=!eo (dR s).1||((dR s).1==65533&&(dR s).2==1)
theorem TS(s:atE):mf s=(bif !eo ((dR s).1:Nat)then true else bif (((dR s).1:Nat):Int)==65533 then(((dR s).2:Nat):Int)==1 else false):=by
 unfold mf;have h1:((((dR s).1:Nat):Int)==65533)=((dR s).1==65533):=by rw[awq];simp;omega
 have z:((((dR s).2:Nat):Int)==1)=((dR s).2==1):=by rw[awq];simp;omega
 rw[h1,z];cases eo ((dR s).1:Nat)<;>cases(dR s).1==65533<;>rfl
def yy:Nat->atE->Option (List Int)
 |0,s=>if s=[]then some []else none
 |f+1,s=>if s=[]then some []else if mf s then none else(yy f (s.drop (dR s).2)).map (((dR s).1:Int)::·)
theorem M7:∀(f:Nat) (s:atE),s.length<=f->yy f s=yy s.length s
 |0,s,h=>by have:s=[]:=atY atv;subst this;rfl
 |f+1,s,h=>by by_cases hs:s=[];subst hs;rfl;obtain⟨h1,z,_⟩:=w5 s hs;have au:0<s.length:=auX.2 hs;obtain⟨n,av⟩:∃n,s.length=n+1:=⟨s.length-1,by omega⟩;rw[av];simp only[yy,hs,avq];(have jv:(s.drop (dR s).2).length=s.length-(dR s).2:=by simp);rw[M7 f (s.drop (dR s).2) atv,M7 n (s.drop (dR s).2) atv]
def jE(s:atE):Option (List Int):=yy s.length s
theorem yz{s:atE}(hs:s≠[]):jE s=if mf s then none else(jE (s.drop (dR s).2)).map (((dR s).1:Int)::·):=by
 obtain⟨h1,z,_⟩:=w5 s hs;have au:0<s.length:=auX.2 hs;obtain⟨n,av⟩:∃n,s.length=n+1:=⟨s.length-1,by omega⟩;have jv:(s.drop (dR s).2).length=s.length-(dR s).2:=by simp
 rw[jE,av];simp only[yy,hs,avq];rw[M7 n _ atv];rfl
theorem Cs:∀(n:Nat) (s:atE),s.length<=n->∀l,jE s=some l->l.length<=s.length/\s.length<=4*l.length
 |0,s,h,l,al=>by have:s=[]:=atY atv;subst this;cases al;simp
 |n+1,s,h,l,al=>by by_cases hs:s=[];subst hs;cases al;simp;obtain⟨h1,z,aa,_⟩:=w5 s hs;rw[yz hs]at al;split at al;cases al;cases N:jE (s.drop (dR s).2)with|none=>rw[N]at al;cases al|some hV =>rw[N]at al;cases al;(have jv:(s.drop (dR s).2).length=s.length-(dR s).2:=by simp);have:=Cs n (s.drop (dR s).2) atv hV N;simp only[atQ];omega
def chars(s:atE):List Int×Int:=if 65536<s.length then([],7)else match jE s with|some l=>(l,0)|none=>([],3)
def fJ(k:IntKind)(l:List Int):List D:=l.map (D.int k)
theorem M8(aV:dc B)(s:atE)(hs:s.length<1000000000):aS B 257 [.O s] (.bl [.Q .none 1 (fJ .i64 (chars s).1),u (chars s).2]):=by refine bB Tryz.func257 Tryz.ntmps257 λU=>?_;refine go ?_;refine aJ _ rfl ?_ ?_<;>intro hc;refine go ?_;(have:chars s=([],7):=by rw[chars,atH (by simp at hc;omega)]);rw[this];exact⟨aq.nil,E,ai⟩;refine go ?_;(have ju:¬65536<s.length:=by simp at hc;omega);refine go ?_;refine .inr (af.L_ aL (n:=s.length) (ce:=.i64) (dn:=.i64) rfl rfl rfl rfl rfl rfl (by show 8*_<=_;omega) atv λv=>?_);refine go ?_;refine Y.ed (α:={x:atE×List Int // jE s=(jE x.1).map (x.2++·)/\x.1.length+x.2.length<=s.length}×Value) (λx=>[(0,.O x.1.1.1),(4,.Q (.own 1000 x.2) 1 (fJ .i64 x.1.1.2))]) (λx=>[(1000,.own x.2 (fJ .i64 x.1.1.2).length 1 3)]) (λx=>x.1.1.1.length) (⟨(s,[]),by simp,by simp⟩,v) [(1000,12)] ⟨⟨E,aq.own _ _,ai⟩,rfl,ba⟩ ?_;rintro⟨⟨⟨r,fB⟩,k6,hlen⟩,v⟩;dsimp only at k6 hlen⊢;refine go ?_;refine aJ _ rfl ?_ ?_<;>intro hc;refine fk ?_;(have ae:r≠[]:=by intro e;subst e;simp at hc);obtain⟨E8,r6,Ct,adU⟩:=w5 r ae;(have pp:(fJ .i64 fB).length=fB.length:=by simp[fJ]);refine Mi ?_;refine⟨_,_,λ_=>adQ aV r,ar,?_⟩;refine p8 ?_;refine .inl ⟨by simp[dk];omega,?_⟩;refine go ?_;refine⟨_,_,λ_=>adS _,ar,?_⟩;refine go ?_;refine aJ _ rfl ?_ ?_<;>intro hc;refine go ?_;(have yA:mf r=true:=by rw[TS];exact hc);(have:chars s=([],3):=by rw[chars,atG ju,k6,yz ae,atH yA];rfl);rw[this];exact⟨aq.nil,E,ai⟩;apply cl;(have yA:mf r=false:=by rw[TS];exact hc);refine vk ?_;refine oc ?_;refine .inl ⟨by simp[dk];omega,?_⟩;(conv=>whnf);refine⟨ai,?_⟩;refine oc ?_;refine Mh ?_;refine⟨by show(_+1)*8<=_;omega,by show _+1<=_;omega,atC,λv=>?_⟩;refine nc ?_;refine nb ?_;exact⟨(⟨(r.drop (dR r).2,fB++[((dR r).1:Int)]),by rw[k6,yz ae,yA];simp[awc],by simp;omega⟩,v),[(1000,37)],by show(r.drop (dR r).2).length<r.length;simp;omega,⟨aq.of_eq (atI D.O atx),aq.kd (by simp[fJ];rfl),ai⟩,rfl,rfl,kG (by simp[fJ]),ai⟩;refine go ?_;exact axy
def oR(n:Int):UInt8:=UInt8.ofNat n.toNat
theorem yB(l:List Int)(h:∀n∈l,0<=n/\n<=255):l.map (D.int .u8)=(l.map oR).map λc=>D.int .u8 c.toNat:=by rw[avX];apply awJ;intro n av;have:=h n av;simp only[Function.comp,oR];congr 1;simp;omega
def E9(v:Int):List Int :=
 if v<128 then[v]else if v<2048 then[192+v.tdiv 64,128+v.tmod 64]else[224+v.tdiv 4096,128+(v.tdiv 64).tmod 64,128+v.tmod 64]
def yC(v:Int):atE:=(E9 v).map oR
theorem Ir{v k:Int}(h:0<=v)(X:0<k):v.tdiv k=v/k:=atX h
theorem Is{v k:Int}(h:0<=v):v.tmod k=v%k:=auZ h
theorem adV(v:Int)(h0:0<=v)(h1:v<=65535):aS B 356 [u v] (.O (yC v)):=by refine bB Tryz.func356 Tryz.ntmps356 λU=>?_;apply b3;refine gb ?_;refine aJ _ rfl ?_ ?_<;>intro hc;refine vk ?_;refine oc ?_;refine .inl ⟨by simp at hc;simp[dk];omega,?_⟩;(conv=>whnf);refine pe ?_;refine .inr (af.vi aL (aP:=[v].map oR) (tg:=.dU) rfl rfl rfl rfl rfl rfl (atI (D.Q .dU 1) (yB [v] (by simp at hc⊢;omega))) ?_);refine iJ ?_;exact aq.of_eq (atI D.O (by rw[yC,E9,atH (by simpa using hc)]));apply cl;refine p8 ?_;have bT:=Ir h0 (k:=64) atv;have b0:=Is (k:=64) h0;have j':=Ir h0 (k:=4096) atv;have z':=Is (v:=v.tdiv 64) (k:=64) atv;refine aJ _ rfl ?_ ?_<;>intro hc;refine qU ?_;refine p6 ?_;refine .inl ⟨λ_=>ayE,?_⟩;(conv=>whnf);refine .inl ⟨λ_=>ayE,?_⟩;refine oc ?_;refine .inl ⟨ayE,?_⟩;refine wU ?_;refine .inl ⟨λ_=>ayE,?_⟩;refine oc ?_;refine .inl ⟨ayE,?_⟩;(conv=>whnf);refine pe ?_;refine .inr (af.vi aL (aP:=[192+v.tdiv 64,128+v.tmod 64].map oR) (tg:=.dU) rfl rfl rfl rfl rfl rfl (atI (D.Q .dU 1) (yB [192+v.tdiv 64,128+v.tmod 64] (by simp at hc⊢;omega))) ?_);refine iJ ?_;exact aq.of_eq (atI D.O (by simp only[aup,avl]at*;rw[yC,E9,atG (by assumption),atH (by assumption)]));apply cl;refine qU ?_;refine p6 ?_;refine .inl ⟨λ_=>ayE,?_⟩;(conv=>whnf);refine .inl ⟨λ_=>ayE,?_⟩;refine oc ?_;refine .inl ⟨ayE,?_⟩;refine wU ?_;refine .inl ⟨λ_=>ayE,?_⟩;refine wU ?_;refine .inl ⟨λ_=>ayE,?_⟩;refine oc ?_;refine .inl ⟨ayE,?_⟩;refine wU ?_;refine .inl ⟨λ_=>ayE,?_⟩;refine oc ?_;refine .inl ⟨ayE,?_⟩;(conv=>whnf);refine pe ?_;refine .inr (af.vi aL (aP:=[224+v.tdiv 4096,128+(v.tdiv 64).tmod 64,128+v.tmod 64].map oR) (tg:=.dU) rfl rfl rfl rfl rfl rfl (atI (D.Q .dU 1) (yB [224+v.tdiv 4096,128+(v.tdiv 64).tmod 64,128+v.tmod 64] (by simp at hc⊢;omega))) ?_);refine iJ ?_;exact aq.of_eq (atI D.O (by simp only[aup,avl]at*;rw[yC,E9,atG (by assumption),atG (by assumption)]))
def lx(s:atE)(k:Nat):Int:=((s.getD k 0).toNat:Nat)
def Cu(s:atE)(i:Nat):Int:=if i=2 then(lx s 0-192)*64+lx s 1-128 else lx s 0
def ni(s:atE)(i:Nat):Int:=if i=3 then(lx s 0-224)*4096+(lx s 1-128)*64+lx s 2-128 else Cu s i
def q2(s:atE)(i:Nat):Bool:=eo (ni s i)&&yC (ni s i)==s.take i
theorem M9(s:atE)(k:Nat):0<=lx s k/\lx s k<=255:=by unfold lx;have:=(s.getD k 0).toNat_lt;omega
variable{k:Nat}
theorem As(s:atE)(h:k<s.length):s[k]?=some (s.getD k 0):=by simp[List.getD,h]
def first(s:atE):Int×Int:=if 1<=s.length/\q2 s 1=true then(ni s 1,1)else if 2<=s.length/\q2 s 2=true then(ni s 2,2)else if 3<=s.length/\q2 s 3=true then(ni s 3,3)else(0,0)
variable{r:Int}
theorem E_(h:eo r=true):32<=r/\r<=65533:=by unfold eo at h;simp only[atM,aup]at h;exact⟨h.1,h.2.1⟩
variable{i:Nat}
theorem TT{s:atE}(h1:1<=i)(aa:i<=3)(al:i<=s.length)(cy:q2 s i=true)(d6:∀m,1<=m->m<i->q2 s m=false):first s=(ni s i,(i:Int)):=by(unfold first);match i,h1,aa with|1,_,_=>rw[atH ⟨al,cy⟩];rfl|2,_,_=>rw[atG (by rw[d6 1 atv atv];simp),atH ⟨al,cy⟩];rfl|3,_,_=>rw[atG (by rw[d6 1 atv atv];simp),atG (by rw[d6 2 atv atv];simp),atH ⟨al,cy⟩];rfl
theorem adW{s:atE}(hi:3<i\/s.length<i)(d6:∀m,1<=m->m<i->q2 s m=false):first s=(0,0):=by(unfold first;rw[atG,atG,atG]);(all_goals rintro⟨h1,z⟩);rw[d6 3 atv atv]at z;cases z;rw[d6 2 atv atv]at z;cases z;rw[d6 1 atv atv]at z;cases z
theorem adX(s:atE)(hs:s.length<1000000000):aS B 315 [.O s] (.bl [u (first s).1,u (first s).2]):=by refine bB Tryz.func315 Tryz.ntmps315 λU=>?_;apply b3;refine nF ?_;refine Y.loop (α:={i:Nat // 1<=i/\i<=4/\∀m,1<=m->m<i->q2 s m=false}) (λx=>[(0,.O s),(4,u x.1)]) (λ_=>[]) (λx=>4-x.1) ⟨1,by omega,by omega,λm h1 z=>by omega⟩ ar trivial ?_;rintro⟨i,ne,TU,d6⟩;dsimp only;refine gb ?_;apply g9;refine ob ?_;refine aJ _ rfl ?_ ?_<;>intro hc;refine fk ?_;(have hi:i<=3/\i<=s.length:=axX);have rR:=M9 s 0;have m6:=M9 s 1;have g8:=M9 s 2;refine gK ?_;refine⟨s.getD 0 0,λ_=>⟨by omega,As s atv⟩,?_⟩;(conv=>whnf);refine .inl ⟨ax',?_⟩;(conv=>whnf);refine Y.l0 (α:=Unit) (λx=>[(0,.O s),(4,u i),(5,u (Cu s i))]) (λx=>[]) ?_ ?_;apply b3;refine aJ _ rfl ?_ ?_<;>intro hc;refine Y.vf aL mixed atA ?_;(conv=>whnf);refine⟨s.getD 0 0,λ_=>⟨by omega,As s atv⟩,?_⟩;(conv=>whnf);refine .inl ⟨ax',?_⟩;(conv=>whnf);refine .inl ⟨λ_=>ax',?_⟩;(conv=>whnf);refine .inl ⟨λ_=>ax',?_⟩;(conv=>whnf);refine⟨s.getD 1 0,λ_=>⟨by omega,As s (by simp at hc;omega)⟩,?_⟩;(conv=>whnf);refine .inl ⟨by have:=(s.getD 1 0).toNat_lt;simp only[dk];omega,?_⟩;(conv=>whnf);refine .inl ⟨λ_=>axP,?_⟩;(conv=>whnf);refine .inl ⟨λ_=>axP,?_⟩;(conv=>whnf);(have z:i=2:=by simp at hc;omega);exact⟨(),[],⟨E,E,dp (by rw[Cu,atH z];rfl),ai⟩,rfl,ai⟩;refine fk ?_;(have z:i≠2:=by simp at hc;omega);exact⟨(),[],⟨E,E,dp (by rw[Cu,atG z];rfl),ai⟩,rfl,ai⟩;rintro⟨⟩;refine Y.l0 (α:=Unit) (λx=>[(0,.O s),(4,u i),(5,u (ni s i))]) (λx=>[]) ?_ ?_;apply b3;refine aJ _ rfl ?_ ?_<;>intro hc;refine Y.vf aL mixed atA ?_;(conv=>whnf);refine⟨s.getD 0 0,λ_=>⟨by omega,As s atv⟩,?_⟩;(conv=>whnf);have w6:=(s.getD 0 0).toNat_lt;have E':=(s.getD 1 0).toNat_lt;have qY:=(s.getD 2 0).toNat_lt;refine .inl ⟨by simp only[dk];omega,?_⟩;refine vn ?_;refine⟨s.getD 1 0,λ_=>⟨by omega,As s (by simp at hc;omega)⟩,?_⟩;(conv=>whnf);refine .inl ⟨by simp only[dk];omega,?_⟩;refine g_ ?_;refine vn ?_;refine⟨s.getD 2 0,λ_=>⟨by omega,As s (by simp at hc;omega)⟩,?_⟩;(conv=>whnf);refine .inl ⟨by simp only[dk];omega,?_⟩;refine vn ?_;(have z:i=3:=by simp at hc;omega);exact⟨(),[],⟨E,E,dp (by rw[ni,atH z];rfl),ai⟩,rfl,ai⟩;refine fk ?_;(have z:i≠3:=by simp at hc;omega);exact⟨(),[],⟨E,E,dp (by rw[ni,atG z]),ai⟩,rfl,ai⟩;rintro⟨⟩;refine oO ?_;(conv=>whnf);refine⟨_,_,λ_=>adT _,ar,?_⟩;refine na ?_;refine⟨[u (ni s i)],_,λh=>adV _ (by have:=E_ h;omega) (by have:=E_ h;omega),ar,?_⟩;refine hG ?_;refine⟨λh=>by omega,?_⟩;refine ob ?_;(conv=>whnf);(have TV:q2 s i=(bif eo (ni s i)then yC (ni s i)==(s.take (i:Int).toNat).drop (Int.toNat 0)else false):=by rw[q2,auq];cases eo (ni s i)<;>rfl);refine aJ _ rfl ?_ ?_<;>intro hc;refine gm ?_;have:=TT ne hi.1 hi.2 (TV.trans hc) d6;exact⟨dp (by rw[this]),dp (by rw[this]),ai⟩;refine rU ?_;exact⟨⟨i+1,by omega,by omega,λm h1 z=>(avK.1 z).elim (d6 m h1) λe=>by subst e;exact TV.trans hc⟩,by show 4-(i+1)<4-i;omega,ar,ai⟩;refine qT ?_;(have hi:3<i\/s.length<i:=axX);have:=adW hi d6;exact⟨dp (by rw[this]),dp (by rw[this]),ai⟩
theorem adY{s:atE}(h:1<=s.length):s.take 1=[s.getD 0 0]:=by match s,h with|a::t,_=>rfl
theorem adZ{s:atE}(h:2<=s.length):s.take 2=[s.getD 0 0,s.getD 1 0]:=by match s,h with|a::b::t,_=>rfl
theorem ad0{s:atE}(h:3<=s.length):s.take 3=[s.getD 0 0,s.getD 1 0,s.getD 2 0]:=by match s,h with|a::b::c::t,_=>rfl
theorem ad1(s:atE)(k:Nat):(⟨⟨s⟩⟩:ByteArray).get! k=s.getD k 0:=by show(⟨s⟩:Array UInt8)[k]! = _;rw[getElem!_def];simp[List.getD];cases h:s[k]?<;>rfl
def At(n lp dz cc eD:Nat):Nat×Nat :=
 if lp<128 then(lp,1)
 else if lp/32=6/\1<n/\dz/64=2 then
  if(lp%32)*64+dz%64≥128 then((lp%32)*64+dz%64,2)else(65533,1)
 else if lp/16=14/\(1<n/\dz/64=2)/\2<n/\cc/64=2 then
  if(lp%16)*4096+(dz%64)*64+cc%64≥2048/\((lp%16)*4096+(dz%64)*64+cc%64<55296\/57344<=(lp%16)*4096+(dz%64)*64+cc%64)
  then((lp%16)*4096+(dz%64)*64+cc%64,3)else(65533,1)
 else if lp/8=30/\(1<n/\dz/64=2)/\(2<n/\cc/64=2)/\3<n/\eD/64=2 then
  if(lp%8)*262144+(dz%64)*4096+(cc%64)*64+eD%64≥65536/\(lp%8)*262144+(dz%64)*4096+(cc%64)*64+eD%64<=1114111
  then((lp%8)*262144+(dz%64)*4096+(cc%64)*64+eD%64,4)else(65533,1)
 else(65533,1)
theorem Fa{s:atE}(h:s≠[]):dR s=At s.length (s.getD 0 0).toNat (s.getD 1 0).toNat (s.getD 2 0).toNat (s.getD 3 0).toNat:=by have h0:¬(⟨⟨s⟩⟩:ByteArray).size=0:=λe=>h (atY e);have al:(⟨⟨s⟩⟩:ByteArray).size=s.length:=rfl;unfold dR Lib.decodeGo;rw[atG h0];unfold Utf8.decode;dsimp only;simp only[ad1,aut,al];have w6:=(s.getD 0 0).toNat_lt;generalize(s.getD 0 0).toNat=lp at*;generalize(s.getD 1 0).toNat=dz;generalize(s.getD 2 0).toNat=cc;generalize(s.getD 3 0).toNat=eD;unfold At;have E7:Utf8.runeError=65533:=rfl;simp only[E7,atM,au3,aup,ge_iff_le,Utf8.valid,avn,and_assoc];(repeat' split);all_goals first|rfl|(exfalso;omega)|skip
def r0(v:Int)(lp dz cc:Int):Nat->Prop
 |1=>v<128/\lp=v
 |2=>128<=v/\v<2048/\lp=192+v/64/\dz=128+v%64
 |3=>2048<=v/\lp=224+v/4096/\dz=128+v/64%64/\cc=128+v%64
 |_=>False
theorem Cv{n:Int}{b:UInt8}(h0:0<=n)(h1:n<=255):oR n=b↔((b.toNat:Nat):Int)=n:=by unfold oR;rw[<-UInt8.toNat_inj];have G:=b.toNat_lt;simp;omega
theorem TW{s:atE}{v:Int}(h0:0<=v)(h1:v<=65535)(hi:1<=i)(q3:i<=3)(al:i<=s.length):yC v=s.take i↔r0 v (lx s 0) (lx s 1) (lx s 2) i:=by have bT:=Ir h0 (k:=64) atv;have b0:=Is (k:=64) h0;have j':=Ir h0 (k:=4096) atv;have z':=Is (v:=v.tdiv 64) (k:=64) atv;unfold yC E9;match i,hi,q3 with|1,_,_ =>rw[adY al];unfold r0 lx;split;simp only[aum,avp,avU,and_true];rw[Cv atv atv];omega;split<;>simp<;>omega|2,_,_ =>rw[adZ al];unfold r0 lx;split;simp;omega;split;simp only[aum,avp,avU,and_true];rw[Cv atv atv,Cv atv atv];omega;simp;omega|3,_,_ =>rw[ad0 al];unfold r0 lx;split;simp;omega;split;simp;omega;simp only[aum,avp,avU,and_true];rw[Cv atv atv,Cv atv atv,Cv atv atv];omega
theorem M_{s:atE}(hi:1<=i)(q3:i<=3)(al:i<=s.length):q2 s i=true↔eo (ni s i)=true/\r0 (ni s i) (lx s 0) (lx s 1) (lx s 2) i:=by unfold q2;rw[atM,avn];constructor;rintro⟨h1,z⟩;have:=E_ h1;exact⟨h1,(TW atv atv hi q3 al).1 z⟩;rintro⟨h1,z⟩;have:=E_ h1;exact⟨h1,(TW atv atv hi q3 al).2 z⟩
theorem TX{s:atE}(hs:s≠[])(hi:1<=i)(q3:i<=3)(al:i<=s.length)(h:q2 s i=true):((dR s).1:Int)=ni s i/\(dR s).2=i:=by obtain⟨h1,z⟩:=(M_ hi q3 al).1 h;rw[Fa hs];unfold eo at h1;simp only[atM,au3,aup]at h1;unfold ni Cu lx at*;have w6:=(s.getD 0 0).toNat_lt;have E':=(s.getD 1 0).toNat_lt;have qY:=(s.getD 2 0).toNat_lt;generalize(s.getD 0 0).toNat=lp at*;generalize(s.getD 1 0).toNat=dz at*;generalize(s.getD 2 0).toNat=cc at*;generalize(s.getD 3 0).toNat=eD at*;unfold At;match i,hi,q3 with|1,_,_ =>simp only[Nat.reduceEqDiff,avq,auT,r0]at h1 z⊢;rw[atH atv];simp|2,_,_ =>simp only[Nat.reduceEqDiff,avq,auT,r0]at h1 z⊢;rw[atG atv,atH atv,atH atv];simp;omega|3,_,_ =>simp only[Nat.reduceEqDiff,avq,auT,r0]at h1 z⊢;rw[atG atv,atG atv,atH atv,atH atv];simp;omega
theorem ad2{s:atE}(hs:s≠[])(h:mf s=false):(dR s).2<=3/\q2 s (dR s).2=true/\((dR s).1:Int)=ni s (dR s).2:=by
 obtain⟨h1,z,aa,aC⟩:=w5 s hs
 have G:eo ((dR s).1:Nat)=true/\¬((dR s).1=65533/\(dR s).2=1):=by
  unfold mf at h;simp only[avg,avC,avk,aur]at h;exact⟨h.1,by omega⟩
 obtain⟨hc,av⟩:=G;have arw:=E_ hc
 have key:(dR s).2<=3/\r0 ((dR s).1:Nat) (lx s 0) (lx s 1) (lx s 2) (dR s).2/\((dR s).1:Int)=ni s (dR s).2:=by
  unfold ni Cu lx;rw[Fa hs]at*;have w6:=(s.getD 0 0).toNat_lt;have E':=(s.getD 1 0).toNat_lt;have qY:=(s.getD 2 0).toNat_lt;generalize(s.getD 0 0).toNat=lp at*;generalize(s.getD 1 0).toNat=dz at*;generalize(s.getD 2 0).toNat=cc at*;generalize(s.getD 3 0).toNat=eD at*;unfold At at*
  repeat' split
  all_goals simp_all [r0]
  all_goals omega
 refine⟨key.1,?_,key.2.2⟩;rw[M_ h1 key.1 z,<-key.2.2];exact⟨hc,key.2.1⟩
theorem ad3{s:atE}(hs:s≠[]):first s=if mf s then(0,0)else(((dR s).1:Int),((dR s).2:Int)):=by obtain⟨h1,z,aa,aC⟩:=w5 s hs;have au:0<s.length:=auX.2 hs;cases G:mf s with|true =>rw[atH rfl];(have d6:∀m,1<=m->m<4->m<=s.length->q2 s m=false:=λm ly s5 gv=>by rw[awu];intro cy;obtain⟨bT,b0⟩:=TX hs ly atv gv cy;obtain⟨ek,dq⟩:=(M_ ly atv gv).1 cy;unfold mf at G;simp only[au3,avZ,atM,avn]at G;rw[bT]at G;rcases G with G|⟨dz,cc⟩;rw[G]at ek;cases ek;(have hm:m=1:=by omega);subst hm;simp only[r0]at dq;omega);(unfold first;rw[atG,atG,atG]);(all_goals rintro⟨g1,eP⟩);rw[d6 3 atv atv g1]at eP;cases eP;rw[d6 2 atv atv g1]at eP;cases eP;rw[d6 1 atv atv g1]at eP;cases eP|false =>rw[atG atx];obtain⟨g1,eP,g3⟩:=ad2 hs G;rw[g3];refine TT h1 g1 z eP λm ly s5=>?_;rw[awu];intro cy;have:=(TX hs ly atv atv cy).2;omega
theorem ad4(s:atE)(hs:s.length<1000000000):aS B 273 [.O s] (.bl [.Q .none 1 (fJ .i64 (chars s).1),u (chars s).2]):=by refine bB Tryz.func273 Tryz.ntmps273 λU=>?_;apply b3;refine gb ?_;refine aJ _ rfl ?_ ?_<;>intro hc;refine gm ?_;(have:chars s=([],7):=by rw[chars,atH (by simp at hc;omega)]);rw[this];exact⟨aq.nil,E,ai⟩;refine fk ?_;(have ju:¬65536<s.length:=by simp at hc;omega);apply b3;apply en;refine Y.own 4 1000 1 3 rfl (λv=>?_);apply oN;refine Y.ed (α:={x:atE×List Int // jE s=(jE x.1).map (x.2++·)/\x.1.length+x.2.length<=s.length}×Value) (λx=>[(0,.O x.1.1.1),(4,.Q (.own 1000 x.2) 1 (fJ .i64 x.1.1.2))]) (λx=>[(1000,.own x.2 (fJ .i64 x.1.1.2).length 1 3)]) (λx=>x.1.1.1.length) (⟨(s,[]),by simp,by simp⟩,v) [(1000,1000)] ⟨ar,rfl,ba⟩ ?_;rintro⟨⟨⟨r,fB⟩,k6,hlen⟩,v⟩;dsimp only at k6 hlen⊢;refine gb ?_;refine aJ _ rfl ?_ ?_<;>intro hc;refine fk ?_;(have ae:r≠[]:=by intro e;subst e;simp at hc);obtain⟨E8,r6,Ct,adU⟩:=w5 r ae;(have pp:(fJ .i64 fB).length=fB.length:=by simp[fJ]);have yD:=ad3 ae;refine Mi ?_;refine⟨_,_,λ_=>adX r atv,ar,?_⟩;refine gb ?_;refine aJ _ rfl ?_ ?_<;>intro hc;refine gm ?_;(have yA:mf r=true:=by cases G:mf r with|true=>rfl|false=>rw[G,atG atx]at yD;rw[yD]at hc;simp at hc;omega);(have:chars s=([],3):=by rw[chars,atG ju,k6,yz ae,atH yA];rfl);rw[this];exact⟨aq.nil,E,ai⟩;refine fk ?_;(have yA:mf r=false:=by cases G:mf r with|false=>rfl|true=>rw[G,atH rfl]at yD;rw[yD]at hc;simp at hc);rw[yA,atG atx]at yD;refine ch ?_;refine nE ?_;refine⟨by show(_+1)*8<=_;omega,by show _+1<=_;omega,atC,λv=>?_⟩;refine nc ?_;refine⟨λ_=>by rw[yD];simp;omega,?_⟩;(conv=>whnf);exact⟨(⟨(r.drop (dR r).2,fB++[((dR r).1:Int)]),by rw[k6,yz ae,yA];simp[awc],by simp;omega⟩,v),[(1000,23)],by show(r.drop (dR r).2).length<r.length;simp;omega,⟨aq.of_eq (atI D.O (by rw[yD];simp)),aq.kd (by rw[yD];simp[fJ];rfl),ai⟩,rfl,rfl,kG (by simp[fJ]),ai⟩;refine qT ?_;exact axy
def dT(s:atE):Bool :=
 if s=[46]\/s=[46,46]\/(47:UInt8)∈s then false else(chars s).2==0&&(decide (1<=(chars s).1.length)&&decide ((chars s).1.length<=64))
theorem TY(c:UInt8):∀s:atE,decide (0<=Lib.indexByte s c)=decide (c∈s)
 |[]=>by simp[Lib.indexByte]
 |b::l=>by
  have aY:=TY c l;have io:=Lib.indexByte_ge l c;rw[decide_eq_decide]at aY⊢;unfold Lib.indexByte;by_cases G:b=c
  ·subst G;simp
  rw[atG (by simpa using G)];have:c∈b::l↔c∈l:=by simp[Ne.symm G]
  rw[this,<-aY]
  cases hm:Lib.indexByte l c==-1 with
  |true=>rw[atH rfl];have:=eq_of_beq hm;omega
  |false => rw[atG atx];have : Lib.indexByte l c ≠ -1 := λe => by rw[e]at hm;simp at hm
            omega
theorem yE(aV:dc B)(s:atE)(hs:s.length<1000000000):aS B 193 [.O s] (.bool (dT s)):=by refine bB Tryz.func193 Tryz.ntmps193 λU=>?_;apply b3;refine gb ?_;refine iq ?_;refine na ?_;refine⟨_,_,λh=>TQ s 47,ar,?_⟩;refine tZ ?_;(conv=>whnf);(have pi:(bif bif s==[46]then true else s==[46,46]then true else decide (0<=Lib.indexByte s 47))=decide (s=[46]\/s=[46,46]\/(47:UInt8)∈s):=by rw[TY];by_cases h1:s=[46];simp[h1];by_cases z:s=[46,46]<;>simp[h1,z]);refine aJ _ rfl ?_ ?_<;>intro hc;refine gm ?_;exact aq.of_eq (atI D.bool (by rw[dT,atH (auc (pi.symm.trans hc))]));apply cl;refine ch ?_;refine⟨_,_,λ_=>M8 aV s hs,ar,?_⟩;apply b3;refine ob ?_;refine ob ?_;refine iJ ?_;refine aq.of_eq (atI D.bool ?_);rw[dT,atG (at0 (pi.symm.trans hc))];exact axo
def cN(c:UInt8):atE->atE->List atE
 |p,[]=>[p]
 |p,b::r=>if b=c then p::cN c [] r else cN c (p++[b]) r
theorem M'{c:UInt8}:∀(s p:atE),c∉s->cN c p s=[p++s]
 |[],p,_=>by simp[cN]
 |b::r,p,h=>by have G:b≠c:=λe=>h (by simp[e]);have ae:c∉r:=λe=>h (by simp[e]);rw[cN,atG G,M' r _ ae];simp
theorem Na{c:UInt8}:∀(a p r:atE),c∉a->cN c p (a++c::r)=(p++a)::cN c [] r
 |[],p,r,_=>by simp[cN]
 |b::a,p,r,h=>by have G:b≠c:=λe=>h (by simp[e]);have ae:c∉a:=λe=>h (by simp[e]);rw[auO,cN,atG G,Na a _ r ae];simp
theorem s6{c:UInt8}:∀(s p:atE),(cN c p s).length<=s.length+1/\∀x∈cN c p s,x.length<=p.length+s.length
 |[],p=>by simp[cN]
 |b::r,p=>by have h1:=s6 (c:=c) r [];have z:=s6 (c:=c) r (p++[b]);rw[cN];split;refine⟨by simp;omega,λx F=>?_⟩;rcases at6.1 F with rfl|F;simp;have:=h1.2 x F;simp at this⊢;omega;refine⟨by simp at z⊢;omega,λx F=>?_⟩;have:=z.2 x F;simp at this⊢;omega
theorem ad5(c:UInt8):∀(n:Nat) (s:atE),s.length<=n->(Lib.splitB ⟨⟨[c]⟩⟩ 0 (Lib.countB ⟨⟨s⟩⟩ ⟨⟨[c]⟩⟩) ⟨⟨s⟩⟩).map (λb=>b.data.toList)=cN c [] s:=by intro n;induction n with|zero =>intro s h;have:s=[]:=atY atv;subst this;rw[Lib.countB_miss _ _ (by rfl)];rfl|succ n aY =>intro s h;have rZ:Lib.indexB ⟨⟨s⟩⟩ ⟨⟨[c]⟩⟩=Lib.indexByte s c:=Lib.index_one s c;have io:=Lib.indexByte_ge s c;by_cases hm:Lib.indexByte s c=-1;(have d6:c∉s:=λhc=>by obtain⟨k,X⟩:=aub.1 hc;exact Lib.indexByte_none hm k X);rw[Lib.countB_miss _ _ (rZ.trans hm),Lib.splitB_zero,M' s [] d6];rfl;obtain⟨i,hi⟩:∃i:Nat,Lib.indexByte s c=i:=⟨(Lib.indexByte s c).toNat,by omega⟩;obtain⟨h1,z⟩:=Lib.indexByte_some hi;(have c0:i<s.length:=by rcases at5 i s.length with h|h;exact h;rw[atT h]at h1;cases h1);have hsz:(⟨⟨[c]⟩⟩:ByteArray).size=1:=rfl;have i6:(⟨⟨s⟩⟩:ByteArray).size=s.length:=rfl;have l3:s.take s.length=s:=atW;rw[Lib.countB_hit _ _ i (by rw[hsz];omega) (rZ.trans hi),awy 1,Lib.splitB_hit _ _ _ _ i (rZ.trans hi),hsz,i6,Lt,Lt,l3];(have hs:s=s.take i++c::s.drop (i+1):=by have:=aui.1 h1;obtain⟨_,ak⟩:=this;have aa:=auN c0;rw[ak]at aa;rw[<-aa,ava]);(have d6:c∉s.take i:=λhc=>by obtain⟨k,X⟩:=aub.1 hc;rw[auB]at X;split at X;rename_i bi;exact z k bi X;cases X);rw[aum,aY (s.drop (i+1)) atw];(conv=>rhs;rw[hs,Na _ _ _ d6]);simp
def aU(l:List atE):List D:=l.map D.O
theorem It(aV:dc B)(s:atE)(c:UInt8)(hs:s.length<1000000000):aS B 83 [.O s,.O [c]] (.Q .dU 1 (aU (cN c [] s))):=by obtain⟨m,hm⟩:=aV.TO;have jt:=ad5 c s.length s (atP _);have hlen:=(s6 (c:=c) s []).1;(have im:Lib.countB ⟨⟨s⟩⟩ ⟨⟨[c]⟩⟩+1=(aU (cN c [] s)).length:=by have:=Lib.splitB_all (⟨⟨[c]⟩⟩:ByteArray) (atP 1) 0 _ (⟨⟨s⟩⟩:ByteArray) rfl;rw[<-this,aU,atL,<-jt,atL]);(have hcells:∀x∈aU (cN c [] s),x.cells=[x]:=λx F=>ayF);(have rX:(Lib.splitB ⟨⟨[c]⟩⟩ 0 (Lib.countB ⟨⟨s⟩⟩ ⟨⟨[c]⟩⟩) ⟨⟨s⟩⟩).map Value.string=(cN c [] s).map λx=>Value.string ⟨⟨x⟩⟩:=by rw[<-jt,avX];rfl);refine .newRow (dh:=(cN c [] s).map λx=>Value.string ⟨⟨x⟩⟩) (e:=9) (jD Tryz.func83 rfl atz) rfl (λx F=>by rw[hcells x F];rfl) (by simp only[aU,atL,maxLen]at*;omega) (λw C=>?_) (λaj ao=>by obtain⟨y,_,rfl⟩:=at3.1 ao;rfl) λw G=>(Tryz.strings_Split ⟨⟨s⟩⟩ ⟨⟨[c]⟩⟩ m w (by show s.length<_;omega) (E6 G hm) (atP 1)).mono λe w' ⟨ak,cG⟩=>?_;rw[rO hcells];exact⟨by simp[aU],λi d v N W=>by simp only[aU,aud]at N W;cases F:(cN c [] s)[i]? with|none=>rw[F]at N;cases N|some x=>rw[F]at N W;cases N;cases W;exact .O _⟩;rw[<-im];exact⟨ak,by rw[cG,rX]⟩
def gD(s:atE):atE:=match s with|b::r=>if b=47 then r else b::r|[]=>[]
theorem Iu(s:atE):Lib.trimPrefix s [47]=gD s:=by unfold Lib.trimPrefix Lib.hasPrefix gD;match s with|[]=>rfl|b::r =>by_cases h:b=47;simp[h,List.isPrefixOf];have bq:¬(47:UInt8)=b:=λe=>h e.symm;simp[h,bq,List.isPrefixOf]
theorem Iv(s:atE):(gD s).length<=s.length:=by unfold gD;split;split<;>simp;simp
def Au(p:atE):Bool:=p==[46]||(p==[46,46]||dT p)
def k7(s:atE):Bool:=if s.length<1\/128<s.length then false else if s=[47]then true else(cN 47 [] (gD s)).all Au
variable{α:Type}
theorem TZ{q:α->Bool}{l:List α}(h:i<l.length)(I:q l[i]=false):l.all q=false:=by rw[awu];intro ha;have:=auC.1 ha l[i] (atK h);rw[I]at this;cases this
theorem Nb{q:α->Bool}{l:List α}(h:¬i<l.length)(I:∀j (Z:j<l.length),j<i->q l[j]=true):l.all q=true :=
 auC.2 λx F=>by
  obtain⟨j,Z,rfl⟩:=auh.1 F;exact I j Z atv
theorem Nc{q:α->Bool}{l:List α}{hi:i<l.length}(h:q l[i]=true)(I:∀j (Z:j<l.length),j<i->q l[j]=true):∀j (Z:j<l.length),j<i+1->q l[j]=true:=λj Z bi =>
 (avK.1 bi).elim (I j Z) λe=>by subst e;exact h
theorem T0(p:atE):(bif (bif !(p==[46])then !(p==[46,46])else false)then !dT p else false)=!Au p:=by unfold Au;cases p==[46]<;>cases p==[46,46]<;>cases dT p<;>rfl
theorem Iw(aV:dc B)(s:atE)(hs:s.length<1000000000):aS B 194 [.O s] (.bool (k7 s)):=by refine bB Tryz.func194 Tryz.ntmps194 λU=>?_;refine go ?_;refine aJ _ rfl ?_ ?_<;>intro hc;refine go ?_;refine aq.of_eq (atI D.bool ?_);rw[k7,atH];by_cases h1:s.length<1;exact .inl h1;right;(have mb:¬(s.length:Int)<1:=by omega);simp[mb]at hc;omega;refine go ?_;(have h1:¬(s.length<1\/128<s.length):=ax1);refine go ?_;refine aJ _ rfl ?_ ?_<;>intro hc;refine go ?_;exact aq.of_eq (atI D.bool (by rw[k7,atG h1,atH (by simpa using hc)]));apply cl;(have z:s≠[47]:=by simpa using hc);(have hT:k7 s=(cN 47 [] (gD s)).all Au:=by rw[k7,atG h1,atG z]);have im:=Iv s;obtain⟨w7,Fb⟩:=s6 (c:=47) (gD s) [];refine p8 ?_;refine⟨_,_,λ_=>adR s [47],ar,?_⟩;refine go ?_;refine⟨[.O (gD s),.O [47]],_,λ_=>It aV (gD s) 47 atv,⟨aq.of_eq (atI D.O (Iu s)),E,ai⟩,?_⟩;apply oN;refine Y.loop (α:={i:Nat // i<=(cN 47 [] (gD s)).length/\∀j (h:j<(cN 47 [] (gD s)).length),j<i->Au (cN 47 [] (gD s))[j]=true}) (λx=>[(17,.Q .dU 1 (aU (cN 47 [] (gD s)))),(18,u (aU (cN 47 [] (gD s))).length),(19,u x.1)]) (λ_=>[]) (λx=>(cN 47 [] (gD s)).length-x.1) ⟨0,by simp⟩ ar trivial ?_;rintro⟨i,hi,au⟩;dsimp only;refine go ?_;refine aJ _ rfl ?_ ?_<;>intro hc;refine fk ?_;(have aE:i<(cN 47 [] (gD s)).length:=by simpa[aU]using hc);have dd:=Fb _ (atK aE);refine gK ?_;refine⟨λ_=>by simp[aU];omega,?_⟩;refine go ?_;refine⟨.O (cN 47 [] (gD s))[i],λ_=>BX _ aE,?_⟩;refine go ?_;refine⟨[.O (cN 47 [] (gD s))[i]],_,λh=>yE aV _ (by simp at dd;omega),ar,?_⟩;refine iq ?_;(conv=>whnf);have pi:=T0 (cN 47 [] (gD s))[i];refine aJ _ rfl ?_ ?_<;>intro hc;refine go ?_;exact aq.of_eq (atI D.bool (by rw[hT,TZ aE (by simpa using pi.symm.trans hc)]));refine go ?_;exact⟨⟨i+1,by omega,Nc (hi:=aE) (by simpa using pi.symm.trans hc) au⟩,by show _-(i+1)<_-i;omega,ar,ai⟩;refine go ?_;exact aq.of_eq (atI D.bool (by rw[hT,Nb (by simpa[aU]using hc) au]))
theorem ad6{s:atE}(h:300<s.length):dT s=false:=by unfold dT chars;split;rfl;split;rfl;cases au:jE s with|none=>rfl|some l =>have:=Cs s.length s (atP _) l au;(have h1:¬l.length<=64:=by omega);simp[h1]
theorem Nd(s:atE)(hs:s.length<1000000000):aS B 214 [.O s] (.bool (dT s)):=by refine bB Tryz.func214 Tryz.ntmps214 λU=>?_;refine go ?_;(have pi:(bif bif s==[46]then true else s==[46,46]then true else decide (300<(s.length:Int)))=decide (s=[46]\/s=[46,46]\/300<s.length):=by by_cases h1:s=[46];simp[h1];by_cases z:s=[46,46];simp[z];(have bT:(s==[46])=false:=by simpa using h1);(have b0:(s==[46,46])=false:=by simpa using z);rw[bT,b0];simp[h1,z];omega);refine aJ _ rfl ?_ ?_<;>intro hc;refine go ?_;refine aq.of_eq (atI D.bool ?_);have:=auc (pi.symm.trans hc);by_cases aa:300<s.length;rw[ad6 aa];rw[dT,atH (by rcases this with h|h|h;exact .inl h;exact .inr (.inl h);exact absurd h aa)];refine go ?_;have av:=at0 (pi.symm.trans hc);refine go ?_;refine Y.loop (α:={i:Nat // i<=s.length/\∀j (h:j<s.length),j<i->(s[j]!=47)=true}) (λx=>[(0,.O s),(3,u x.1)]) (λ_=>[]) (λx=>s.length-x.1) ⟨0,by simp⟩ ar trivial ?_;rintro⟨i,hi,au⟩;dsimp only;refine go ?_;refine aJ _ rfl ?_ ?_<;>intro hc;refine go ?_;(have aE:i<s.length:=by simpa using hc);refine go ?_;refine⟨s[i],λ_=>⟨by omega,by simp[aE]⟩,?_⟩;refine go ?_;have q4:=St s[i] 47 aty;refine aJ _ rfl ?_ ?_<;>intro hc;refine go ?_;refine aq.of_eq (atI D.bool ?_);(have Av:s[i]=47:=by have:=q4.symm.trans hc;simpa using this);rw[dT,atH (.inr (.inr (Av ▸ atK aE)))];refine go ?_;exact⟨⟨i+1,by omega,Nc (q:=λb=>b !=47) (hi:=aE) (by have:=q4.symm.trans hc;simpa[bne]using this) au⟩,ayp,ar,ai⟩;refine sS ?_;refine⟨_,_,λ_=>ad4 s hs,ar,?_⟩;refine go ?_;refine aq.of_eq (atI D.bool ?_);(have d6:(47:UInt8)∉s:=λh=>by have:=Nb (q:=λb:UInt8=>b !=47) (by simpa using hc) au;have:=auC.1 this 47 h;simp at this);rw[dT,atG (by rintro(h|h|h);exact av (.inl h);exact av (.inr (.inl h));exact d6 h)];exact axo
structure Ix where
 path:atE
 ad7:Int
 ad8:Int
 ad9:Int
 ad_:Int
 gO:Bool
 deriving DecidableEq
def pq(b:Ix):D:=.agg [.O b.path,u b.ad7,u b.ad8,u b.ad9,u b.ad_,.bool b.gO]
structure e2 where
 name:atE
 set:atE
 pr:atE
 ps:atE
 l9:atE
 Cw:Int
 Cx:Int
 fl:Int
 e3:Int
 c2:Int
 gO:List Ix
 dl:Int
 oS:Bool
 deriving DecidableEq
def hW(m:e2):D:=.agg [.O m.name,.O m.set,.O m.pr,.O m.ps,.O m.l9,u m.Cw,u m.Cx,u m.fl,u m.e3,u m.c2,.Q .none 6 (m.gO.map pq),u m.dl,.bool m.oS]
def Iy(m:e2):Bool:=decide (m.gO.length<=4)&&decide (m.name.length+m.set.length+m.pr.length+m.ps.length+m.l9.length<=2000)
theorem ad'(m:e2)(h:m.name.length+m.set.length+m.pr.length+m.ps.length+m.l9.length<1000000000):aS B 10 [hW m] (.bool (Iy m)):=by refine bB Tryz.func10 Tryz.ntmps10 λU=>?_;refine ch ?_;intro b;refine lm ?_;intro b;apply cD;refine jb ?_;refine iK ?_;apply g9;refine iK ?_;apply g9;refine hG ?_;refine .inl ⟨λh=>by simp[dk];omega,?_⟩;refine iK ?_;apply g9;refine hG ?_;refine .inl ⟨λh=>by simp[dk];omega,?_⟩;refine iK ?_;apply g9;refine hG ?_;refine .inl ⟨λh=>by simp[dk];omega,?_⟩;refine iK ?_;apply g9;refine hG ?_;refine .inl ⟨λh=>by simp[dk];omega,?_⟩;refine iq ?_;refine iJ ?_;refine aq.of_eq (atI D.bool (a₂:=Iy m) ?_);unfold Iy;by_cases h1:m.gO.length<=4;by_cases z:m.name.length+m.set.length+m.pr.length+m.ps.length+m.l9.length<=2000;simp[h1,z];omega;simp[h1,z];omega;simp[h1];omega
variable{ds:List D}{a6:D->bF->Prop}{s:Nat}
theorem c8.aea{H:bF}{o:aI}(h:H s=some o)(hc:cV B f ds (aK [(k,o)]) a6):cV B f ds (gA H [(k,s)]) a6:=axz
theorem aeb(l:List Ix)(h:l.length<1000000):aS B 78 [.Q .none 6 (l.map pq)] (.Q .none 6 (l.map pq)):=by refine bB Tryz.func78 Tryz.ntmps78 λU=>?_;apply b3;apply m';refine Y.Ek aL ?_;(conv=>whnf);refine .inr (af.Ma (bH:=140) aL rfl rfl rfl λk4 n'=>?_);refine aJ _ rfl ?_ ?_<;>intro hc;refine gm ?_;have pW:=n' hc;rw[pW];exact aq.nil;apply cl;refine ch ?_;refine pe ?_;refine⟨by show(0+(l.map pq).length)*56<=_;simp;omega,by show 0+(l.map pq).length<=_;simp;omega,atC,λv=>?_⟩;refine iJ ?_;exact aq.trans (aq.of_eq (atI (D.Q _ 6) (au4 _))) aq.m7
theorem Fc(p:α->Bool)(l:List α):(fe p l=-1/\∀j (h:j<l.length),p l[j]=false)\/∃(i:Nat) (h:i<l.length),fe p l=i/\p l[i]=true/\∀j (h:j<l.length),j<i->p l[j]=false:=by unfold fe;cases M:l.findIdx? p with|none=>exact .inl ⟨rfl,λj Z=>by simpa using avS.1 M _ (atK Z)⟩|some i =>obtain⟨h1,z,aa⟩:=avA.1 M;exact .inr ⟨i,h1,rfl,z,λj Z fc=>by simpa using aa j fc⟩
theorem off(f:Nat->Bool)(k:Nat)(h:f k=false):∃g:Nat->Bool,f=λj=>_root_.cond (Nat.beq j k) false (g j) :=
 ⟨f,funext λj=>by cases G:Nat.beq j k with|false=>rfl|true=>rw[aua G];exact h⟩
def hX(v k:Int):Bool:=qD .and .i64 (v.fdiv (2 ^ min k.toNat IntKind.i64.bits)) 1==1
theorem r7(v k:Int)(X:0<=k):aS B 35 [u v,u k] (.bool (hX v k)):=by refine bB Tryz.func35 Tryz.ntmps35 λU=>?_;refine pf ?_;refine⟨λ_=>X,?_⟩;refine go ?_;exact E
def Nf(m:e2):Bool:=bif !hX m.e3 0 then(bif (bif hX m.e3 1 then true else hX m.e3 2)then true else decide ((0:Int)<((m.gO.map pq).length:Nat)))else false
def r8(m:e2):Bool :=
 if(bif decide (m.e3<1)then true else decide (15<m.e3))=true then false else if Nf m=true then false else if hX m.e3 3=true then(bif m.dl==0 then true else m.dl==3)else m.dl==0
theorem Fd(m:e2):aS B 32 [hW m] (.bool (r8 m)):=by refine bB Tryz.func32 Tryz.ntmps32 λU=>?_;refine ch ?_;intro dz;refine oO ?_;refine go ?_;refine br (r7 m.e3 0 aty) ?_;refine br (r7 m.e3 3 aty) ?_;refine aJ _ rfl ?_ ?_<;>intro hc;refine go ?_;exact aq.of_eq (atI D.bool (by rw[r8,atH hc]));refine go ?_;(have h1:¬(bif decide (m.e3<1)then true else decide (15<m.e3))=true:=by rw[hc];decide);refine go ?_;refine br (r7 m.e3 1 aty) ?_;refine br (r7 m.e3 2 aty) ?_;refine aJ (Nf m) rfl ?_ ?_<;>intro hc;refine go ?_;exact aq.of_eq (atI D.bool (by rw[r8,atG h1,atH hc]));refine go ?_;(have z:¬Nf m=true:=by rw[hc];decide);refine go ?_;refine aJ (hX m.e3 3) rfl ?_ ?_<;>intro hc;refine go ?_;exact aq.of_eq (atI D.bool (by rw[r8,atG h1,atG z,atH hc]));refine go ?_;exact aq.of_eq (atI D.bool (by rw[r8,atG h1,atG z,atG (by rw[hc];decide)]))
structure f1 where
 q5:Bool
 rock:Bool
 c2:Int
 gO:List Ix
 deriving DecidableEq
def r9(o:f1):D:=.agg [.bool o.q5,.bool o.rock,u o.c2,.Q .none 6 (o.gO.map pq)]
def he(m:e2):f1:=if r8 m=true/\hX m.e3 0=true then⟨hX m.e3 1,hX m.e3 2,m.c2,m.gO⟩else⟨false,false,0,[]⟩
def qf(o:f1):Int:=(if o.q5=true then 3 else 2)+(if 0<o.gO.length then 1 else 0)
theorem T1(m:e2)(G:m.gO.length<1000000):aS B 37 [hW m] (r9 (he m)):=by refine bB Tryz.func37 Tryz.ntmps37 λU=>?_;refine go ?_;intro dz;refine go ?_;intro cc;refine go ?_;refine br (Fd m) ?_;refine br (r7 m.e3 0 aty) ?_;refine aJ (!(r8 m&&hX m.e3 0)) (atI D.bool (by cases r8 m<;>cases hX m.e3 0<;>rfl)) ?_ ?_<;>intro hc;refine go ?_;(have h:¬(r8 m=true/\hX m.e3 0=true):=by revert hc;cases r8 m<;>cases hX m.e3 0<;>simp);refine go ?_;rw[he,atG h];exact aq.agg ⟨E,E,E,aq.nil,ai⟩;apply cl;apply en;refine Y.BK aL 11 mixed atA ?_;refine go ?_;refine br (r7 m.e3 1 aty) ?_;refine br (r7 m.e3 2 aty) ?_;refine br (aeb m.gO G) ?_;(have h:r8 m=true/\hX m.e3 0=true:=by revert hc;cases r8 m<;>cases hX m.e3 0<;>simp);refine go ?_;rw[he,atH h];exact E
theorem aec(o:f1):aS B 36 [r9 o] (u (qf o)):=by refine bB Tryz.func36 Tryz.ntmps36 λU=>?_;refine ch ?_;intro dz;refine ch ?_;refine Y.l0 (α:=Unit) (λx=>[(1,.box 1 dz 0),(3,u (if o.q5=true then 3 else 2))]) (λx=>[(1,.box dz (r9 o).cells)]) ?_ ?_;refine go ?_;refine aJ o.q5 rfl ?_ ?_<;>intro hc;refine go ?_;exact⟨(),[(1,1)],⟨E,aq.of_eq (atI (D.int .i64) (by rw[atH hc];rfl)),ai⟩,rfl,ba⟩;refine go ?_;exact⟨(),[(1,1)],⟨E,aq.of_eq (atI (D.int .i64) (by rw[atG (by rw[hc];decide)])),ai⟩,rfl,ba⟩;rintro⟨⟩;refine go ?_;refine aJ _ rfl ?_ ?_<;>intro hc;refine nc ?_;refine .inl ⟨λ_=>by simp only[dk];split<;>omega,?_⟩;refine go ?_;(have h:0<o.gO.length:=by simpa using hc);exact aq.of_eq (atI (D.int .i64) (by rw[qf,atH h]));refine go ?_;(have h:¬0<o.gO.length:=by simpa using hc);exact aq.of_eq (atI (D.int .i64) (by rw[qf,atG h];simp))
def e_(n:Int):Int:=if 0<n.tmod 2048 then n.tdiv 2048+1 else n.tdiv 2048
theorem Ng(n:Int)(h1:0<=n)(z:n<=9223372036854775807):aS B 40 [u n] (u (e_ n)):=by refine bB Tryz.func40 Tryz.ntmps40 λU=>?_;refine pf ?_;refine⟨λ_=>by decide,?_⟩;refine go ?_;(have I:0<=n.tdiv 2048/\n.tdiv 2048<=9223372036854775806:=by rw[atX h1];omega);refine g_ ?_;refine p8 ?_;refine⟨λ_=>by decide,?_⟩;refine go ?_;refine aJ _ rfl ?_ ?_<;>intro hc;refine go ?_;exact aq.of_eq (atI (D.int .i64) (by rw[e_,atH (auc hc)]));refine go ?_;exact aq.of_eq (atI (D.int .i64) (by rw[e_,atG (at0 hc)]))
def vG(x:Int×Int):D:=.agg [u x.1,u x.2]
def vH(aj:List Bool):List D:=aj.map D.bool
def Cy(S C a1 n:Int):Bool:=bif (bif (bif decide (a1<S)then true else decide (n<1))then true else decide (S+C<a1))then true else decide (S+C-a1<n)
theorem T2{S C a1 n:Int}(h:Cy S C a1 n=false):S<=a1/\1<=n/\a1<=S+C/\n<=S+C-a1:=by unfold Cy at h;cases h1:decide (a1<S)<;>cases z:decide (n<1)<;>cases aa:decide (S+C<a1)<;>cases aC:decide (S+C-a1<n)<;>rw[h1,z,aa,aC]at h<;>first|(cases h;done)|(simp at h1 z aa aC;omega)
theorem aed{S C a1 n:Int}:Cy S C a1 n=true↔a1<S\/n<1\/S+C<a1\/S+C-a1<n:=by constructor;intro h;by_cases h1:a1<S\/n<1\/S+C<a1\/S+C-a1<n;exact h1;exfalso;unfold Cy at h;rw[aug (λe=>h1 (.inl e)),aug (λe=>h1 (.inr (.inl e))),aug (λe=>h1 (.inr (.inr (.inl e)))),aug (λe=>h1 (.inr (.inr (.inr e))))]at h;cases h;intro h;cases G:Cy S C a1 n with|true=>rfl|false=>have:=T2 G;omega
def bn(l:List Int):List D:=l.map (D.int .i64)
def yF(S C:Int):Bool:=bif (bif (bif decide (0<=S)then decide (1<=C)else false)then decide (S<=4096)else false)then decide (C<=4096-S)else false
theorem Nh{S C:Int}:yF S C=true↔0<=S/\1<=C/\S<=4096/\C<=4096-S:=by unfold yF;cases h1:decide (0<=S)<;>cases z:decide (1<=C)<;>cases aa:decide (S<=4096)<;>cases aC:decide (C<=4096-S)<;>simp at h1 z aa aC<;>simp<;>omega
def Iz(S L k:Int):Bool:=bif k==S+256 then true else bif k==L-256 then true else k==L
def Aw(S L:Int)(i:Nat):List Int:=((List.range i).map λ(j:Nat)=>S+(j:Int)).filter (Iz S L)
def r_(S C:Int):List Int:=if yF S C=true then Aw S (S+C-1) C.toNat else[]
theorem aee(S L:Int)(i:Nat):(Aw S L i).length<=i:=by have:=aun (Iz S L) ((List.range i).map λ(j:Nat)=>S+(j:Int));rw[atL,List.length_range]at this;exact this
def kJ(m:e2)(S C:Int):List Int:=if hX m.e3 3=true then r_ S C else[]
theorem aef{s:atE}(h:i<s.length):(s.take (i+1)).drop i=[s[i]]:=by rw[avH,atJ h];simp only[Option.toList_some];rw[av0 atw,av6 atw];rfl
theorem aeg(s:atE)(c:UInt8)(hs:s.length<1000000000):aS B 68 [.O s,.int .u8 c.toNat] (.Q .none 1 (aU (cN c [] s))):=by refine bB Tryz.func68 Tryz.ntmps68 λU=>?_;refine pf ?_;refine⟨ai,?_⟩;apply b3;refine p8 ?_;refine Y.own 5 1000 1 9 rfl (λv=>?_);apply oN;refine Y.ed (α:={x:Nat×List atE×atE // x.1<=s.length/\cN c [] s=x.2.1++cN c x.2.2 (s.drop x.1)/\x.2.1.length+x.2.2.length<=x.1}×Value) (λx=>[(0,.O s),(1,.int .u8 c.toNat),(7,u x.1.1.1),(6,.O x.1.1.2.2),(5,.Q (.own 1000 x.2) 1 (aU x.1.1.2.1))]) (λx=>[(1000,.own x.2 (aU x.1.1.2.1).length 1 9)]) (λx=>s.length-x.1.1.1) (⟨(0,[],[]),by simp,by simp,by simp⟩,v) [(1000,1000)] ⟨ar,rfl,ba⟩ ?_;rintro⟨⟨⟨i,Cz,part⟩,hi,k2,hlen⟩,v⟩;dsimp only at hi k2 hlen⊢;refine gb ?_;refine aJ _ rfl ?_ ?_<;>intro hc;refine fk ?_;(have aE:i<s.length:=by simpa using hc);(have Ax:(aU Cz).length=Cz.length:=by simp[aU]);have lr:=auN aE;refine gK ?_;refine⟨s[i],λ_=>⟨by omega,by simp[aE]⟩,?_⟩;(conv=>whnf);(have q4:(((s[i].toNat:Nat):Int)==(c.toNat:Nat))=(s[i]==c):=by rw[awq];simp only[avn];constructor;intro h;exact UInt8.toNat.inj atv;intro h;rw[h]);refine aJ _ rfl ?_ ?_<;>intro hc;refine ch ?_;refine nE ?_;refine⟨by show(_+1)*16<=_;omega,by show _+1<=_;omega,atC,λv=>?_⟩;apply kF;refine nD ?_;(have Ni:s[i]=c:=by simpa using q4.symm.trans hc);exact⟨(⟨(i+1,Cz++[part],[]),by omega,by rw[k2,lr,cN,atH Ni];simp,by simp;omega⟩,v),[(1000,23)],ayp,⟨E,E,E,E,aq.kd (by simp[aU];rfl),ai⟩,rfl,rfl,kG (by simp[aU]),ai⟩;refine nD ?_;refine⟨λ_=>by omega,?_⟩;(conv=>whnf);refine oa ?_;refine nD ?_;(have Ni:s[i]≠c:=by simpa using q4.symm.trans hc);(have g6:(s.take ((i:Int)+1).toNat).drop (i:Int).toNat=[s[i]]:=by rw[show((i:Int)+1).toNat=i+1 by omega,auq];exact aef aE);exact⟨(⟨(i+1,Cz,part++[s[i]]),by omega,by rw[k2,lr,cN,atG Ni],by simp;omega⟩,v),[(1000,1000)],ayp,⟨E,E,E,aq.of_eq (atI D.O (by rw[g6])),E,ai⟩,rfl,ba⟩;refine sS ?_;refine nE ?_;(have Ax:(aU Cz).length=Cz.length:=by simp[aU]);refine⟨by show(_+1)*16<=_;omega,by show _+1<=_;omega,atC,λv=>?_⟩;refine iJ ?_;(have aE:¬i<s.length:=by simpa using hc);rw[k2,av6 atv,cN];exact aq.trans (aq.of_eq (atI (D.Q _ 1) (by simp[aU];rfl))) aq.m7
theorem aeh(s:atE)(hs:s.length<1000000000):aS B 215 [.O s] (.bool (k7 s)):=by refine bB Tryz.func215 Tryz.ntmps215 λU=>?_;apply b3;refine gb ?_;refine ob ?_;refine aJ _ rfl ?_ ?_<;>intro hc;refine gm ?_;refine aq.of_eq (atI D.bool ?_);rw[k7,atH];by_cases h1:s.length<1;exact .inl h1;right;(have mb:¬(s.length:Int)<1:=by omega);simp[mb]at hc;omega;apply cl;(have h1:¬(s.length<1\/128<s.length):=ax1);refine gb ?_;refine aJ _ rfl ?_ ?_<;>intro hc;refine gm ?_;exact aq.of_eq (atI D.bool (by rw[k7,atG h1,atH (by simpa using hc)]));apply cl;(have z:s≠[47]:=by simpa using hc);(have hT:k7 s=(cN 47 [] (gD s)).all Au:=by rw[k7,atG h1,atG z]);have im:=Iv s;obtain⟨w7,Fb⟩:=s6 (c:=47) (gD s) [];(conv=>whnf);refine Y.l0 (α:=Unit) (λx=>[(0,.O (gD s))]) (λx=>[]) ?_ ?_;refine ch ?_;refine⟨s.getD 0 0,λ_=>⟨by omega,As s atv⟩,?_⟩;(conv=>whnf);have q4:=St (s.getD 0 0) 47 aty;refine aJ _ rfl ?_ ?_<;>intro hc;refine nc ?_;refine p6 ?_;(have hcs:gD s=(s.take (s.length:Int).toNat).drop (1:Int).toNat:=by(have Av:s.getD 0 0=47:=by simpa using q4.symm.trans hc);rw[auq,atW,show(1:Int).toNat=1 from rfl];cases s with|nil=>simp at h1|cons b r=>simp at Av;simp[gD,Av]);exact⟨(),[],⟨aq.of_eq (atI D.O hcs.symm),ai⟩,rfl,ai⟩;refine fk ?_;(have hcs:gD s=s:=by(have Av:s.getD 0 0≠47:=by simpa using q4.symm.trans hc);cases s with|nil=>rfl|cons b r=>simp at Av;simp[gD,Av]);exact⟨(),[],⟨aq.of_eq (atI D.O hcs.symm),ai⟩,rfl,ai⟩;rintro⟨⟩;refine ch ?_;refine⟨[.O (gD s),.int .u8 (47:UInt8).toNat],_,λ_=>aeg _ 47 atv,ar,?_⟩;refine nF ?_;refine Y.loop (α:={i:Nat // i<=(cN 47 [] (gD s)).length/\∀j (h:j<(cN 47 [] (gD s)).length),j<i->Au (cN 47 [] (gD s))[j]=true}) (λx=>[(3,.Q .none 1 (aU (cN 47 [] (gD s)))),(4,u x.1)]) (λ_=>[]) (λx=>(cN 47 [] (gD s)).length-x.1) ⟨0,by simp⟩ ar trivial ?_;rintro⟨i,hi,au⟩;dsimp only;refine gb ?_;refine aJ _ rfl ?_ ?_<;>intro hc;apply cl;(have aE:i<(cN 47 [] (gD s)).length:=by simpa[aU]using hc);have dd:=Fb _ (atK aE);refine gK ?_;refine⟨λ_=>by simp[aU];omega,?_⟩;(conv=>whnf);refine⟨.O (cN 47 [] (gD s))[i],λ_=>BX _ aE,?_⟩;refine hG ?_;refine⟨λ_=>by simp[aU];omega,?_⟩;refine na ?_;refine⟨.O (cN 47 [] (gD s))[i],λ_=>BX _ aE,?_⟩;refine iq ?_;refine hG ?_;refine⟨λ_=>by simp[aU];omega,?_⟩;refine na ?_;refine⟨.O (cN 47 [] (gD s))[i],λ_=>BX _ aE,?_⟩;refine na ?_;refine⟨[.O (cN 47 [] (gD s))[i]],_,λh=>Nd _ (by simp at dd;omega),ar,?_⟩;refine iq ?_;(conv=>whnf);have pi:=T0 (cN 47 [] (gD s))[i];refine aJ _ rfl ?_ ?_<;>intro hc;refine gm ?_;exact aq.of_eq (atI D.bool (by rw[hT,TZ aE (by simpa using pi.symm.trans hc)]));refine rU ?_;exact⟨⟨i+1,by omega,Nc (hi:=aE) (by simpa using pi.symm.trans hc) au⟩,by show _-(i+1)<_-i;omega,ar,ai⟩;refine qT ?_;exact aq.of_eq (atI D.bool (by rw[hT,Nb (by simpa[aU]using hc) au]))
theorem pt(a b:Bool):(bif a then true else b)=(a||b):=by cases a<;>rfl
theorem jF(a b:Bool):(bif a then b else false)=(a&&b):=by cases a<;>rfl
def hf(f:Nat->Int):Nat->Nat->Int
 |_,0=>0
 |i,k+1=>if f i=0 then hf f (i+1) k else f i
theorem pu{f:Nat->Int}{n:Nat}(h:i<n)(M:f i≠0):hf f i (n-i)=f i:=by obtain⟨k,X⟩:∃k,n-i=k+1:=⟨n-i-1,by omega⟩;rw[X,hf,atG M]
theorem pv{f:Nat->Int}{n:Nat}(h:i<n)(M:f i=0):hf f i (n-i)=hf f (i+1) (n-(i+1)):=by obtain⟨k,X⟩:∃k,n-i=k+1:=⟨n-i-1,by omega⟩;rw[X,hf,atH M,show n-(i+1)=k by omega]
theorem Ay{f:Nat->Int}{n:Nat}(h:¬i<n):hf f i (n-i)=0:=by rw[show n-i=0 by omega];rfl
def s7(n:ad)(l:Int):D:=.agg [.O n.name,u n.kind,.O n.dB,.O n.target,u n.cL,u n.n2,u n.n3,u n.n4,u n.n5,u n.n6,.Q .none 12 (n.J.map enc),.Q .none 2 (n.bK.map c5),u l]
def ug(n:ad)(l:Int):Bool:=(decide (n.kind<0)||decide (2<n.kind))||(l==1&&!(n.kind==0))
def vI(n:ad)(l:Int):Int:=if ug n l then 1 else 0
theorem aei(n:ad)(l:Int):aS B 127 [s7 n l] (u (vI n l)):=by refine bB Tryz.func127 Tryz.ntmps127 λU=>?_;refine go ?_;intro b;refine go ?_;refine aJ (ug n l) (by simp only[ug,<-pt,<-jF];rfl) ?_ ?_<;>intro hc;refine go ?_;exact dp (by rw[vI,hc];rfl);refine go ?_;exact dp (by rw[vI,hc];rfl)
def uh(n:ad)(l:Int):Bool:=(l==1&&!(n.name==[]))||(decide (1<l)&&!dT n.name)
def vJ(n:ad)(l:Int):Int:=if uh n l then 4 else 0
theorem aej(aV:dc B)(n:ad)(l:Int)(av:n.name.length<1000000000):aS B 128 [s7 n l] (u (vJ n l)):=by refine bB Tryz.func128 Tryz.ntmps128 λU=>?_;refine go ?_;intro b;refine go ?_;refine br (yE aV _ av) ?_;refine aJ (uh n l) (by simp only[uh,<-pt,<-jF];rfl) ?_ ?_<;>intro hc;refine go ?_;exact dp (by rw[vJ,hc];rfl);refine go ?_;exact dp (by rw[vJ,hc];rfl)
def ui(n:ad):Bool:=((!(n.kind==1)&&(!(n.dB==[])||decide (0<(n.bK.length:Int))))||(!(n.kind==2)&&!(n.target==[])))||(!(n.kind==0)&&decide (0<(n.J.length:Int)))
def vK(n:ad):Int:=if ui n then 1 else 0
theorem aek(n:ad)(l:Int):aS B 129 [s7 n l] (u (vK n)):=by refine bB Tryz.func129 Tryz.ntmps129 λU=>?_;refine go ?_;intro b;refine go ?_;intro cc;refine go ?_;refine aJ (ui n) ?_ (λhc=>?_) (λhc=>?_);simp only[ui,<-pt,<-jF];rw[show n.bK.length=(n.bK.map c5).length by simp,show n.J.length=(n.J.map enc).length by simp];rfl;refine go ?_;exact dp (by rw[vK,hc];rfl);refine go ?_;exact dp (by rw[vK,hc];rfl)
def uj(n:ad):Bool:=n.kind==2&&!k7 n.target
def vL(n:ad):Int:=if uj n then 4 else 0
theorem ael(aV:dc B)(n:ad)(l:Int)(av:n.target.length<1000000000):aS B 130 [s7 n l] (u (vL n)):=by refine bB Tryz.func130 Tryz.ntmps130 λU=>?_;refine go ?_;intro b;refine go ?_;refine br (Iw aV _ av) ?_;refine aJ (uj n) (by simp only[uj,<-pt,<-jF];rfl) ?_ ?_<;>intro hc;refine go ?_;exact dp (by rw[vL,hc];rfl);refine go ?_;exact dp (by rw[vL,hc];rfl)
def s8(n a b:Int):Bool:=decide (a<=n)&&decide (n<=b)
theorem CA(n a b:Int):aS B 195 [u n,u a,u b] (.bool (s8 n a b)):=by refine bB Tryz.func195 Tryz.ntmps195 λU=>?_;refine go ?_;exact aq.of_eq (atI D.bool (jF _ _))
def r'(n:ad):Bool:=((((!s8 n.cL 0 4095||!s8 n.n2 0 65535)||!s8 n.n3 0 65535)||!s8 n.n4 315532800 4102444799)||!s8 n.n5 (-1048576) 1048576)||!s8 n.n6 0 15
def vM(n:ad):Int:=if r' n then 2 else 0
theorem aem(n:ad)(l:Int):aS B 131 [s7 n l] (u (vM n)):=by refine bB Tryz.func131 Tryz.ntmps131 λU=>?_;refine go ?_;intro b;refine go ?_;intro cc;refine go ?_;refine br (CA _ _ _) ?_;refine br (CA _ _ _) ?_;refine br (CA _ _ _) ?_;refine br (CA _ _ _) ?_;refine br (CA _ _ _) ?_;refine br (CA _ _ _) ?_;refine aJ (r' n) (by simp only[r',<-pt];rfl) ?_ ?_<;>intro hc;refine go ?_;exact dp (by rw[vM,hc];rfl);refine go ?_;exact dp (by rw[vM,hc];rfl)
theorem aen(n:ad):aS B 216 [aH n] (.bool (!r' n)):=by refine bB Tryz.func216 Tryz.ntmps216 λU=>?_;refine go ?_;intro b;refine go ?_;refine aq.of_eq (atI D.bool ?_);simp only[r',s8,Bool.not_or,Bool.not_not,<-jF];simp only[jF,Bool.and_assoc]
theorem Fe:∀a b:atE,Lib.compareBytes a b=0↔a=b
 |[],[]=>by simp[Lib.compareBytes]
 |[],_::_=>by simp[Lib.compareBytes]
 |_::_,[]=>by simp[Lib.compareBytes]
 |a::xs,b::aP=>by have aY:=Fe xs aP;simp only[Lib.compareBytes,avU];by_cases h1:a<b;rw[atH h1];exact⟨λh=>by simp at h,λh=>by rw[h.1]at h1;exact absurd h1 (awo _)⟩;rw[atG h1];by_cases z:b<a;rw[atH z];exact⟨λh=>by simp at h,λh=>by rw[h.1]at z;exact absurd z (awo _)⟩;rw[atG z,aY];have:a=b:=UInt8.le_antisymm (awN.1 z) (awN.1 h1);simp[this]
theorem Ff:∀a b:atE,Lib.compareBytes a b=1↔Op.bytesLess b a=true
 |[],[]=>by simp[Lib.compareBytes,Op.bytesLess]
 |[],_::_=>by simp[Lib.compareBytes,Op.bytesLess]
 |_::_,[]=>by simp[Lib.compareBytes,Op.bytesLess]
 |a::xs,b::aP=>by have aY:=Ff xs aP;simp only[Lib.compareBytes,Op.bytesLess,au3,atM,aup,avn];by_cases h1:a<b;rw[atH h1];refine⟨λh=>by simp at h,λh=>?_⟩;rcases h with h|⟨h,_⟩;exact absurd (UInt8.lt_trans h h1) (awo _);rw[h]at h1;exact absurd h1 (awo _);rw[atG h1];by_cases z:b<a;rw[atH z];simp[z];rw[atG z,aY];have:b=a:=UInt8.le_antisymm (awN.1 h1) (awN.1 z);simp[this,awo]
theorem T3:∀a b:atE,Lib.compareBytes a b=-1\/Lib.compareBytes a b=0\/Lib.compareBytes a b=1
 |[],[]=>by simp[Lib.compareBytes]
 |[],_::_=>by simp[Lib.compareBytes]
 |_::_,[]=>by simp[Lib.compareBytes]
 |a::xs,b::aP=>by have aY:=T3 xs aP;simp only[Lib.compareBytes];split;simp;split;simp;exact aY
def qg(a b:atE):Int:=if a=b then 5 else if Op.bytesLess b a then 1 else 0
theorem T4(a b:atE):aS B 196 [.O a,.O b] (u (qg a b)):=by refine bB Tryz.func196 Tryz.ntmps196 λU=>?_;apply b3;refine p8 ?_;refine⟨_,_,λ_=>TP a b,ar,?_⟩;refine go ?_;refine aJ _ rfl ?_ ?_<;>intro hc;refine go ?_;exact dp (by rw[qg,atH ((Fe a b).1 (by simpa using hc))]);refine go ?_;(have h0:a≠b:=λe=>by have:=(Fe a b).2 e;rw[this]at hc;simp at hc);refine go ?_;refine aJ _ rfl ?_ ?_<;>intro hc;refine go ?_;exact dp (by rw[qg,atG h0,atH ((Ff a b).1 (by simpa using hc))]);refine go ?_;exact dp (by rw[qg,atG h0,atG];intro e;have:=(Ff a b).2 e;rw[this]at hc;simp at hc)
def gV(n:ad)(i:Nat):nH:=n.bK.getD i default
def qh(n:ad)(i:Nat):ad:=n.J.getD i default
theorem uk(n:ad)(h:i<n.bK.length):(n.bK.map c5)[i]?=some (c5 (gV n i)):=by simp[gV,List.getD,h]
theorem CB(n:ad)(h:i<n.J.length):(n.J.map enc)[i]?=some (aH (qh n i)):=by rw[<-rV];simp[qh,List.getD,h]
theorem w8(h:0<i):((i:Int)-1).toNat=i-1:=by omega
theorem T5(n:ad)(h:i<n.bK.length):(gV n i).name.length+(gV n i).target.length+2<=aB n:=by
 have h1:=H8 h;have z:=l' n;have:gV n i=n.bK[i]:=by simp[gV,List.getD,h]
 rw[this];omega
theorem Fg(n:ad):2*n.bK.length+2<=aB n:=by have:=EO n.bK;have:=l' n;omega
def sa(n:ad)(l:Int):Bool:=((decide (16<l)||decide (262144<(n.dB.length:Int)))||decide (64<(n.J.length:Int)))||decide (4<(n.bK.length:Int))
def pw(n:ad)(i:Nat):Int:=if decide (262144<((gV n i).target.length:Int))then 7 else 0
def nL(n:ad)(l:Int):Int:=if sa n l then 7 else hf (pw n) 0 n.bK.length
theorem aeo(n:ad)(l:Int)(bz:aB n<1000000000):aS B 132 [s7 n l] (u (nL n l)):=by refine bB Tryz.func132 Tryz.ntmps132 λU=>?_;refine go ?_;intro b;refine go ?_;intro cc;refine go ?_;refine aJ (sa n l) ?_ (λhc=>?_) (λhc=>?_);simp only[sa,<-pt,<-jF];rw[show n.bK.length=(n.bK.map c5).length by simp,show n.J.length=(n.J.map enc).length by simp];rfl;refine go ?_;exact dp (by rw[nL,hc];rfl);refine go ?_;(have fG:nL n l=hf (pw n) 0 (n.bK.length-0):=by rw[nL,hc];rfl);have fg:=Fg n;refine go ?_;refine Y.loop (α:={i:Nat // i<=n.bK.length/\nL n l=hf (pw n) i (n.bK.length-i)}) (λx=>[(30,.Q .none 2 (n.bK.map c5)),(31,u (n.bK.map c5).length),(32,u x.1)]) (λ_=>[]) (λx=>n.bK.length-x.1) ⟨0,by omega,fG⟩ ar trivial ?_;rintro⟨i,hi,au⟩;dsimp only;refine go ?_;refine aJ _ rfl ?_ ?_<;>intro hc;refine fk ?_;(have aE:i<n.bK.length:=by simpa using hc);refine vm ?_;refine⟨c5 (gV n i),λ_=>uk n aE,?_⟩;refine go ?_;intro eD;refine go ?_;refine aJ _ rfl ?_ ?_<;>intro hc;refine go ?_;(have M:pw n i=7:=by rw[pw,atH hc]);exact dp (by rw[au,pu aE (by rw[M];decide),M]);refine go ?_;exact⟨⟨i+1,by omega,by rw[au,pv aE (by rw[pw,hc];rfl)]⟩,by show _-(i+1)<_-i;omega,ar,ai⟩;exact ax7
theorem aep(n:ad)(l:Int)(bz:aB n<1000000000):aS B 217 [aH n,u l] (.bool (!(nL n l==0))):=by refine bB Tryz.func217 Tryz.ntmps217 λU=>?_;refine go ?_;intro b;refine go ?_;refine aJ (sa n l) ?_ (λhc=>?_) (λhc=>?_);simp only[sa,<-pt,<-jF];rw[show n.bK.length=(n.bK.map c5).length by simp,show n.J.length=(n.J.map enc).length by simp];rfl;refine go ?_;exact aq.of_eq (atI D.bool (by rw[nL,hc];rfl));refine go ?_;(have fG:nL n l=hf (pw n) 0 (n.bK.length-0):=by rw[nL,hc];rfl);have fg:=Fg n;refine go ?_;refine Y.loop (α:={i:Nat // i<=n.bK.length/\nL n l=hf (pw n) i (n.bK.length-i)}) (λx=>[(2,.box 2 b 0),(5,u x.1)]) (λ_=>[(2,.box b [.O n.name,u n.kind,.O n.dB,.O n.target,u n.cL,u n.n2,u n.n3,u n.n4,u n.n5,u n.n6,.Q .none 12 (n.J.map enc),.Q .none 2 (n.bK.map c5)])]) (λx=>n.bK.length-x.1) ⟨0,by omega,fG⟩ ar ⟨rfl,ai⟩ ?_;rintro⟨i,hi,au⟩;dsimp only;refine go ?_;refine aJ _ rfl ?_ ?_<;>intro hc;refine fk ?_;(have aE:i<n.bK.length:=by simpa using hc);refine kc ?_;apply b3;refine mC ?_;refine⟨c5 (gV n i),λ_=>uk n aE,?_⟩;refine go ?_;refine aJ _ rfl ?_ ?_<;>intro hc;refine go ?_;(have M:pw n i=7:=by rw[pw,atH hc]);exact aq.of_eq (atI D.bool (by rw[au,pu aE (by rw[M];decide),M];rfl));refine go ?_;exact⟨⟨i+1,by omega,by rw[au,pv aE (by rw[pw,hc];rfl)]⟩,by show _-(i+1)<_-i;omega,ar,⟨rfl,ai⟩⟩;refine go ?_;exact aq.of_eq (atI D.bool (by rw[au,Ay (by simpa using hc)];rfl))
def px(n:ad)(i:Nat):Int:=if dT (gV n i).name then(if 0<i then qg (gV n (i-1)).name (gV n i).name else 0)else 4
def CC(n:ad):Int:=hf (px n) 0 n.bK.length
theorem aeq(aV:dc B)(n:ad)(l:Int)(bz:aB n<1000000000):aS B 133 [s7 n l] (u (CC n)):=by refine bB Tryz.func133 Tryz.ntmps133 λU=>?_;refine go ?_;intro b;refine go ?_;have fg:=Fg n;refine go ?_;refine Y.loop (α:={i:Nat // i<=n.bK.length/\CC n=hf (px n) i (n.bK.length-i)}) (λx=>[(1,.box 1 b 0),(8,.Q .none 2 (n.bK.map c5)),(9,u (n.bK.map c5).length),(10,u x.1)]) (λ_=>[(1,.box b [.O n.name,u n.kind,.O n.dB,.O n.target,u n.cL,u n.n2,u n.n3,u n.n4,u n.n5,u n.n6,.Q .none 12 (n.J.map enc),.Q .none 2 (n.bK.map c5),u l])]) (λx=>n.bK.length-x.1) ⟨0,by omega,rfl⟩ ar ⟨rfl,ai⟩ ?_;rintro⟨i,hi,au⟩;dsimp only;refine go ?_;refine aJ _ rfl ?_ ?_<;>intro hc;refine fk ?_;(have aE:i<n.bK.length:=by simpa using hc);have i6:=T5 n aE;refine vm ?_;refine⟨c5 (gV n i),λ_=>uk n aE,?_⟩;refine go ?_;intro eD;apply cD;refine gb ?_;refine ez ?_;refine⟨[.O (gV n i).name],_,λ_=>yE aV _ atv,ar,?_⟩;refine aJ _ rfl ?_ ?_<;>intro hc;refine go ?_;(have M:px n i=4:=by rw[px,atG (by simpa using hc)]);exact dp (by rw[au,pu aE (by rw[M];decide),M]);refine go ?_;(have cv:dT (gV n i).name=true:=by simpa using hc);refine go ?_;refine aJ _ rfl ?_ ?_<;>intro hc;refine go ?_;(have k5:0<i:=by simpa using hc);(have M:px n i=qg (gV n (i-1)).name (gV n i).name:=by rw[px,atH cv,atH k5]);refine Y.vf aL mixed atA ?_;apply cD;refine ll ?_;refine nb ?_;refine⟨c5 (gV n (i-1)),λ_=>by rw[w8 k5];exact uk n atv,?_⟩;refine go ?_;refine br (T4 _ _) ?_;refine aJ _ rfl ?_ ?_<;>intro hc;refine go ?_;exact dp (by rw[au,pu aE (by rw[M];simpa using hc),M]);refine go ?_;exact⟨⟨i+1,by omega,by rw[au,pv aE (by rw[M];simpa using hc)]⟩,by show _-(i+1)<_-i;omega,ar,⟨rfl,ai⟩⟩;refine go ?_;(have M:px n i=0:=by rw[px,atH cv,atG (by simpa using hc)]);exact⟨⟨i+1,by omega,by rw[au,pv aE M]⟩,by show _-(i+1)<_-i;omega,ar,⟨rfl,ai⟩⟩;exact ax7
def sb(n:ad)(i:Nat):Int:=qg (qh n (i-1)).name (qh n i).name
def yG(n:ad):Int:=hf (sb n) 1 (n.J.length-1)
theorem aer(n:ad)(l:Int)(bz:aB n<1000000000):aS B 134 [s7 n l] (u (yG n)):=by refine bB Tryz.func134 Tryz.ntmps134 λU=>?_;refine go ?_;intro b;refine go ?_;have fg:=vx n;refine go ?_;refine Y.loop (α:={i:Nat // 1<=i/\i<=n.J.length+1/\yG n=hf (sb n) i (n.J.length-i)}) (λx=>[(1,.box 1 b 0),(3,u x.1)]) (λ_=>[(1,.box b [.O n.name,u n.kind,.O n.dB,.O n.target,u n.cL,u n.n2,u n.n3,u n.n4,u n.n5,u n.n6,.Q .none 12 (n.J.map enc),.Q .none 2 (n.bK.map c5),u l])]) (λx=>n.J.length+1-x.1) ⟨1,by omega,by omega,rfl⟩ ar ⟨rfl,ai⟩ ?_;rintro⟨i,ne,hi,au⟩;dsimp only;refine go ?_;refine aJ _ rfl ?_ ?_<;>intro hc;refine fk ?_;(have aE:i<n.J.length:=by simpa using hc);refine kc ?_;refine oO ?_;apply cD;refine ll ?_;refine nb ?_;refine⟨aH (qh n (i-1)),λ_=>by rw[w8 atv];exact CB n atv,?_⟩;refine mC ?_;refine⟨aH (qh n i),λ_=>CB n aE,?_⟩;refine go ?_;refine br (T4 _ _) ?_;refine aJ _ rfl ?_ ?_<;>intro hc;refine go ?_;exact dp (by rw[au,pu aE (by rw[sb];simpa using hc),sb]);refine go ?_;exact⟨⟨i+1,by omega,by omega,by rw[au,pv aE (by rw[sb];simpa using hc)]⟩,by show _+1-(i+1)<_+1-i;omega,ar,⟨rfl,ai⟩⟩;exact ax7
def eM(n:ad)(l:Int):Nat->Int
 |0=>vI n l
 |1=>vJ n l
 |2=>vK n
 |3=>vL n
 |4=>vM n
 |5=>nL n l
 |6=>CC n
 |_=>yG n
def one(n:ad)(l:Int):Int:=hf (eM n l) 0 8
theorem aes(aV:dc B)(n:ad)(l:Int)(bz:aB n+n.name.length<1000000000)(hi:i<8):aS B (127+i) [s7 n l] (u (eM n l i)):=by have ax:=l' n;match i,hi with|0,_=>exact aei n l|1,_=>exact aej aV n l atv|2,_=>exact aek n l|3,_=>exact ael aV n l atv|4,_=>exact aem n l|5,_=>exact aeo n l atv|6,_=>exact aeq aV n l atv|7,_=>exact aer n l atv
def Az(n:ad)(l:Int):List D:=(List.range 8).map λi=>.fn (.func (127+i)) [s7 n l] []
theorem aet(n:ad)(l:Int)(hi:i<8):(Az n l)[i]?=some (.fn (.func (127+i)) [s7 n l] []):=by simp[Az,hi]
def Nj(bE b8:Nat):EP (Int×atE):=⟨λs=>.box bE [u s.1],λs=>.box b8 [.O s.2]⟩
def gW(n:ad)(p:atE)(l:Int)(s:Int×atE):Bool×(Int×atE):=if one n l=0 then(true,(0,s.2))else(false,(one n l,p))
theorem aeu(aV:dc B)(bE b8:Nat)(n:ad)(p:atE)(l:Int)(s:Int×atE)(bz:aB n+n.name.length<1000000000):cV B 126 ([aH n,.O p,u l]++[.box 2000 bE 0,.box 2001 b8 0]) ((Nj bE b8).H s) λd aM=>d=.bool (gW n p l s).1/\aM=(Nj bE b8).H (gW n p l s).2:=by refine jW Tryz.func126 Tryz.ntmps126 λU=>?_;refine go ?_;intro b;refine go ?_;intro cc;refine go ?_;refine Y.loop (α:={x:Nat×Int // x.1<=8/\(0<x.1->x.2=0)/\one n l=hf (eM n l) x.1 (8-x.1)}) (λx=>[(1,.O p),(3,.box 2000 bE 0),(4,.box 2001 b8 0),(31,.Q .dU 1 (Az n l)),(32,u (Az n l).length),(33,u x.1.1)]) (λx=>[(2000,.box bE [u x.1.2]),(2001,.box b8 [.O s.2])]) (λx=>8-x.1.1) ⟨(0,s.1),by omega,by simp,rfl⟩ ar ⟨rfl,ba⟩ ?_;rintro⟨⟨i,e⟩,hi,ak,au⟩;dsimp only at hi ak au⊢;refine go ?_;refine aJ _ rfl ?_ ?_<;>intro hc;refine fk ?_;(have aE:i<8:=by simp[Az]at hc;omega);refine gK ?_;refine⟨λ_=>by simp[Az];omega,?_⟩;refine go ?_;refine⟨.fn (.func (127+i)) [s7 n l] [],λ_=>aet n l aE,?_⟩;refine go ?_;refine br (aes aV n l bz aE) ?_;refine aJ _ rfl ?_ ?_<;>intro hc;refine jb ?_;refine ch ?_;(have aX:eM n l i≠0:=by simpa using hc);(have h1:one n l=eM n l i:=by rw[au,pu aE aX]);(have bJ:gW n p l s=(false,(eM n l i,p)):=by rw[gW,atG (by rw[h1];exact aX),h1]);refine Y.gU [(8,.bool false)] [(2000,.box bE [u (eM n l i)]),(2001,.box b8 [.O p])] [(2000,2000),(2001,2001)] ⟨ar,rfl,ba⟩ ?_;refine go ?_;exact⟨_,E,by rw[bJ];rfl,by rw[bJ];rfl⟩;refine go ?_;(have h0:eM n l i=0:=by simpa using hc);exact⟨⟨(i+1,0),by omega,λ_=>rfl,by rw[au,pv aE h0]⟩,by show 8-(i+1)<8-i;omega,ar,⟨atI (λV=>some (aI.box bE [u V])) h0,rfl,ai⟩⟩;refine sS ?_;(have fZ:¬i<8:=by simp[Az]at hc;omega);(have h1:one n l=0:=by rw[au,Ay fZ]);have py:e=0:=ak atv;subst py;(have bJ:gW n p l s=(true,(0,s.2)):=by rw[gW,atH h1]);refine Y.gU [(8,.bool true)] [(2000,.box bE [u 0]),(2001,.box b8 [.O s.2])] [(2000,2000),(2001,2001)] ⟨ar,rfl,ba⟩ ?_;refine go ?_;exact⟨_,E,by rw[bJ];rfl,by rw[bJ];rfl⟩
def check(n:ad):atE×Int:=if(256:Int)<fI n then([],7)else((fH gW n [] 1 (0,[])).2.2,(fH gW n [] 1 (0,[])).2.1)
theorem aev(aV:dc B)(n:ad)(bz:aB n+n.name.length<10000000):aS B 82 [aH n] (.bl [.O (check n).1,u (check n).2]):=by refine bB Tryz.func82 Tryz.ntmps82 λU=>?_;refine go ?_;intro b;refine go ?_;refine br (ado n bz) ?_;refine aJ _ rfl ?_ ?_<;>intro hc;refine go ?_;exact⟨aq.of_eq (by rw[check,atH (by simpa using hc)];rfl),dp (by rw[check,atH (by simpa using hc)]),ai⟩;refine go ?_;intro b8;refine go ?_;intro bE;refine go ?_;refine .inr (af.call rfl [aH n,.O [],u 1,.fn (.func 126) [] [.box 2000 bE 0,.box 2001 b8 0]] [(2000,5),(2001,4)] (Tc (Nj bE b8) gW 126 [.box 2000 bE 0,.box 2001 b8 0] (λn p l s G al=>aeu aV bE b8 n p l s atv) _ n [] 1 (0,[]) (auw _) atw atv) rfl ⟨E,E,E,aq.fn trivial ⟨aq.box,aq.box,ai⟩,ai⟩ ?_);rintro d aM ⟨rfl,rfl⟩;refine⟨_,E,?_⟩;refine oO ?_;refine go ?_;exact⟨aq.of_eq (by rw[check,atG (by simpa using hc)];rfl),dp (by rw[check,atG (by simpa using hc)]),ai⟩
def valid(n:ad):Bool:=(check n).2==0
theorem AA(aV:dc B)(n:ad)(bz:aB n+n.name.length<10000000):aS B 51 [aH n] (.bool (valid n)):=by refine bB Tryz.func51 Tryz.ntmps51 λU=>?_;refine go ?_;intro b;refine go ?_;refine br (aev aV n bz) ?_;exact E
def yH(n:ad):List D:=[.O n.name,u n.kind,.O n.dB,.O n.target,u n.cL,u n.n2,u n.n3,u n.n4,u n.n5,u n.n6,.Q .none 12 (n.J.map enc),.Q .none 2 (n.bK.map c5)]
theorem T6(n:ad)(l:Int):one n l=hf (eM n l) 0 (8-0):=rfl
theorem T7(n:ad):∀{k i:Nat},hf (pw n) i k≠0->hf (pw n) i k=7
 |0,i,h=>absurd rfl h
 |k+1,i,h=>by unfold hf at h⊢;split;rename_i h0;rw[atH h0]at h;exact T7 n h;rename_i h0;unfold pw at h0⊢;split;rfl;rename_i h1;rw[atG h1]at h0;exact absurd rfl h0
theorem aew(n:ad)(l:Int)(bz:aB n+n.name.length<10000000):aS B 149 [aH n,u l] (u (one n l)):=by refine bB Tryz.func149 Tryz.ntmps149 λU=>?_;refine ch ?_;intro b;have ax:=l' n;have eQ:=vx n;have fg:=Fg n;refine p9 ?_;refine iK ?_;refine iq ?_;apply g9;apply g9;refine iK ?_;refine ob ?_;refine tZ ?_;refine aJ (ug n l) (by simp only[ug,<-pt,<-jF];rfl) ?_ ?_<;>intro hc;refine gm ?_;(have ae:eM n l 0=1:=by rw[eM,vI,hc];rfl);exact dp (by rw[T6,pu atv (by rw[ae];decide),ae]);apply cl;(have hg:one n l=hf (eM n l) 1 (8-1):=by rw[T6,pv atv (by rw[eM,vI,hc];rfl)]);refine gb ?_;refine iK ?_;refine iq ?_;apply g9;apply g9;refine iK ?_;refine na ?_;refine⟨[.O n.name],_,λh=>Nd _ atv,ar,?_⟩;refine ob ?_;refine tZ ?_;refine aJ (uh n l) (by simp only[uh,<-pt,<-jF];rfl) ?_ ?_<;>intro hc;refine gm ?_;(have ae:eM n l 1=4:=by rw[eM,vJ,hc];rfl);exact dp (by rw[hg,pu atv (by rw[ae];decide),ae]);apply cl;(have kg:one n l=hf (eM n l) 2 (8-2):=by rw[hg,pv atv (by rw[eM,vJ,hc];rfl)]);refine p9 ?_;refine iK ?_;apply g9;apply g9;refine iK ?_;apply g9;refine ob ?_;refine tZ ?_;refine iK ?_;apply g9;apply g9;refine iK ?_;refine ob ?_;refine tZ ?_;refine iK ?_;apply g9;apply g9;refine iK ?_;apply g9;refine ob ?_;refine tZ ?_;refine aJ (ui n) ?_ (λhc=>?_) (λhc=>?_);simp only[ui,<-pt,<-jF];rw[show n.bK.length=(n.bK.map c5).length by simp,show n.J.length=(n.J.map enc).length by simp];rfl;refine gm ?_;(have ae:eM n l 2=1:=by rw[eM,vK,hc];rfl);exact dp (by rw[kg,pu atv (by rw[ae];decide),ae]);apply cl;(have pz:one n l=hf (eM n l) 3 (8-3):=by rw[kg,pv atv (by rw[eM,vK,hc];rfl)]);refine p9 ?_;refine iK ?_;refine na ?_;refine⟨[.O n.target],_,λh=>aeh _ atv,ar,?_⟩;refine iq ?_;refine aJ (uj n) (by simp only[uj,<-pt,<-jF];rfl) ?_ ?_<;>intro hc;refine gm ?_;(have ae:eM n l 3=4:=by rw[eM,vL,hc];rfl);exact dp (by rw[pz,pu atv (by rw[ae];decide),ae]);apply cl;(have IA:one n l=hf (eM n l) 4 (8-4):=by rw[pz,pv atv (by rw[eM,vL,hc];rfl)]);refine gb ?_;refine ez ?_;refine⟨[aH n],_,λ_=>aen n,ar,?_⟩;refine aJ (r' n) ((show _=D.bool (!(!r' n))from rfl).trans (atI D.bool (Bool.not_not _))) ?_ ?_<;>intro hc;refine gm ?_;(have ae:eM n l 4=2:=by rw[eM,vM,hc];rfl);exact dp (by rw[IA,pu atv (by rw[ae];decide),ae]);apply cl;(have Nk:one n l=hf (eM n l) 5 (8-5):=by rw[IA,pv atv (by rw[eM,vM,hc];rfl)]);refine gb ?_;refine ez ?_;refine⟨[aH n,u l],_,λ_=>aep n l atv,ar,?_⟩;refine aJ _ rfl ?_ ?_<;>intro hc;refine gm ?_;(have ae:eM n l 5=7:=by rw[eM];(have oo:nL n l≠0:=by simpa using hc);unfold nL at oo⊢;split;rfl;rename_i h;rw[atG h]at oo;exact T7 n oo);exact dp (by rw[Nk,pu atv (by rw[ae];decide),ae]);apply cl;(have Fh:one n l=hf (eM n l) 6 (8-6):=by rw[Nk,pv atv (by rw[eM];simpa using hc)]);refine nF ?_;refine Y.loop (α:={i:Nat // i<=n.bK.length/\CC n=hf (px n) i (n.bK.length-i)}) (λx=>[(2,.box 2 b 0),(5,u x.1)]) (λ_=>[(2,.box b (yH n))]) (λx=>n.bK.length-x.1) ⟨0,by omega,rfl⟩ ar ⟨rfl,ai⟩ ?_;rintro⟨i,hi,au⟩;dsimp only;refine p9 ?_;refine aJ _ rfl ?_ ?_<;>intro hc;refine fk ?_;(have aE:i<n.bK.length:=by simpa using hc);have i6:=T5 n aE;(have Nl:∀e,px n i=e->e≠0->one n l=e:=λe ak h0=>by(have h1:eM n l 6=e:=by rw[eM,au,pu aE (by rw[ak];exact h0),ak]);rw[Fh,pu atv (by rw[h1];exact h0),h1]);refine kc ?_;refine gb ?_;refine mC ?_;refine⟨c5 (gV n i),λ_=>uk n aE,?_⟩;(conv=>whnf);refine⟨[.O (gV n i).name],_,λ_=>Nd _ atv,ar,?_⟩;refine aJ _ rfl ?_ ?_<;>intro hc;refine gm ?_;exact dp (Nl 4 (by rw[px,atG (by simpa using hc)]) aty).symm;apply cl;(have cv:dT (gV n i).name=true:=by simpa using hc);refine Ex ?_;refine iK ?_;refine hG ?_;refine⟨λh=>by simp at h⊢;omega,?_⟩;refine hG ?_;refine⟨c5 (gV n i),λ_=>uk n aE,?_⟩;refine iK ?_;apply g9;refine g_ ?_;refine hG ?_;refine⟨λh=>by simp at h⊢;omega,?_⟩;refine hG ?_;refine⟨c5 (gV n (i-1)),λh=>by rw[w8 (by simpa using h)];exact uk n atv,?_⟩;refine ob ?_;refine aJ _ rfl ?_ ?_<;>intro hc;refine gm ?_;(have z:0<i/\(gV n i).name=(gV n (i-1)).name:=axO);exact dp (Nl 5 (by rw[px,atH cv,atH z.1,qg,atH z.2.symm]) aty).symm;apply cl;(have aX:0<i->(gV n (i-1)).name≠(gV n i).name:=λh0 e=>by(have Nm:decide ((0:Int)<i)=true:=by simp;omega);rw[Nm,e]at hc;simp at hc);refine oO ?_;refine iK ?_;refine hG ?_;refine⟨λh=>by simp at h⊢;omega,?_⟩;refine hG ?_;refine⟨c5 (gV n i),λ_=>uk n aE,?_⟩;refine iK ?_;apply g9;refine g_ ?_;refine hG ?_;refine⟨λh=>by simp at h⊢;omega,?_⟩;refine hG ?_;refine⟨c5 (gV n (i-1)),λh=>by rw[w8 (by simpa using h)];exact uk n atv,?_⟩;refine ob ?_;refine aJ _ rfl ?_ ?_<;>intro hc;refine gm ?_;(have z:0<i/\Op.bytesLess (gV n i).name (gV n (i-1)).name=true:=axO);exact dp (Nl 1 (by rw[px,atH cv,atH z.1,qg,atG (aX z.1),atH z.2]) aty).symm;refine rU ?_;(have M:px n i=0:=by rw[px,atH cv];by_cases h0:0<i;(have Nm:decide ((0:Int)<i)=true:=by simp;omega);rw[Nm]at hc;rw[atH h0,qg,atG (aX h0),atG (by simpa using hc)];rw[atG h0]);exact⟨⟨i+1,by omega,by rw[au,pv aE M]⟩,by show _-(i+1)<_-i;omega,ar,⟨rfl,ai⟩⟩;refine Y.exit ?_;apply en;(have Nn:one n l=hf (eM n l) 7 (8-7):=by rw[Fh,pv atv (by rw[eM,au,Ay (by simpa using hc)])]);apply b3;apply oN;refine Y.loop (α:={i:Nat // 1<=i/\i<=n.J.length+1/\yG n=hf (sb n) i (n.J.length-i)}) (λx=>[(2,.box 2 b 0),(6,u x.1)]) (λ_=>[(2,.box b (yH n))]) (λx=>n.J.length+1-x.1) ⟨1,by omega,by omega,rfl⟩ ar ⟨rfl,ai⟩ ?_;rintro⟨i,ne,hi,au⟩;dsimp only;refine p9 ?_;refine aJ _ rfl ?_ ?_<;>intro hc;refine fk ?_;(have aE:i<n.J.length:=by simpa using hc);(have T8:∀e,sb n i=e->e≠0->one n l=e:=λe ak h0=>by(have h1:eM n l 7=e:=by show yG n=e;rw[au,pu aE (by rw[ak];exact h0),ak]);rw[Nn,pu atv (by rw[h1];exact h0),h1]);refine kc ?_;refine Ex ?_;refine mC ?_;refine⟨aH (qh n i),λ_=>CB n aE,?_⟩;apply cD;refine ll ?_;refine p6 ?_;refine⟨aH (qh n (i-1)),λ_=>by rw[w8 atv];exact CB n atv,?_⟩;refine aJ _ rfl ?_ ?_<;>intro hc;refine gm ?_;exact dp (T8 5 (by rw[sb,qg,atH (by have:=hc;simp at this;exact this.symm)]) aty).symm;apply cl;(have aX:(qh n (i-1)).name≠(qh n i).name:=λe=>by rw[e]at hc;simp at hc);refine oO ?_;refine mC ?_;refine⟨aH (qh n i),λ_=>CB n aE,?_⟩;apply cD;refine ll ?_;refine p6 ?_;refine⟨aH (qh n (i-1)),λ_=>by rw[w8 atv];exact CB n atv,?_⟩;refine aJ _ rfl ?_ ?_<;>intro hc;refine gm ?_;exact dp (T8 1 (by rw[sb,qg,atG aX,atH hc]) aty).symm;refine rU ?_;(have M:sb n i=0:=by rw[sb,qg,atG aX,atG (by rw[hc];simp)]);exact⟨⟨i+1,by omega,by omega,by rw[au,pv aE M]⟩,by show _+1-(i+1)<_+1-i;omega,ar,⟨rfl,ai⟩⟩;refine qT ?_;exact dp (by rw[Nn,pv atv (by show yG n=0;rw[au,Ay (by simpa using hc)])];rfl)
theorem T9:∀a b:List ad,eW (a++b)=eW a+eW b
 |[],b=>by simp[eW]
 |n::r,b=>by simp only[auO,eW];rw[T9 r b];omega
theorem aex{l:List ad}(h:i<l.length):eW (l.take (i+1))=eW (l.take i)+fI l[i]:=by rw[avH,atJ h,T9];simp[eW]
theorem No:∀(l:List ad) (i:Nat),eW (l.take i)<=eW l
 |[],i=>by simp[eW]
 |n::r,0=>by simp[eW]
 |n::r,i+1=>by simp only[avr,eW];have:=No r i;omega
theorem T_:∀(bD:Nat) (n:ad),aB n<bD->aB n<100000000->aS B 98 [aH n] (u (fI n)):=by refine λbD=>Nat.rec (λn h=>absurd h (avf _)) (λbD aY n hN G=>?_) bD;have eQ:=vx n;have hcs:=ES n.J;have q6:=l' n;refine bB Tryz.func98 Tryz.ntmps98 λU=>?_;refine ch ?_;intro b;apply b3;refine nF ?_;refine Y.loop (α:={i:Nat // i<=n.J.length}) (λx=>[(1,.box 1 b 0),(3,u ((1+eW (n.J.take x.1):Nat):Int)),(4,u x.1)]) (λ_=>[(1,.box b (yH n))]) (λx=>n.J.length-x.1) ⟨0,by omega⟩ ar ⟨rfl,ai⟩ ?_;rintro⟨i,hi⟩;dsimp only;refine p9 ?_;refine aJ _ rfl ?_ ?_<;>intro hc;refine fk ?_;(have aE:i<n.J.length:=by simpa using hc);have b5:=r1 aE;have IB:=No n.J i;have BC:=Cg n.J[i];refine kc ?_;apply kF;refine mC ?_;refine⟨aH n.J[i],λ_=>r2 aE,?_⟩;(conv=>whnf);refine⟨[aH n.J[i]],_,λ_=>aY _ atv atv,ar,?_⟩;refine g_ ?_;refine nD ?_;exact⟨⟨i+1,by omega⟩,by show _-(i+1)<_-i;omega,⟨E,dp (by rw[aex aE];omega),E,ai⟩,⟨rfl,ai⟩⟩;refine qT ?_;exact dp (by rw[ER,aue (by simp at hc;omega)])
mutual
theorem Np:∀(n:ad) (p:atE) (l:Int),fH gW n p l (0,[])=(true,(0,[]))\/((fH gW n p l (0,[])).1=false/\(fH gW n p l (0,[])).2.1≠0)
 |.mk a b c d e f g h i j ah cE,p,l=>by
  simp only[fH];unfold gW;split
  ·rename_i bp jt;split at jt
   ·cases jt
   rename_i h0;cases jt;exact .inr ⟨rfl,h0⟩
  rename_i bp jt;split at jt
  ·cases jt;exact T' ah p l
  cases jt
theorem T':∀(ah:List ad) (p:atE) (l:Int),kI gW ah p l (0,[])=(true,(0,[]))\/((kI gW ah p l (0,[])).1=false/\(kI gW ah p l (0,[])).2.1≠0)
 |[],p,l=>.inl rfl
 |k::r,p,l=>by
  simp only[kI];rcases Np k (below p k.name (l+1)) (l+1)with h|⟨h1,z⟩
  ·rw[h];exact T' r p l
  generalize fH gW k (below p k.name (l+1)) (l+1) (0,[])=r at h1 z;obtain⟨x,y⟩:=r;simp only at h1 z;subst h1;exact .inr ⟨rfl,z⟩
end
def q7(n:ad)(p:atE)(l:Int):atE×Int:=if(fH gW n p l (0,[])).1 then([],0)else((fH gW n p l (0,[])).2.2,(fH gW n p l (0,[])).2.1)
theorem aey:∀(bD:Nat) (n:ad) (p:atE) (l:Int),aB n<bD->p.length+aB n+l.toNat+n.name.length<10000000->1<=l->aS B 99 [aH n,.O p,u l] (.bl [.O (q7 n p l).1,u (q7 n p l).2]):=by refine λbD=>Nat.rec (λn p l h=>absurd h (avf _)) (λbD aY n p l hN G al=>?_) bD;have eQ:=vx n;refine bB Tryz.func99 Tryz.ntmps99 λU=>?_;refine ch ?_;intro b;refine gb ?_;refine ez ?_;refine⟨[aH n,u l],_,λ_=>aew n l atv,ar,?_⟩;apply b3;refine aJ _ rfl ?_ ?_<;>intro hc;refine gm ?_;(have aX:one n l≠0:=by simpa using hc);(have cG:fH gW n p l (0,[])=(false,(one n l,p)):=by rw[H9,gW,atG aX]);(have fG:q7 n p l=(p,one n l):=by rw[q7,cG];rfl);rw[fG];exact ar;apply cl;(have h0:one n l=0:=by simpa using hc);(have cG:fH gW n p l (0,[])=kI gW n.J p l (0,[]):=by rw[H9,gW,atH h0]);refine nF ?_;refine Y.loop (α:={i:Nat // i<=n.J.length/\fH gW n p l (0,[])=kI gW (n.J.drop i) p l (0,[])}) (λx=>[(1,.O p),(2,u l),(3,.box 3 b 0),(9,u x.1)]) (λ_=>[(3,.box b (yH n))]) (λx=>n.J.length-x.1) ⟨0,by omega,cG⟩ ar ⟨rfl,ai⟩ ?_;rintro⟨i,hi,au⟩;dsimp only;refine p9 ?_;refine aJ _ rfl ?_ ?_<;>intro hc;refine fk ?_;(have aE:i<n.J.length:=by simpa using hc);have b5:=r1 aE;have eJ:=Ce p n.J[i].name (l+1);have lr:=auN aE;have Cf:=Np n.J[i] (below p n.J[i].name (l+1)) (l+1);refine kc ?_;refine oO ?_;refine mC ?_;refine⟨aH n.J[i],λ_=>r2 aE,?_⟩;refine mC ?_;refine⟨aH n.J[i],λ_=>r2 aE,?_⟩;(conv=>whnf);refine⟨[.O p,.O n.J[i].name,u l],_,λ_=>Tb p _ l atv al,ar,?_⟩;refine ll ?_;refine⟨[aH n.J[i],.O (below p n.J[i].name (l+1)),u (l+1)],_,λ_=>aY n.J[i] (below p n.J[i].name (l+1)) (l+1) atv atv atv,ar,?_⟩;apply b3;refine aJ _ rfl ?_ ?_<;>intro hc;refine gm ?_;(have aX:(q7 n.J[i] (below p n.J[i].name (l+1)) (l+1)).2≠0:=by simpa using hc);(have fG:q7 n p l=q7 n.J[i] (below p n.J[i].name (l+1)) (l+1):=by unfold q7 at aX⊢;rw[au,lr,kI];rcases Cf with h|⟨h1,z⟩;rw[h]at aX;exact absurd rfl aX;generalize fH gW n.J[i] (below p n.J[i].name (l+1)) (l+1) (0,[])=r at*;obtain⟨x,y⟩:=r;simp only at h1;subst h1;rfl);rw[fG];exact ar;refine rU ?_;(have h0:(q7 n.J[i] (below p n.J[i].name (l+1)) (l+1)).2=0:=by simpa using hc);(have X:fH gW n.J[i] (below p n.J[i].name (l+1)) (l+1) (0,[])=(true,(0,[])):=by rcases Cf with h|⟨h1,z⟩;exact h;unfold q7 at h0;rw[h1]at h0;exact absurd h0 z);exact⟨⟨i+1,by omega,by rw[au,lr,kI,X]⟩,by show _-(i+1)<_-i;omega,ar,⟨rfl,ai⟩⟩;refine qT ?_;(have fG:q7 n p l=([],0):=by rw[q7,au,av6 (by simp at hc;omega)];rfl);rw[fG];exact ar
theorem Ua(n:ad):(if(256:Int)<fI n then([],7)else q7 n [] 1)=check n:=by unfold check q7;split;rfl;rcases Np n [] 1 with h|⟨h1,z⟩;rw[h];rfl;rw[h1];rfl
theorem aez(n:ad)(bz:aB n+n.name.length<2200000):aS B 72 [aH n] (.bl [.O (check n).1,u (check n).2]):=by refine bB Tryz.func72 Tryz.ntmps72 λU=>?_;refine ch ?_;intro b;refine gb ?_;refine ez ?_;refine⟨[aH n],_,λ_=>T_ _ n (auw _) atv,ar,?_⟩;refine aJ _ rfl ?_ ?_<;>intro hc;refine gm ?_;rw[<-Ua,atH (by simpa using hc)];exact ar;apply cl;refine lm ?_;refine⟨[aH n,.O [],u 1],_,λ_=>aey _ n [] 1 (auw _) atw atv,ar,?_⟩;refine iJ ?_;rw[<-Ua,atG (by simpa using hc)];exact ar
theorem Ub(n:ad)(bz:aB n+n.name.length<2200000):aS B 67 [aH n] (.bool (valid n)):=by refine bB Tryz.func67 Tryz.ntmps67 λU=>?_;refine ch ?_;intro b;refine lm ?_;refine⟨[aH n],_,λ_=>aez n bz,ar,?_⟩;refine gm ?_;exact E
end Go.bS.cp


namespace Go.bS.cp
open Go Go.Proofs
variable{B:World}
def fv(n:ad):Prop:=aB n+n.name.length<2200000
mutual
def yI:ad->Nat
 |.mk _ _ _ _ _ _ _ _ _ _ ah _=>qi ah+1
def qi:List ad->Nat
 |[]=>0
 |n::r=>max (yI n) (qi r)
end
theorem aeA(n:ad):yI n=qi n.J+1:=by cases n;simp only[yI]
theorem Uc:∀a b:List ad,qi (a++b)=max (qi a) (qi b)
 |[],b=>by simp[qi]
 |n::r,b=>by simp only[auO,qi];rw[Uc r b];omega
variable{i:Nat}
theorem aeB{l:List ad}(h:i<l.length):qi (l.take (i+1))=max (qi (l.take i)) (yI l[i]):=by rw[avH,atJ h,Uc];simp[qi]
mutual
theorem aeC:∀n:ad,yI n<=aB n
 |.mk a b c d e f g h i j ah cE=>by have:=Nq ah;simp only[yI,aB];omega
theorem Nq:∀l:List ad,qi l<=eF l
 |[]=>by simp[qi,eF]
 |n::r=>by have:=aeC n;have:=Nq r;simp only[qi,eF];omega
end
theorem aeD:∀(bD:Nat) (n:ad),aB n<bD->aB n<100000000->aS B 100 [aH n] (u (yI n)):=by refine λbD=>Nat.rec (λn h=>absurd h (avf _)) (λbD aY n hN G=>?_) bD;have eQ:=vx n;have hcs:=Nq n.J;have q6:=l' n;refine bB Tryz.func100 Tryz.ntmps100 λU=>?_;refine ch ?_;intro b;apply b3;refine nF ?_;refine Y.loop (α:={i:Nat // i<=n.J.length}) (λx=>[(1,.box 1 b 0),(3,u (qi (n.J.take x.1):Nat)),(4,u x.1)]) (λ_=>[(1,.box b (yH n))]) (λx=>n.J.length-x.1) ⟨0,by omega⟩ ar ⟨rfl,ai⟩ ?_;rintro⟨i,hi⟩;dsimp only;refine p9 ?_;refine aJ _ rfl ?_ ?_<;>intro hc;refine fk ?_;(have aE:i<n.J.length:=by simpa using hc);have b5:=r1 aE;refine kc ?_;apply kF;refine mC ?_;refine⟨aH n.J[i],λ_=>r2 aE,?_⟩;(conv=>whnf);refine⟨[aH n.J[i]],_,λ_=>aY _ atv atv,ar,?_⟩;refine nD ?_;exact⟨⟨i+1,by omega⟩,by show _-(i+1)<_-i;omega,⟨E,dp (by rw[aeB aE];split<;>omega),E,ai⟩,⟨rfl,ai⟩⟩;refine sS ?_;have m_:n.J.take i=n.J:=aue (by simp at hc;omega);refine .inl ⟨λ_=>by simp only[dk];rw[m_];omega,?_⟩;refine iJ ?_;exact dp (by rw[aeA,m_];omega)
def k8:List nH->Nat
 |[]=>0
 |s::r=>20+s.name.length+s.target.length+k8 r
mutual
def vN:ad->Nat
 |.mk a _ c d _ _ _ _ _ _ ah cE=>20+a.length+c.length+d.length+k8 cE+lz ah
def lz:List ad->Nat
 |[]=>0
 |n::r=>vN n+lz r
end
theorem aeE(n:ad):vN n=20+n.name.length+n.dB.length+n.target.length+k8 n.bK+lz n.J:=by cases n;simp only[vN]
theorem Ud:∀l:List nH,k8 l<=10*l_ l
 |[]=>by simp[k8,l_]
 |s::r=>by have:=Ud r;simp only[k8,l_];omega
mutual
theorem Ue:∀n:ad,vN n<=n.name.length+10*aB n
 |.mk a b c d e f g h i j ah cE=>by have:=Uf ah;have:=Ud cE;simp only[vN,aB];omega
theorem Uf:∀l:List ad,lz l<=10*eF l
 |[]=>by simp[lz,eF]
 |n::r=>by have:=Ue n;have:=Uf r;simp only[lz,eF];omega
end
theorem Ug:∀a b:List nH,k8 (a++b)=k8 a+k8 b
 |[],b=>by simp[k8]
 |n::r,b=>by simp only[auO,k8];rw[Ug r b];omega
theorem aeF(n:ad)(h:i<n.bK.length):k8 (n.bK.take (i+1))=k8 (n.bK.take i)+(20+(gV n i).name.length+(gV n i).target.length):=by rw[avH,atJ h,Ug];simp[k8,gV,List.getD,h]
theorem Uh:∀(l:List nH) (i:Nat),k8 (l.take i)<=k8 l
 |[],i=>by simp[k8]
 |n::r,0=>by simp[k8]
 |n::r,i+1=>by simp only[avr,k8];have:=Uh r i;omega
theorem Ui:∀a b:List ad,lz (a++b)=lz a+lz b
 |[],b=>by simp[lz]
 |n::r,b=>by simp only[auO,lz];rw[Ui r b];omega
theorem aeG{l:List ad}(h:i<l.length):lz (l.take (i+1))=lz (l.take i)+vN l[i]:=by rw[avH,atJ h,Ui];simp[lz]
theorem Uj:∀(l:List ad) (i:Nat),lz (l.take i)<=lz l
 |[],i=>by simp[lz]
 |n::r,0=>by simp[lz]
 |n::r,i+1=>by simp only[avr,lz];have:=Uj r i;omega
theorem aeH:∀(bD:Nat) (n:ad),aB n<bD->aB n+n.name.length<10000000->aS B 101 [aH n] (u (vN n)):=by refine λbD=>Nat.rec (λn h=>absurd h (avf _)) (λbD aY n hN G=>?_) bD;have eQ:=vx n;have fg:=Fg n;have Uk:=Ue n;have aeI:=aeE n;refine bB Tryz.func101 Tryz.ntmps101 λU=>?_;refine ch ?_;intro b;refine jb ?_;refine g_ ?_;apply cD;refine g_ ?_;apply cD;refine g_ ?_;refine nF ?_;refine Y.loop (α:={i:Nat // i<=n.bK.length}) (λx=>[(1,.box 1 b 0),(3,u ((20+n.name.length+n.dB.length+n.target.length+k8 (n.bK.take x.1):Nat):Int)),(4,u x.1)]) (λ_=>[(1,.box b (yH n))]) (λx=>n.bK.length-x.1) ⟨0,by omega⟩ ⟨E,dp (by simp[k8]),E,ai⟩ ⟨rfl,ai⟩ ?_;rintro⟨i,hi⟩;dsimp only;refine p9 ?_;refine aJ _ rfl ?_ ?_<;>intro hc;refine fk ?_;(have aE:i<n.bK.length:=by simpa using hc);have Fi:=Uh n.bK (i+1);have cW:=aeF n aE;refine kc ?_;refine Y.vf aL mixed atA ?_;refine g_ ?_;refine mC ?_;refine⟨c5 (gV n i),λ_=>uk n aE,?_⟩;refine g_ ?_;refine mC ?_;refine⟨c5 (gV n i),λ_=>uk n aE,?_⟩;refine g_ ?_;refine nD ?_;exact⟨⟨i+1,by omega⟩,by show _-(i+1)<_-i;omega,⟨E,dp (by rw[cW];omega),E,ai⟩,⟨rfl,ai⟩⟩;refine wT ?_;have hE:n.bK.take i=n.bK:=aue (by simp at hc;omega);refine nF ?_;refine Y.loop (α:={i:Nat // i<=n.J.length}) (λx=>[(1,.box 1 b 0),(3,u ((20+n.name.length+n.dB.length+n.target.length+k8 n.bK+lz (n.J.take x.1):Nat):Int)),(5,u x.1)]) (λ_=>[(1,.box b (yH n))]) (λx=>n.J.length-x.1) ⟨0,by omega⟩ ⟨E,dp (by rw[hE];simp[lz]),E,ai⟩ ⟨rfl,ai⟩ ?_;rintro⟨i,hi⟩;dsimp only;refine p9 ?_;refine aJ _ rfl ?_ ?_<;>intro hc;refine fk ?_;(have aE:i<n.J.length:=by simpa using hc);have b5:=r1 aE;have Fi:=Uj n.J (i+1);have cW:=aeG aE;refine kc ?_;apply kF;refine mC ?_;refine⟨aH n.J[i],λ_=>r2 aE,?_⟩;(conv=>whnf);refine⟨[aH n.J[i]],_,λ_=>aY _ atv atv,ar,?_⟩;refine g_ ?_;refine nD ?_;exact⟨⟨i+1,by omega⟩,by show _-(i+1)<_-i;omega,⟨E,dp (by rw[cW];omega),E,ai⟩,⟨rfl,ai⟩⟩;refine qT ?_;exact dp (by rw[aeI,aue (by simp at hc;omega)])
def pA(n:ad)(s:Int):Bool:=(decide ((fI n:Int)<=40)&&decide ((yI n:Int)<=20))&&decide ((vN n:Int)<=s)
theorem aeJ(n:ad)(s:Int)(av:fv n):aS B 73 [aH n,u s] (.bool (pA n s)):=by refine bB Tryz.func73 Tryz.ntmps73 λU=>?_;refine ch ?_;intro b;refine lm ?_;unfold fv at av;refine⟨[aH n],_,λ_=>T_ _ n (auw _) atv,ar,?_⟩;apply cD;refine na ?_;refine⟨[aH n],_,λh=>aeD _ n (auw _) atv,ar,?_⟩;refine iq ?_;apply cD;refine na ?_;refine⟨[aH n],_,λh=>aeH _ n (auw _) atv,ar,?_⟩;refine ob ?_;refine iJ ?_;exact aq.of_eq (atI D.bool (by simp only[pA,<-jF]))
def s9(n:ad)(q:atE):Int:=fe (λk:ad=>k.name==q) n.J
theorem aeK(n:ad)(q:atE)(av:fv n):aS B 69 [aH n,.O q] (u (s9 n q)):=by refine bB Tryz.func69 Tryz.ntmps69 λU=>?_;refine ch ?_;intro b;refine nF ?_;have eQ:=vx n;unfold fv at av;refine Y.loop (α:={i:Nat // i<=n.J.length/\∀j (h:j<n.J.length),j<i->((n.J[j]).name==q)=false}) (λx=>[(1,.O q),(2,.box 2 b 0),(5,u x.1)]) (λ_=>[(2,.box b (yH n))]) (λx=>n.J.length-x.1) ⟨0,by simp⟩ ar ⟨rfl,ai⟩ ?_;rintro⟨i,hi,au⟩;dsimp only;refine p9 ?_;refine aJ _ rfl ?_ ?_<;>intro hc;refine fk ?_;(have aE:i<n.J.length:=by simpa using hc);refine kc ?_;apply b3;refine mC ?_;refine⟨aH n.J[i],λ_=>r2 aE,?_⟩;refine aJ _ rfl ?_ ?_<;>intro hc;refine gm ?_;exact dp (z6 (p:=λk:ad=>k.name==q) aE au hc).symm;refine rU ?_;exact⟨⟨i+1,by omega,λj Z bi=>(avK.1 bi).elim (au j Z) λe=>by subst e;exact hc⟩,by show _-(i+1)<_-i;omega,ar,⟨rfl,ai⟩⟩;refine qT ?_;exact axQ
theorem Fj:∀a:atE,Op.bytesLess a a=false
 |[]=>rfl
 |a::xs=>by simp[Op.bytesLess,Fj xs,awo]
theorem w9:∀a b:atE,Op.bytesLess a b=false->Op.bytesLess b a=false->a=b
 |[],[],_,_=>rfl
 |[],_::_,h,_=>by simp[Op.bytesLess]at h
 |_::_,[],_,h=>by simp[Op.bytesLess]at h
 |a::xs,b::a',h,bq=>by simp only[Op.bytesLess,avg,avl,avk,aur]at h bq;have qL:a=b:=UInt8.le_antisymm (awN.1 bq.1) (awN.1 h.1);subst qL;rw[w9 xs a' (by rcases h.2 with h|h;exact absurd rfl h;exact h) (by rcases bq.2 with h|h;exact absurd rfl h;exact h)]
theorem CD:∀a b c:atE,Op.bytesLess a b=true->Op.bytesLess b c=true->Op.bytesLess a c=true
 |_,[],_,h,_=>by cases bq:(‹atE›:atE)<;>simp_all [Op.bytesLess]
 |_,_::_,[],_,h=>by simp[Op.bytesLess]at h
 |[],_::_,_::_,_,_=>rfl
 |a::xs,b::a',c::zs,h,bq=>by simp only[Op.bytesLess,au3,aup,atM,avn]at h bq⊢;rcases h with h|⟨rfl,h⟩;rcases bq with bq|⟨rfl,bq⟩;exact .inl (UInt8.lt_trans h bq);exact .inl h;rcases bq with bq|⟨rfl,bq⟩;exact .inl bq;exact .inr ⟨rfl,CD xs a' zs h bq⟩
theorem Fk{a b:atE}(h:Op.bytesLess a b=true):Op.bytesLess b a=false:=by cases G:Op.bytesLess b a with|false=>rfl|true=>have:=CD a b a h G;rw[Fj]at this;cases this
theorem s_{a b:atE}(h:Op.bytesLess a b=true):a≠b:=λe=>by rw[e,Fj]at h;cases h
def gP(l:List ad):Prop:=∀i,i+1<l.length->Op.bytesLess (l.getD i default).name (l.getD (i+1) default).name=true
theorem Ul{l:List ad}(h:gP l):∀{d i:Nat},i+d+1<l.length->Op.bytesLess (l.getD i default).name (l.getD (i+d+1) default).name=true
 |0,i,hi=>h i hi
 |d+1,i,hi=>CD _ _ _ (Ul h (d:=d) (i:=i) atv) (h (i+d+1) hi)
variable{j:Nat}
theorem aeL{l:List ad}(h:gP l)(d7:i<j)(Z:j<l.length):Op.bytesLess (l.getD i default).name (l.getD j default).name=true:=by have:=Ul h (d:=j-i-1) (i:=i) atv;rwa [show i+(j-i-1)+1=j by omega]at this
end Go.bS.cp



namespace Go.bS.cp
open Go Go.Proofs
variable{B:World}
def kh(v:Int):Bool:=decide (0<=v)&&decide (v<4)
theorem Fl(v:Int):aS B 252 [u v] (.bool (kh v)):=by refine bB Tryz.func252 Tryz.ntmps252 λU=>?_;apply b3;apply b3;refine iq ?_;refine iJ ?_;exact aq.of_eq (atI D.bool (jF _ _))
def Um(h v:Int):Bool:=qD .and .i64 (h.fdiv (2 ^ min v.toNat IntKind.i64.bits)) 1==1
def lA(v:Int)(n:ad)(l:Int):Bool :=
 if !kh v||Um n.n6 v then false else if(v==0&&n.kind==0)&&decide (8<l)then false else(!(n.kind==2)||v==2)||v==3
theorem Fm(v:Int)(n:ad)(l:Int):aS B 183 [u v,aH n,u l] (.bool (lA v n l)):=by refine bB Tryz.func183 Tryz.ntmps183 λU=>?_;refine ch ?_;intro b;refine p8 ?_;refine⟨[u v],_,λ_=>Fl v,ar,?_⟩;refine iK ?_;refine hG ?_;refine⟨λh=>by unfold kh at h;simp at h;omega,?_⟩;refine ob ?_;refine aJ (!kh v||Um n.n6 v) (by simp only[<-pt];rfl) ?_ ?_<;>intro hc;refine gm ?_;exact aq.of_eq (atI D.bool (by rw[lA,atH hc]));apply cl;have eZ:=hc;refine gb ?_;refine iK ?_;refine iq ?_;refine iq ?_;refine aJ ((v==0&&n.kind==0)&&decide (8<l)) (by simp only[<-jF];rfl) ?_ ?_<;>intro hc;refine gm ?_;exact aq.of_eq (atI D.bool (by rw[lA,atG (by rw[eZ];simp),atH hc]));apply cl;refine jb ?_;refine iq ?_;refine iq ?_;refine iJ ?_;refine aq.of_eq (atI D.bool ?_);rw[lA,atG (by rw[eZ];simp),atG (by rw[hc];simp)];simp only[<-pt];rfl
theorem Un(p n:atE)(Uo:Bool)(h:p.length+n.length<1000000000):aS B 349 [.O p,.O n,.bool Uo] (.O (if Uo then n else p++[47]++n)):=by refine bB Tryz.func349 Tryz.ntmps349 λU=>?_;apply b3;refine gb ?_;refine aJ _ rfl ?_ ?_<;>intro hc;refine gm ?_;exact aq.of_eq (atI D.O (by rw[atH hc]));apply cl;refine ch ?_;refine p6 ?_;refine oa ?_;refine iJ ?_;exact aq.of_eq (atI D.O (by rw[atG (by rw[hc];simp)]))
open Go.RowKit
theorem aeM(a b:ByteArray)(ce dn nK AB ul Fo Up Uq Ur Us Ut IC Fp ID Uu Uv Uw Ux Uy Uz UA UB:Value)(w:World):
  Calls Tryz.prog 351 #[.agg #[.string a,ce,dn,nK,AB,ul,Fo,Up,Uq,Ur,Us,Ut],.agg #[.string b,IC,Fp,ID,Uu,Uv,Uw,Ux,Uy,Uz,UA,UB]] w
   λe w'=>e=.returned (.int .i64 (Lib.compareBytes a.data.toList b.data.toList))/\∃q Nr,w'=Sort.grow (w.drewN q) Nr:=by
 go_enter Tryz.func351,Tryz.ntmps351
 go_wp2_with (first
  |(go_at_call 249;refine(Tryz.strings_Compare _ _ _).mono ?_;rintro e w' ⟨rfl,rfl⟩)
  |go_in)
 go_ret
 refine⟨rfl,0,#[.cells #[.string a,ce,dn,nK,AB,ul,Fo,Up,Uq,Ur,Us,Ut] 44,.cells #[.string b,IC,Fp,ID,Uu,Uv,Uw,Ux,Uy,Uz,UA,UB] 44],?_⟩;simp only[Sort.grow,World.drewN,World.alloc,av_];congr 1
theorem aeN(dY b o n cap i j:Nat)(x y:ByteArray)(w:World)(arx:w.cell? ⟨dY,0,none⟩=some (.slice (some ⟨b,o,none⟩) n cap))(hi:i<n)(Z:j<n)
  (F:w.cell? ⟨b,o+i*12,none⟩=some (.string x)) (hy:w.cell? ⟨b,o+j*12,none⟩=some (.string y)) :
  Calls Tryz.prog 254 #[.int .i64 i,.int .i64 j,.pointer (some ⟨dY,0,none⟩)] w
   λe w'=>e=.returned (.int .i64 (Lib.compareBytes x.data.toList y.data.toList))/\∃q Nr,w'=Sort.grow (w.drewN q) Nr:=by
 go_enter Tryz.func254,Tryz.ntmps254
 go_wp2_with (first
  |(go_at_call 249;refine(Tryz.strings_Compare _ _ _).mono ?_;rintro e w' ⟨rfl,rfl⟩)
  |go_in)
 go_quiet ((go_at_call 249;refine Calls.quiet_of_same (Tryz.strings_Compare _ _ _)))
 go_wp2
 go_ret
 exact⟨rfl,_,#[],(Sort.grow_empty _).symm⟩
open Go.Sort Go.Lib
variable{α:Type}{b:Nat}
theorem Ns[Inhabited α](enc:α->Value)(w:World)(blk off n:Nat)(d:Array α)(os:Array Obj)(G:b<w.heap.size)(aX:b≠blk):(sortWorld enc w blk off n d os).heap[b]?=w.heap[b]?:=by simp only[sortWorld,Sort.grow,putRow,mapBlock,ahead];rw[awE (by simpa using G),av',atG (Ne.symm aX)];rfl
theorem IE[Inhabited α](enc:α->Value)(w:World)(blk off n:Nat)(d:Array α)(os:Array Obj){vs:Array Value}{e:TypeId}{j_:Nat×Nat}(G:w.heap[blk]?=some (.cells vs e j_)): (sortWorld enc w blk off n d os).heap[blk]?=some (.cells (putCells enc off d vs) e j_):=by have bi:=hR G;simp only[sortWorld,Sort.grow,putRow,mapBlock,ahead];rw[awE (by simpa using bi),av',atH rfl];show Option.map _ w.heap[blk]?=_;rw[G];rfl
variable{aj:Value}
theorem Nt[Inhabited α](enc:α->Value)(w:World)(blk off n:Nat)(d:Array α)(os:Array Obj){o:Nat}(aX:b≠blk)(h:w.cell? ⟨b,o,none⟩=some aj):(sortWorld enc w blk off n d os).cell? ⟨b,o,none⟩=some aj:=by(have bi:b<w.heap.size:=by simp only[World.cell?]at h;rcases at5 b w.heap.size with h1|h1;exact h1;rw[awY h1]at h;cases h);rw[<-h];simp only[World.cell?,Ns enc w blk off n d os bi aX]
theorem aeO[Inhabited α](enc:α->Value)(w:World)(blk off n:Nat)(d:Array α)(os:Array Obj):w.heap.size<=(sortWorld enc w blk off n d os).heap.size:=by simp[sortWorld,Sort.grow,putRow,mapBlock,ahead]
theorem c7.IF[Inhabited α](enc:α->Value)(w:World)(C:Nat->Nat)(blk off n:Nat)(d:Array α)(os:Array Obj)(c6:C blk=0):c7 (λx=>x=blk) w C (sortWorld enc w blk off n d os) C :=
 ⟨⟨aeO ..,λ_ _=>atP _,λb o G ag=>by
   have aX:b≠blk:=λe=>by subst e;omega
   simp only[World.cell?,Ns enc w blk off n d os G aX]⟩,rfl,rfl,rfl,λb G aX=>⟨Ns enc w blk off n d os G aX,rfl⟩⟩
theorem Nu(aW:α->atE)(x y:α):ltOf (λx y:α=>Lib.compareBytes (aW x) (aW y)) x y=Op.bytesLess (aW x) (aW y):=by unfold ltOf;show decide (Lib.compareBytes (aW x) (aW y)<0)=_;rcases T3 (aW x) (aW y)with h|h|h;rw[h];(cases G:Op.bytesLess (aW x) (aW y)with|true=>rfl|false =>(cases g8:Op.bytesLess (aW y) (aW x)with|true=>rw[(Ff (aW x) (aW y)).2 g8]at h;cases h|false=>have:=w9 _ _ G g8;rw[(Fe (aW x) (aW y)).2 this]at h;cases h));rw[h];have:=(Fe (aW x) (aW y)).1 h;rw[this,Fj];rfl;rw[h];rw[Fk ((Ff (aW x) (aW y)).1 h)];rfl
theorem UC(aW:α->atE):SWO (ltOf λx y:α=>Lib.compareBytes (aW x) (aW y)):=by have key:=Nu aW;refine⟨λx=>by rw[key,Fj],λx y V h1 z=>?_,λx y V h1 z=>?_⟩;rw[key]at*;exact CD _ _ _ h1 z;rw[key]at*;cases G:Op.bytesLess (aW x) (aW V)with|false=>rfl|true =>(cases aa:Op.bytesLess (aW V) (aW y)with|true=>rw[CD _ _ _ G aa]at h1;cases h1|false=>have:=w9 _ _ z aa;rw[this]at h1;rw[G]at h1;cases h1)
def encI(i:Nat):D:=u (i:Nat)
def IG(n:Nat)(x:Fin n):Value:=.int .i64 ((x.1:Nat):Int)
variable{c9 da:aI}{s:Nat}
theorem IH{a:Nat}{o:aI}(h:aK [(a,c9),(b,da)] s=some o):(s=a/\o=c9)\/(s=b/\o=da):=by simp only[aK]at h;cases h1:Nat.beq s a with|true=>rw[h1]at h;cases h;exact .inl ⟨aua h1,rfl⟩|false =>rw[h1]at h;(cases z:Nat.beq s b with|true=>rw[z]at h;cases h;exact .inr ⟨aua z,rfl⟩|false=>rw[z]at h;cases h)
theorem UD(v:Value)(Nv:D)(o:aI):cV B 253 [.an v,Nv] (aK [(2001,.row v [] 1 3),(2000,o)]) λd aM=>d=.bl []/\aM=aK [(2001,.row v [] 1 3),(2000,o)]:=by refine⟨jD Tryz.func253 rfl atz,λw C args Ft pZ qQ hH ae=>?_⟩;obtain⟨al,ae⟩:=ae;match args,al with|[a0,ga],_ =>have h0:=(ae 0 _ a0 rfl rfl).fL;subst h0;obtain⟨a,cap,W,_⟩:kx w C a0 [] 1 3:=hH.b' 2001 _ rfl;subst W;refine(AnyF.slices_SortFunc_none Tryz.laysSlF0_f253 a cap ga w).mono ?_;rintro e w' ⟨rfl,rfl⟩;exact⟨.tuple #[],.bl [],C,_,rfl,⟨rfl,rfl⟩,.bl [] [] rfl (λi d v N _=>by simp at N),.refl _ _ _,⟨hH.b',hH.inj,λs o b ag ao=>.inl (hH.cJ s o b ag ao)⟩⟩
theorem UE(J:List ad)(av:0<J.length)(hlen:J.length<1000000)(dY:Nat)(v:Value)(ds:List (Fin J.length))(um:0<ds.length)(N:ds.length<1000000):
  cV B 253 [.an v,.fn (.func 254) [] [.box 2000 dY 0]] (aK [(2001,.row v (ds.map λx=>encI x.1) 1 3),(2000,.box dY [.Q .none 12 (J.map enc)])]) λd aM =>
   d=.bl []/\∃kX:List (Fin J.length),kX.Perm ds/\(∀(i j:Nat) (hi:i<kX.length) (Z:j<kX.length),i<j->Op.bytesLess (J[kX[j].1]).name (J[kX[i].1]).name=false)/\
    aM=aK [(2001,.row v (kX.map λx=>encI x.1) 1 3),(2000,.box dY [.Q .none 12 (J.map enc)])]:=by
 refine⟨jD Tryz.func253 rfl atz,λw C args Ft pZ qQ hH ae=>?_⟩;obtain⟨al,ae⟩:=ae
 match args,al with
 |[a0,ga],_ =>
  have h0:=(ae 0 _ a0 rfl rfl).fL;obtain⟨fK,hp,h1,z,aa⟩:=(ae 1 _ ga rfl rfl).u9;subst h0;have Nw:fK=[]:=atY z.1.symm;subst Nw
  have sR:hp=[.pointer (some ⟨dY,0,none⟩)]:=by
   obtain⟨UF,aa⟩:=aa
   match hp,UF with
   |[aj],_=>rw[(aa 0 _ aj rfl rfl).wA]
  subst sR;subst h1;have dN:kx w C a0 (ds.map λx=>encI x.1) 1 3:=hH.b' 2001 _ rfl;obtain⟨UG,ary,m5,II,arz⟩:tE w C (.box dY [.Q .none 12 (J.map enc)]):=hH.b' 2000 _ rfl
  obtain⟨aj,rfl⟩:∃aj,UG=[aj]:=by
   match UG,II.1 with
   |[aj],_=>exact⟨aj,rfl⟩
  have ao:=II.2 0 _ aj rfl rfl;obtain⟨b,cap,vs,W,hc,hm,X,G,fM,c6,hcells⟩:=kx.pos dN (i:=0) (by simpa using um);have hcap:0<cap:=by simp at hc;omega
  have ef:∀x∈ds.map (λx=>encI x.1),x.cells=[x]:=λx F=>by obtain⟨y,_,rfl⟩:=at3.1 F;rfl
  rw[rO ef]at hcells;have eQ:0<(J.map enc).length:=by simpa using av
  rcases ao.kz with⟨ak,_⟩|⟨Fq,o,Nx,g,rfl,_,pY,_,_,s1,aeP,aeQ,_,aeR⟩
  ·rw[ak]at eQ;cases eQ
  have UH:Fq≠b:=λe=>by rw[e]at aeP;omega
  have IJ:dY≠b:=λe=>by
   subst e;exact hH.inj 2000 2001 _ _ dY aty rfl rfl rfl ⟨_,cap,W,hcap⟩
  have gv:(J.map enc).length=J.length:=by simp
  have aeS:w.cell? ⟨dY,0,none⟩=some (.slice (some ⟨Fq,o,none⟩) J.length Nx):=by
   have:w.cell? ⟨dY,0,none⟩=some (.slice (some ⟨Fq,o,none⟩) (J.map enc).length Nx):=by simp only[World.cell?,m5];rfl
   rwa [gv]at this
  have Fr:∀i:Fin J.length,w.cell? ⟨Fq,o+i.1*12,none⟩=some (.string ⟨⟨(J[i.1]).name⟩⟩):=λi=>by
   have M:(b1 (J.map enc))[i.1*12+0]?=some (.O (J[i.1]).name):=by rw[wF s1 (oe i.2) atv];rfl
   have aC:=aeQ _ _ M;rw[(aeR _ _ M).kw]at aC;simpa using aC
  haveI:Inhabited (Fin J.length):=⟨⟨0,av⟩⟩
  have h9:∀(l:List (Fin J.length)) (j:Nat) (Z:j<l.length),l.toArray[j]! = l[j]:=λl j Z=>by simp[Z]
  have Ny:∀args w,(callFunc 254 args).run Tryz.prog w=.ok (.enter 254 args) w:=λargs w=>by
   obtain⟨fn,i7,rK,mu⟩:=jD Tryz.func254 rfl atz;have ol:fn.body.isNone=false:=by cases G:fn.body<;>simp[G]at rK⊢
   simp only[callFunc,Sem.run_bind,run_program,Result.andThen_ok,i7,mu,ol,auR,avq,Sem.run_pure]
  have Fs:=Tryz.slices_SortFunc (IG J.length) (λ_=>rfl) (λx y=>Lib.compareBytes (J[x.1]).name (J[y.1]).name) (UC λx:Fin J.length=>(J[x.1]).name) 254 #[.pointer (some ⟨dY,0,none⟩)] b 0 cap ds.toArray w
   Ny (λm os aeT aeU x y=>(aeN dY Fq o J.length Nx x.1 y.1 ⟨⟨(J[x.1]).name⟩⟩ ⟨⟨(J[y.1]).name⟩⟩ _ (Nt _ _ _ _ _ _ _ IJ aeS) x.2 y.2
    (Nt _ _ _ _ _ _ _ UH (Fr x)) (Nt _ _ _ _ _ _ _ UH (Fr y))))
   (λj Z=>by
    have gl:j<ds.length:=by simpa using Z
    obtain⟨V,a_,cC,_⟩:=hcells j (encI ds[j].1) (by simp[gl]);refine⟨?_,by simp[World.frozen?,G]⟩;rw[h9 ds j gl];simp only[World.cell?,G,aut]
    simp[a_,cC.fr,IG]) (hR G) atw
  subst W;have hsz:(ds.map λx=>encI x.1).length=ds.toArray.size:=by simp
  have eK:∀(xs:List D),aI.ec (.row (.slice (some ⟨b,0,none⟩) (ds.map λx=>encI x.1).length cap) xs 1 3) b:=λxs=>⟨_,cap,rfl,hcap⟩;have uo:=hH.cJ 2001 _ b rfl (eK _);have aeV:=hH.cJ 2000 _ dY rfl rfl;rw[hsz]at eK⊢;refine Fs.mono ?_;rintro e w' ⟨rfl,d',m,os,au,hs,rfl⟩;obtain⟨hg,_,pz⟩:=au;have jv:d'.toList.length=ds.length:=by simpa using hg
  have aZ:=c7.IF (IG J.length) w C b 0 m d' os c6;refine⟨.tuple #[],.bl [],C,_,rfl,⟨rfl,d'.toList,?_,?_,rfl⟩,.bl [] [] rfl (λi d v N _=>by simp at N),?_,⟨λs o ag=>?_,λs bp o bI x aX h1 z ao cS=>?_,λs o x ag ao=>?_⟩⟩
  ·have bT:(d'.extract 0 ds.toArray.size).toList=d'.toList:=by rw[<-hg];simp
   have b0:(ds.toArray.extract 0 ds.toArray.size).toList=ds:=by simp
   rw[bT,b0]at pz;exact pz
  ·intro i j hi Z d7;have eV:=hs i j (at7 _) d7 (by rw[<-hg];simpa using Z);rw[Nu λx:Fin J.length=>(J[x.1]).name]at eV;have g1:d'[j]! = d'.toList[j]:=by rw[getElem!_pos d' j (by simpa using Z)];simp
   have eP:d'[i]! = d'.toList[i]:=by rw[getElem!_pos d' i (by simpa using hi)];simp
   rw[g1,eP]at eV;exact eV
  ·exact⟨aZ.ext,aZ.os,aZ.tape,aZ.output,λx F bJ=>aZ.iE x F λe=>by subst e;exact bJ uo⟩
  ·rcases IH ag with⟨rfl,rfl⟩|⟨rfl,rfl⟩
   ·have UI:∀x∈d'.toList.map (λx=>encI x.1),x.cells=[x]:=λx F=>by obtain⟨y,_,rfl⟩:=at3.1 F;rfl
    refine⟨some ⟨b,0,none⟩,cap,by simp[hg],by simp only[atL]at hc⊢;omega,hm,λx F=>by rw[UI x F];rfl,λdF gg=>⟨b,by cases gg;rfl,auy (hR G) aZ.ext.size⟩,
     λ_=>⟨b,_,rfl,IE _ _ _ _ _ _ _ G,ayA,c6,λj d N=>?_⟩⟩
    rw[rO UI]at N;have Z:j<d'.size:=by have:=e8 N;simpa using this
    have AC:j<vs.size:=by have:=hg;simp at this fM hc;omega
    have Fu:d=encI d'[j].1:=by simp[Z]at N;exact N.symm
    subst Fu;refine⟨IG J.length d'[j],?_,.int _ _,rfl⟩;simp only[putCells,awA,avd AC,au8,at7,true_and,aut,Z,auT,Nat.sub_zero];rw[getElem!_pos d' j Z]
   exact(hH.b' 2000 _ rfl).iE aZ.ext λx F=>aZ.iE x (by cases F;exact hR m5) (by cases F;exact IJ)
  ·rcases IH h1 with⟨rfl,rfl⟩|⟨rfl,rfl⟩<;>rcases IH z with⟨rfl,rfl⟩|⟨rfl,rfl⟩
   ·exact aX rfl
   ·obtain⟨h5,vg,fZ,_⟩:=ao;have:=pa fZ;subst this
    exact IJ cS.symm
   ·obtain⟨h5,vg,fZ,_⟩:=cS;have:=pa fZ;subst this
    exact IJ ao.symm
   exact aX rfl
  rcases IH ag with⟨rfl,rfl⟩|⟨rfl,rfl⟩
  ·obtain⟨h5,vg,fZ,_⟩:=ao;have:=pa fZ;subst this
   exact .inl uo
  cases ao;exact .inl aeV
def w_(L:List Int):List Int:=L.mergeSort λx y=>decide (x<=y)
theorem IK{a:Nat}{o:aI}(h:aK [(a,c9)] s=some o):s=a/\o=c9:=axB
theorem Nz(L:List Int):∀x∈bn L,x.cells=[x]:=λx F=>ayF
variable{Ft:Nat->Prop}{w:World}{C:Nat->Nat}{cap:Nat}
theorem UJ{L ap:List Int}(hH:mo Ft w C (aK [(2000,.row (.slice (some ⟨b,0,none⟩) L.length cap) (bn L) 1 3)]))(h0:0<L.length)(gL:ap.length=L.length)(q:Nat)(os:Array Obj)(m:Nat)(hm:m<=L.length):
  c7 Ft w C (sortWorld (Value.int .i64) w b 0 q ap.toArray os) C/\mo (λx=>Ft x\/w.heap.size<=x) (sortWorld (Value.int .i64) w b 0 q ap.toArray os) C (aK [(2000,.row (.slice (some ⟨b,0,none⟩) m cap) (bn (ap.take m)) 1 3)]):=by
 have fg:∀ap:List Int,(bn ap).length=ap.length:=λap=>by simp[bn]
 have dN:kx w C (.slice (some ⟨b,0,none⟩) L.length cap) (bn L) 1 3:=hH.b' 2000 _ rfl;obtain⟨eh,h6,vs,dM,hc,BR,X,G,fM,c6,hcells⟩:=kx.pos dN (i:=0) (by rw[fg];omega);simp only[Value.slice.injEq,aus,Addr.mk.injEq]at dM;obtain⟨⟨rfl,_⟩,_,rfl⟩:=dM;rw[fg]at hc;have uo:=hH.cJ 2000 _ b rfl ⟨_,cap,rfl,by omega⟩;have aZ:=c7.IF (Value.int .i64) w C b 0 q ap.toArray os c6;have gv:(ap.take m).length=m:=by rw[at4];omega
 refine⟨⟨aZ.ext,aZ.os,aZ.tape,aZ.output,λx F bJ=>aZ.iE x F λe=>by subst e;exact bJ uo⟩,⟨λs mA ag=>?_,λs bp mA arA x aX h1 z ao cS=>?_,λs mA x ag ao=>?_⟩⟩
 ·obtain⟨rfl,rfl⟩:=IK ag
  refine⟨some ⟨b,0,none⟩,cap,by rw[fg,gv],by rw[fg,gv];omega,BR,λx F=>by rw[Nz _ x F];rfl,λdF gg=>⟨b,by cases gg;rfl,auy (hR G) aZ.ext.size⟩,
   λ_=>⟨b,_,rfl,IE _ _ _ _ _ _ _ G,ayA,c6,λj d N=>?_⟩⟩
  rw[Go.bS.rO (Nz _)]at N;have Z:j<m:=by have:=e8 N;rwa [fg,gv]at this
  have NA:j<ap.length:=atv
  have AC:j<vs.size:=by simp at fM;omega
  have Fu:d=.int .i64 ap[j]:=by simp[bn,Z,NA]at N;exact N.symm
  subst Fu;refine⟨.int .i64 ap[j],?_,.int _ _,rfl⟩;simp only[putCells,awA,avd AC,au8];rw[atH ⟨at7 _,by simpa using NA⟩,Nat.sub_zero,getElem!_pos ap.toArray j (by simpa using NA)];rfl
 ·obtain⟨rfl,_⟩:=IK h1;obtain⟨rfl,_⟩:=IK z;exact aX rfl
 obtain⟨rfl,rfl⟩:=IK ag;obtain⟨h5,vg,fZ,_⟩:=ao;have:=pa fZ;subst this
 exact .inl uo
theorem UK{a:Option Addr}{L:List Int}(hH:mo Ft w C (aK [(2000,.row (.slice a L.length cap) (bn L) 1 3)]))(h0:0<L.length):
  ∃b,a=some ⟨b,0,none⟩/\b<w.heap.size/\L.length<=cap/\Holds (Value.int .i64) w b 0 L.toArray:=by
 have fg:∀ap:List Int,(bn ap).length=ap.length:=λap=>by simp[bn]
 have dN:kx w C (.slice a L.length cap) (bn L) 1 3:=hH.b' 2000 _ rfl;obtain⟨b,h6,vs,dM,hc,BR,X,G,fM,c6,hcells⟩:=kx.pos dN (i:=0) (by rw[fg];omega);simp only[Value.slice.injEq]at dM;obtain⟨rfl,_,rfl⟩:=dM;rw[fg]at hc;rw[Go.bS.rO (Nz _)]at hcells;refine⟨b,rfl,hR G,hc,λj Z=>?_⟩;have gl:j<L.length:=by simpa using Z
 obtain⟨V,a_,cC,_⟩:=hcells j (u L[j]) (by simp[bn,gl]);refine⟨?_,by simp[World.frozen?,G]⟩;have aT:L.toArray[j]! = L[j]:=by simp[gl]
 rw[aT];simp only[World.cell?,G,aut];simp[a_,cC.fr]
theorem Fv(L:List Int):(w_ L).length=L.length:=awz _
theorem aeW(L:List Int)(a:Option Addr)(n cap:Nat)(av:n=L.length)(al:L.length<1000000): cV B 49 [.an (.slice a n cap)] (aK [(2000,.row (.slice a n cap) (bn L) 1 3)]) λd aM=>d=.bl []/\aM=aK [(2000,.row (.slice a n cap) (bn (w_ L)) 1 3)]:=by subst av;refine⟨jD Tryz.func49 rfl atz,λw C args Ft pZ qQ hH ae=>?_⟩;obtain⟨nM,ae⟩:=ae;match args,nM with|[a0],_ =>have h1:=(ae 0 _ a0 rfl rfl).fL;subst h1;rcases auD L.length with h0|h0;have aV:L=[]:=atY h0;subst aV;refine(Tryz.slices_Sort_int_none a cap w).mono ?_;rintro e w' ⟨rfl,rfl⟩;refine⟨.tuple #[],.bl [],C,_,rfl,⟨rfl,rfl⟩,.bl [] [] rfl (λi d v N _=>by simp at N),.refl _ _ _,?_⟩;rw[show w_ []=[] by simp[w_]];exact⟨hH.b',hH.inj,λs mA x ag ao=>.inl (hH.cJ s mA x ag ao)⟩;obtain⟨b,rfl,G,hc,cy⟩:=UK hH h0;refine(Tryz.slices_Sort_int b 0 cap L w cy G atv).mono ?_;rintro e w' ⟨rfl,q,os,rfl⟩;obtain⟨h1,z⟩:=UJ hH h0 (Fv L) q os L.length (atP _);rw[aue (by rw[Fv];exact atP _)]at z;exact⟨.tuple #[],.bl [],C,_,rfl,⟨rfl,rfl⟩,.bl [] [] rfl (λi d v N _=>by simp at N),h1,z⟩
theorem aeX(L:List Int):(Lib.compact L).length<=L.length:=by rw[Lib.compact,Lib.compactUpTo,atL];have:=aun (Lib.keeps L.toArray) (List.range L.length);simpa using this
theorem aeY(L:List Int)(a:Option Addr)(n cap:Nat)(av:n=L.length)(al:L.length<1000000): cV B 50 [.an (.slice a n cap)] (aK [(2000,.row (.slice a n cap) (bn L) 1 3)]) λd aM=>∃m,m=(Lib.compact L).length/\d=.an (.slice a m cap)/\aM=aK [(2000,.row (.slice a m cap) (bn (Lib.compact L)) 1 3)]:=by subst av;refine⟨jD Tryz.func50 rfl atz,λw C args Ft pZ qQ hH ae=>?_⟩;obtain⟨nM,ae⟩:=ae;match args,nM with|[a0],_ =>have h1:=(ae 0 _ a0 rfl rfl).fL;subst h1;rcases auD L.length with h0|h0;have aV:L=[]:=atY h0;subst aV;refine(Tryz.slices_Compact_int_empty a cap w).mono ?_;rintro e w' ⟨rfl,rfl⟩;refine⟨_,_,C,_,rfl,⟨_,rfl,rfl,rfl⟩,.an _,.refl _ _ _,?_⟩;exact⟨hH.b',hH.inj,λs mA x ag ao=>.inl (hH.cJ s mA x ag ao)⟩;obtain⟨b,rfl,G,hc,cy⟩:=UK hH h0;refine(Tryz.slices_Compact_int b 0 cap L w cy atv hc).mono ?_;rintro e w' ⟨rfl,q,rfl⟩;have im:=aeX L;obtain⟨h1,z⟩:=UJ (ap:=Lib.compact L++List.replicate (L.length-(Lib.compact L).length) 0) hH h0 atw q #[] (Lib.compact L).length im;rw[List.take_left'  rfl]at z;(have bT:sortWorld (Value.int .i64) w b 0 q (Lib.compact L++List.replicate (L.length-(Lib.compact L).length) 0).toArray #[]=putRow (Value.int .i64) (Sort.ahead w q) b 0 (Lib.compact L++List.replicate (L.length-(Lib.compact L).length) 0).toArray:=by rw[sortWorld,grow_empty]);rw[bT]at h1 z;exact⟨_,_,C,_,rfl,⟨_,rfl,rfl,rfl⟩,.an _,h1,z⟩
theorem UL(cE:List nH)(h:cE.length<1000000000):aS B 86 [.Q .none 2 (cE.map c5)] (.Q .none 2 (cE.map c5)):=by refine bB Tryz.func86 Tryz.ntmps86 λU=>?_;apply b3;apply m';refine Y.Ek aL ?_;(conv=>whnf);refine .inr (af.Ma (bH:=147) aL rfl rfl rfl λk4 n'=>?_);refine aJ _ rfl ?_ ?_<;>intro hc;refine gm ?_;have pW:=n' hc;rw[pW];exact aq.nil;apply cl;refine ch ?_;refine pe ?_;refine⟨by show(0+(cE.map c5).length)*32<=_;simp;omega,by show 0+(cE.map c5).length<=_;simp;omega,atC,λv=>?_⟩;refine iJ ?_;exact aq.trans (aq.of_eq (atI (D.Q _ 2) (au4 _))) aq.m7
def uq(dv:List ad)(vs:Array Value)(p:Fin dv.length):List Value:=.string ⟨⟨(dv[p.1]).name⟩⟩::(List.range 11).map λc=>vs.getD (p.1*12+(c+1)) undef
theorem UM(dv:List ad)(vs:Array Value)(p:Fin dv.length):(uq dv vs p).length=12:=rfl
theorem aeZ(n:ad):(aH n).cells.length=12:=rfl
theorem NB{dv:List ad}{vs:Array Value}(h:∀(j:Nat) d,(b1 (dv.map aH))[j]?=some d->∃aj,vs[j]?=some aj/\bf w C d aj/\aj.oneCell'=true)(p:Fin dv.length){c:Nat}(hc:c<12): ∃d aj,(aH dv[p.1]).cells[c]?=some d/\vs[p.1*12+c]?=some aj/\bf w C d aj/\aj.oneCell'=true/\(uq dv vs p)[c]?=some aj:=by(have X:∀x∈dv.map aH,x.cells.length=12:=λx F=>ayF);(have F:(dv.map aH)[p.1]?=some (aH dv[p.1]):=by simp);obtain⟨d,N⟩:=lW (l:=(aH dv[p.1]).cells) (i:=c) (by rw[aeZ];exact hc);obtain⟨aj,h1,z,aa⟩:=h (p.1*12+c) d (by rw[wF X F hc];exact N);refine⟨d,aj,N,h1,z,aa,?_⟩;cases c with|zero =>(have:d=.O (dv[p.1]).name:=by cases N;rfl);subst this;rw[z.kw];rfl|succ c =>simp only[uq,List.getElem?_cons_succ,aud,List.getElem?_range (show c<11 by omega),au8];simp[avt,h1]
theorem ae0(dv:List ad)(av:0<dv.length)(hlen:dv.length<1000000)(v:Value):
  cV B 350 [.an v,.fn (.func 351) [] []] (aK [(2001,.row v (dv.map aH) 12 44)]) λd aM =>
   d=.bl []/\∃AD:List ad,AD.Perm dv/\(∀(i j:Nat) (hi:i<AD.length) (Z:j<AD.length),i<j->Op.bytesLess (AD[j]).name (AD[i]).name=false)/\aM=aK [(2001,.row v (AD.map aH) 12 44)]:=by
 refine⟨jD Tryz.func350 rfl atz,λw C args Ft pZ qQ hH ae=>?_⟩;obtain⟨al,ae⟩:=ae
 match args,al with
 |[a0,ga],_ =>
  have h0:=(ae 0 _ a0 rfl rfl).fL;obtain⟨fK,hp,h1,z,aa⟩:=(ae 1 _ ga rfl rfl).u9;subst h0;have Nw:fK=[]:=atY z.1.symm;have sR:hp=[]:=atY aa.1.symm;subst Nw sR h1;have dN:kx w C a0 (dv.map aH) 12 44:=hH.b' 2001 _ rfl;obtain⟨b,cap,vs,W,hc,hm,X,G,fM,c6,hcells⟩:=kx.pos dN (i:=0) (by simpa using av);have hcap:0<cap:=by simp at hc;omega
  haveI:Inhabited (Fin dv.length):=⟨⟨0,av⟩⟩
  have Ny:∀args w,(callFunc 351 args).run Tryz.prog w=.ok (.enter 351 args) w:=λargs w=>by
   obtain⟨fn,i7,rK,mu⟩:=jD Tryz.func351 rfl atz;have ol:fn.body.isNone=false:=by cases G:fn.body<;>simp[G]at rK⊢
   simp only[callFunc,Sem.run_bind,run_program,Result.andThen_ok,i7,mu,ol,auR,avq,Sem.run_pure]
  have jv:(Array.ofFn (n:=dv.length) id).size=dv.length:=by simp
  have ae1:∀(p:Nat) (au:p<dv.length),(Array.ofFn (n:=dv.length) id)[p]! = ⟨p,au⟩:=λp au=>by
   rw[getElem!_pos _ p (by simpa using au)];simp
  have UN:∀(d:Array (Fin dv.length)) (j:Nat),j<d.size*12->(flatK (uq dv vs) 12 d)[j]! = ((uq dv vs d[j/12]!)[j%12]!):=λd j Z=>get_flatK _ _ _ _ Z
  have Fs:=AnyQ.slices_SortFunc Tryz.laysSlF0_f350 12 (λw=>by kernel_rfl) (λw=>by kernel_rfl) (uq dv vs) (UM dv vs) (λp aj ao=>by
    obtain⟨c,NC⟩:=aub.1 ao;have ae2:c<12:=by have:=e8 NC;rwa [UM]at this
    obtain⟨d,ae3,_,_,_,hI,sW⟩:=NB hcells p ae2
    rw[sW]at NC;cases NC;exact hI)
   (λx y=>Lib.compareBytes (dv[x.1]).name (dv[y.1]).name) (UC λx:Fin dv.length=>(dv[x.1]).name) 351 #[] b 0 cap (Array.ofFn (n:=dv.length) id) w Ny
   (λm os aeT aeU x y=>aeM ⟨⟨(dv[x.1]).name⟩⟩ ⟨⟨(dv[y.1]).name⟩⟩ _ _ _ _ _ _ _ _ _ _ _ _ _ _ _ _ _ _ _ _ _ _ _)
   (λj Z=>by
    rw[size_flatK,jv]at Z;have au:j/12<dv.length:=atv
    obtain⟨d,aj,_,cC,_,_,sW⟩:=NB hcells ⟨j/12,au⟩ (c:=j%12) atv;have gl:j/12*12+j%12=j:=atv
    rw[gl]at cC;refine⟨?_,by simp[World.frozen?,G]⟩;rw[UN _ j (by rw[jv];exact Z),ae1 _ au];simp only[World.cell?,G,aut,id];rw[cC];congr 1
    simp[sW,List.getElem!_eq_getElem?_getD]) (hR G) (by rw[jv];omega)
  subst W;have hsz:(dv.map aH).length=(Array.ofFn (n:=dv.length) id).size:=by simp
  have eK:∀(xs:List D),aI.ec (.row (.slice (some ⟨b,0,none⟩) (dv.map aH).length cap) xs 12 44) b:=λxs=>⟨_,cap,rfl,hcap⟩;have uo:=hH.cJ 2001 _ b rfl (eK _);rw[hsz]at eK⊢;refine Fs.mono ?_;rintro e w' ⟨rfl,d',m,os,au,hs,rfl⟩;obtain⟨hg,_,pz⟩:=au;have ae4:d'.size=dv.length:=by rw[hg,jv]
  have aZ:c7 (λx=>x=b) w C (sortWorldK (uq dv vs) 12 w b 0 m d' os) C:=c7.IF id w C b 0 m (flatK (uq dv vs) 12 d') os c6;have ae5:(sortWorldK (uq dv vs) 12 w b 0 m d' os).heap[b]?=some (.cells (putCells id 0 (flatK (uq dv vs) 12 d') vs) 44 (0,0)):=IE id w b 0 m (flatK (uq dv vs) 12 d') os G
  have IL:∀{s o} (l:aI),aK [(2001,l)] s=some o->s=2001/\o=l:=λ{s o} l h=>by
   simp only[aK]at h
   cases h1:Nat.beq s 2001 with
   |true=>rw[h1]at h;cases h;exact⟨aua h1,rfl⟩
   |false=>rw[h1]at h;cases h
  have ae6:d'.toList.Perm (List.finRange dv.length):=by
   have bT:(d'.extract 0 (Array.ofFn (n:=dv.length) id).size).toList=d'.toList:=by rw[<-hg];simp
   have b0:((Array.ofFn (n:=dv.length) id).extract 0 (Array.ofFn (n:=dv.length) id).size).toList=List.finRange dv.length:=by
    simp only[Array.extract_size,Array.toList_ofFn];rfl
   rw[bT,b0]at pz;exact pz
  have ae7:(List.finRange dv.length).map (λp=>dv[p.1])=dv:=by
   apply au2;intro j;by_cases Z:j<dv.length
   ·simp[Z]
   simp[atT (Nat.le_of_not_lt Z)];omega
  refine⟨.tuple #[],.bl [],C,_,rfl,⟨rfl,d'.toList.map (λp=>dv[p.1]),?_,?_,rfl⟩,.bl [] [] rfl (λi d v N _=>by simp at N),?_,⟨λs o ag=>?_,λs bp o bI x aX h1 z ao cS=>?_,λs o x ag ao=>?_⟩⟩
  ·have:=ae6.map λp=>dv[p.1]
   rwa [ae7]at this
  ·intro i j hi Z d7;have l6:i<d'.size:=by simpa using hi
   have gl:j<d'.size:=by simpa using Z
   have eV:=hs i j (at7 _) d7 (by rw[<-hg];exact gl);rw[Nu λx:Fin dv.length=>(dv[x.1]).name]at eV;rw[getElem!_pos d' j gl,getElem!_pos d' i l6]at eV;simpa using eV
  ·exact⟨aZ.ext,aZ.os,aZ.tape,aZ.output,λx F bJ=>aZ.iE x F λe=>by subst e;exact bJ uo⟩
  ·obtain⟨rfl,rfl⟩:=IL _ ag;have fA:∀x∈(d'.toList.map (λp=>dv[p.1])).map aH,x.cells.length=12:=λx F=>by obtain⟨y,_,rfl⟩:=at3.1 F;rfl
   refine⟨some ⟨b,0,none⟩,cap,by simp[ae4],by simp at hc⊢;omega,hm,fA,λdF gg=>⟨b,by cases gg;rfl,auy (hR G) aZ.ext.size⟩,
    λ_=>⟨b,_,rfl,ae5,ayA,c6,λj d N=>?_⟩⟩
   have Z:j<d'.size*12:=by have:=e8 N;rw[pP fA]at this;simpa using this
   have I:j/12<d'.size:=atv
   have AC:j<vs.size:=by rw[fM];simp at hc;omega
   have F:((d'.toList.map (λp=>dv[p.1])).map aH)[j/12]?=some (aH dv[(d'[j/12]).1]):=by simp[I]
   have ae8:j/12*12+j%12=j:=atv
   have r6:=wF fA F (j:=j%12) atv;rw[ae8,N]at r6;obtain⟨d2,aj,a_,cC,eV,fZ,hI⟩:=NB hcells d'[j/12] (c:=j%12) atv;rw[a_]at r6;cases r6
   refine⟨aj,?_,eV.ext aZ.ext,fZ⟩;simp only[putCells,awA,avd AC,au8,at7,true_and,aut,size_flatK,Z,auT,Nat.sub_zero,id];rw[UN d' j Z,getElem!_pos d' _ I];simp[hI,List.getElem!_eq_getElem?_getD]
  ·obtain⟨rfl,rfl⟩:=IL _ h1;obtain⟨rfl,rfl⟩:=IL _ z;exact aX rfl
  obtain⟨rfl,rfl⟩:=IL _ ag;obtain⟨h5,vg,fZ,_⟩:=ao;have:=pa fZ;subst this
  exact .inl uo
variable{i j:Nat}
theorem sc{l:List ad}(h:gP l)(d7:i<j)(Z:j<l.length):Op.bytesLess (l[i]' atv).name (l[j]).name=true:=by have:=aeL h d7 Z;simpa[List.getD,Z,show i<l.length by omega]using this
theorem ae9{l:List ad}(h:gP l):l.Pairwise λa b=>Op.bytesLess b.name a.name=false :=
 auG.2 λi j hi Z d7=>Fk (sc h d7 Z)
theorem ND{l hV:List ad}(h:gP l)(au:hV.Perm l)(hs:∀(i j:Nat) (hi:i<hV.length) (Z:j<hV.length),i<j->Op.bytesLess (hV[j]).name (hV[i]).name=false):hV=l:=by refine awd (le:=λa b=>Op.bytesLess b.name a.name=false) (λa b ha G h1 z=>?_) (auG.2 λi j hi Z d7=>hs i j hi Z d7) (ae9 h) au;have mu:=w9 _ _ z h1;obtain⟨i,hi,rfl⟩:=auh.1 (au.subset ha);obtain⟨j,Z,rfl⟩:=auh.1 G;rcases awb i j with e|e|e;exact absurd mu (s_ (sc h e Z));subst e;rfl;exact absurd mu.symm (s_ (sc h e hi))
variable{J:List ad}
theorem ae_(h:gP J){l:List (Fin J.length)}(au:l.Perm (List.finRange J.length))(hs:∀(i j:Nat) (hi:i<l.length) (Z:j<l.length),i<j->Op.bytesLess (J[l[j].1]).name (J[l[i].1]).name=false):l=List.finRange J.length:=by refine awd (le:=λa b=>Op.bytesLess (J[b.1]).name (J[a.1]).name=false) (λa b ha G h1 z=>?_) (auG.2 λi j hi Z d7=>hs i j hi Z d7) ((List.pairwise_lt_finRange _).imp λ{a b} qL=>Fk (sc h qL b.2)) au;have mu:=w9 _ _ z h1;rcases awb a.1 b.1 with e|e|e;exact absurd mu (s_ (sc h e b.2));exact Fin.ext e;exact absurd mu.symm (s_ (sc h e a.2))
def es(n:Nat):List D:=(List.range n).map λi=>u (i:Nat)
theorem NE(n:Nat):(List.finRange n).map (λx=>encI x.1)=es n:=by apply au2;intro j;by_cases Z:j<n;simp[es,encI,Z];rw[atT atw,atT (by simp[es];omega)]
theorem UO(J:List ad)(h:gP J)(hlen:J.length<1000000)(dY:Nat)(v:Value): cV B 253 [.an v,.fn (.func 254) [] [.box 2000 dY 0]] (aK [(2001,.row v (es J.length) 1 3),(2000,.box dY [.Q .none 12 (J.map enc)])]) λd aM => d=.bl []/\aM=aK [(2001,.row v (es J.length) 1 3),(2000,.box dY [.Q .none 12 (J.map enc)])]:=by by_cases h0:0<J.length;have hc:=UE (B:=B) J h0 hlen dY v (List.finRange J.length) (by simpa using h0) (by simpa using hlen);rw[NE]at hc;refine hc.mono ?_;rintro d aM ⟨rfl,kX,au,hs,rfl⟩;rw[ae_ h au hs,NE];exact⟨rfl,rfl⟩;(have av:J.length=0:=by omega);rw[av];exact UD v _ _
variable{f:FuncId}{ds:List D}{a6:D->bF->Prop}{k:Nat}
theorem _root_.Go.bS.c8.UP{H:bF}{o:aI}(h:H s=some o)(hc:cV B f ds (aK [(k,o)]) a6):cV B f ds (gA H [(k,s)]) a6:=axz
theorem ae':∀(l:List Int),l.length<=3->l.Pairwise (·<=·)->(Lib.compact l).Pairwise (·<·)/\∀x,x∈Lib.compact l↔x∈l
 |[],_,_=>by simp[Lib.compact,Lib.compactUpTo]
 |[a],_,_=>by simp[Lib.compact,Lib.compactUpTo,Lib.keeps,ave]
 |[a,b],_,h=>by simp at h;by_cases h1:a=b;subst h1;simp[Lib.compact,Lib.compactUpTo,Lib.keeps,ave];have:¬b=a:=λe=>h1 e.symm;simp[Lib.compact,Lib.compactUpTo,Lib.keeps,ave,auP,h1,this];omega
 |[a,b,c],_,h=>by simp at h;by_cases h1:b=a<;>by_cases z:c=b;subst h1;subst z;simp[Lib.compact,Lib.compactUpTo,Lib.keeps,ave,auP];subst h1;simp[Lib.compact,Lib.compactUpTo,Lib.keeps,ave,auP,z];omega;subst z;simp[Lib.compact,Lib.compactUpTo,Lib.keeps,ave,auP,h1];omega;simp[Lib.compact,Lib.compactUpTo,Lib.keeps,ave,auP,h1,z];omega
 |_::_::_::_::_,h,_=>by simp at h
theorem afa{a b:List Int}(ha:a.Pairwise (·<·))(G:b.Pairwise (·<·))(h:∀x,x∈a↔x∈b):a=b:=by
 have IM:a.Nodup:=ha.imp λh=>by omega
 have k4:b.Nodup:=G.imp λh=>by omega
 exact awd (le:=λx y:Int=>x<y) (λx y _ _ h1 z=>by omega) ha G ((List.perm_ext_iff_of_nodup IM k4).2 h)
theorem afb(l:List Int):(w_ l).Pairwise (·<=·):=by have:=awj (le:=λx y:Int=>decide (x<=y)) (λx y V h1 z=>by simp only[aup]at*;omega) (λx y=>by simp only[au3,aup];omega) l;exact this.imp λh=>by simpa using h
theorem afc(l:List Int)(x:Int):x∈w_ l↔x∈l:=(awK l _).mem_iff
def qj(S L:Int):List Int:=[S+256,L-256,L]
def CE(S L k:Int):Bool:=bif decide (S<=k)then decide (k<=L)else false
def qk(S L:Int)(i:Nat):List Int:=((qj S L).take i).filter (CE S L)
theorem UQ(S L:Int)(i:Nat):(qk S L i).length<=3:=by have h1:=aun (CE S L) ((qj S L).take i);rw[at4]at h1;have:(qj S L).length=3:=rfl;have z:(qk S L i).length<=_:=h1;omega
theorem afd(S L:Int)(h:i<(qj S L).length):qk S L (i+1)=qk S L i++(if CE S L ((qj S L)[i]'h)=true then[(qj S L)[i]'h]else[]):=by rw[qk,atN h,au5,<-qk,auP,List.filter_nil]
theorem afe(S L:Int)(n:Nat):(Aw S L n).Pairwise (·<·):=by rw[Aw];refine List.Pairwise.sublist List.filter_sublist ?_;rw[au_];exact(List.pairwise_lt_range).imp λh=>by omega
theorem aff{S C:Int}(h:yF S C=true):Lib.compact (w_ (qk S (S+C-1) 3))=r_ S C:=by obtain⟨h1,z,aa,aC⟩:=Nh.1 h;obtain⟨a_,cC⟩:=ae' (w_ (qk S (S+C-1) 3)) (by rw[Fv];exact UQ _ _ _) (afb _);rw[r_,atH h];refine afa a_ (afe _ _ _) λx=>?_;rw[cC,afc,qk,Aw,auz,auz,at3];(have X:CE S (S+C-1) x=true↔S<=x/\x<=S+C-1:=by unfold CE;cases eV:decide (S<=x)<;>simp at eV<;>simp<;>omega);(have hc:Iz S (S+C-1) x=true↔x=S+256\/x=S+C-1-256\/x=S+C-1:=by unfold Iz;cases eV:x==S+256<;>cases fZ:x==S+C-1-256<;>simp at eV fZ<;>simp<;>omega);rw[X,hc];(have hm:x∈(qj S (S+C-1)).take 3↔x=S+256\/x=S+C-1-256\/x=S+C-1:=by simp[qj]);rw[hm];constructor;rintro⟨eV,fZ,hI⟩;exact⟨⟨(x-S).toNat,auY.2 atv,by omega⟩,eV⟩;rintro⟨⟨j,Z,rfl⟩,eV⟩;have:=auY.1 Z;exact⟨eV,by omega,by omega⟩
def NF(S C:Int):Bool:=bif (bif (bif decide (S<0)then true else decide (C<1))then true else decide (4096<S))then true else decide (4096-S<C)
theorem UR(S C:Int):NF S C=!yF S C:=by unfold NF yF;cases h1:decide (S<0)<;>cases z:decide (C<1)<;>cases aa:decide (4096<S)<;>cases aC:decide (4096-S<C)<;>simp at h1 z aa aC<;>simp<;>omega
theorem US(S C:Int):aS B 16 [vG (S,C),.bool false] (.Q .none 1 (bn (r_ S C))):=by refine bB Tryz.func16 Tryz.ntmps16 λU=>?_;refine ch ?_;intro cc;refine p9 ?_;refine iK ?_;refine iq ?_;refine iK ?_;refine iq ?_;refine iK ?_;refine iK ?_;refine na ?_;refine .inl ⟨λh=>by simp only[dk];revert h;cases h1:decide (S<0)<;>cases z:decide (C<1)<;>cases aa:decide (4096<S)<;>simp<;>simp at h1 z aa<;>omega,?_⟩;refine go ?_;refine aJ (NF S C) rfl ?_ ?_<;>intro hc;refine go ?_;(have h:¬yF S C=true:=by rw[UR]at hc;simpa using hc);rw[r_,atG h];exact aq.nil;apply cl;(have h:yF S C=true:=by rw[UR]at hc;simpa using hc);obtain⟨h1,z,aa,aC⟩:=Nh.1 h;apply b3;(conv=>whnf);refine cT ?_;apply b3;(conv=>whnf);refine cT ?_;refine Y.l0 (α:=Unit) (λx=>[(2,.box 2 cc 0),(5,u (S+C-1)),(6,.Q .none 1 (bn (qj S (S+C-1))))]) (λx=>[(2,.box cc [u S,u C])]) ?_ ?_;apply b3;refine aJ false rfl ?_ ?_<;>intro hc;cases hc;refine go ?_;exact⟨(),[(2,2)],⟨E,E,aq.js _,ai⟩,rfl,ba⟩;rintro⟨⟩;apply b3;refine p8 ?_;refine Y.qR 1000 1 3 ?_;refine go ?_;refine Y.ed (α:={i:Nat // i<=3}×Option Addr×Nat×Nat) (λx=>[(2,.box 2 cc 0),(5,u (S+C-1)),(7,.an (.slice x.2.1 x.2.2.1 x.2.2.2)),(47,.Q .none 1 (bn (qj S (S+C-1)))),(48,u 3),(49,u x.1.1)]) (λx=>[(2,.box cc [u S,u C]),(1000,.row (.slice x.2.1 x.2.2.1 x.2.2.2) (bn (qk S (S+C-1) x.1.1)) 1 3)]) (λx=>3-x.1.1) (⟨0,by omega⟩,none,0,0) [(2,2),(1000,1000)] ⟨⟨E,E,aq.rQ,E,E,E,ai⟩,rfl,ba⟩ ?_;rintro⟨⟨i,hi⟩,bQ,cL,cap⟩;dsimp only at hi⊢;have gJ:=UQ S (S+C-1) i;have IN:(qj S (S+C-1)).length=3:=rfl;refine go ?_;refine aJ (decide ((i:Int)<3)) rfl ?_ ?_<;>intro hc;refine go ?_;(have aE:i<3:=by have:=auc hc;omega);have IO:i<(qj S (S+C-1)).length:=aE;have cW:=afd S (S+C-1) IO;(have h9:(bn (qj S (S+C-1)))[i]?=some (.int .i64 ((qj S (S+C-1))[i]'(IO))):=by rw[bn,aud,atJ IO];rfl);generalize(qj S (S+C-1))[i]'(IO)=hP at*;generalize arB:qk S (S+C-1) i=NG at*;(have fu:(bn NG).length=NG.length:=by simp[bn]);refine go ?_;refine⟨λ_=>by simp[bn];omega,?_⟩;refine go ?_;refine⟨u hP,λ_=>by rw[auq];exact h9,?_⟩;refine go ?_;refine aJ (CE S (S+C-1) hP) rfl ?_ ?_<;>intro hc;refine go ?_;refine .inr (af.pc aL 1000 rfl rfl rfl atC rfl rfl rfl (avW) (by show(_+1)*8<=_;omega) (by show _+1<=_;omega) λIP yJ IQ=>?_);refine go ?_;rw[atH hc]at cW;(have ak:bn NG++[u hP]=bn (qk S (S+C-1) (i+1)):=by rw[cW];simp[bn]);exact⟨(⟨i+1,by omega⟩,IP,yJ,IQ),[(2,2),(1000,65)],by show 3-(i+1)<3-i;omega,ar,rfl,rfl,rfl,rfl,atI (λV=>some (aI.row (.slice IP yJ IQ) V 1 3)) ak,ai⟩;refine go ?_;rw[atG (by rw[hc];decide),auK]at cW;exact⟨(⟨i+1,by omega⟩,bQ,cL,cap),[(2,2),(1000,1000)],by show 3-(i+1)<3-i;omega,ar,rfl,rfl,rfl,rfl,atI (λV=>some (aI.row (.slice bQ cL cap) (bn V) 1 3)) cW.symm,ai⟩;(have cg:i=3:=by have:=at0 hc;omega);subst cg;refine Y.Ci 1000 rfl λa3 arC W pi x'=>?_;simp only[Value.slice.injEq]at W;obtain⟨rfl,rL,rfl⟩:=W;(have AE:cL=(qk S (S+C-1) 3).length:=by rw[rL];simp[bn]);refine go ?_;refine .inr (af.call rfl [.an (.slice bQ cL cap)] [(2000,1000)] (c8.UP rfl (aeW (qk S (S+C-1) 3) bQ cL cap AE atv)) rfl ar ?_);rintro d aM ⟨rfl,rfl⟩;refine⟨_,E,?_⟩;refine qU ?_;refine .inr (af.call rfl [.an (.slice bQ cL cap)] [(2000,1000)] (c8.UP rfl (aeY (w_ (qk S (S+C-1) 3)) bQ cL cap (by rw[Fv];exact AE) (by rw[Fv];omega))) rfl ar ?_);rintro d aM ⟨m,hm,rfl,rfl⟩;rw[aff h];refine rT ?_;refine Y.fd [(4,.an (.slice bQ m cap))] [(1000,.row (.slice bQ m cap) (bn (r_ S C)) 1 3)] [(1000,1000)] ⟨ar,rfl,ba⟩ ?_;refine Y.vv 1000 4 rfl ?_;refine go ?_;exact E
theorem UT(m:e2)(S C:Int):aS B 39 [hW m,vG (S,C)] (.Q .none 1 (bn (kJ m S C))):=by refine bB Tryz.func39 Tryz.ntmps39 λU=>?_;refine go ?_;intro cc;refine go ?_;intro eD;refine go ?_;refine br (r7 m.e3 3 aty) ?_;refine aJ (!hX m.e3 3) rfl ?_ ?_<;>intro hc;refine go ?_;rw[kJ,atG (by simpa using hc)];exact aq.nil;refine go ?_;refine br (US S C) ?_;rw[kJ,atH (by simpa using hc)];exact E
structure cM where
 path:atE
 start:Int
 len:Int
def bg(f:cM):D:=.agg [.O f.path,u f.start,u f.len]
structure mK where
 S:Int
 C:Int
 iS:Int
 iC:Int
 kind:Int
 opn:Bool
 uS:Int
 uC:Int
 recg:Int
 AF:Int
 pC:Int
 jf:List Int
 commit:Int
 spS:Int
 spC:Int
 files:List cM
def lB(l:mK):D:=.agg [u l.S,u l.C,u l.iS,u l.iC,u l.kind,.bool l.opn,u l.uS,u l.uC,u l.recg,u l.AF,u l.pC,.Q .none 1 (bn l.jf),u l.commit,u l.spS,u l.spC,.Q .none 3 (l.files.map bg)]
theorem NH{l:List cM}(h:i<l.length):(l.map bg)[((i:Int)).toNat]?=some (bg l[i]):=by simp[h]
theorem UU{l:List Int}(h:i<l.length):(bn l)[((i:Int)).toNat]?=some (.int .i64 l[i]):=by simp[bn,h]
theorem UV(m:e2)(S C:Int):(kJ m S C).length<=C.toNat:=by unfold kJ;split;unfold r_;split;exact aee _ _ _;simp;simp
theorem afg{m:e2}{S C b:Int}(h:b∈kJ m S C):S<=b/\b<=8192:=by unfold kJ at h;split at h;unfold r_ at h;split at h;rename_i h1 z;obtain⟨aa,aC,a_,cC⟩:=Nh.1 z;rw[Aw,auz,at3]at h;obtain⟨⟨j,Z,rfl⟩,_⟩:=h;have:=auY.1 Z;omega;cases h;cases h
end Go.bS.cp

namespace Go.bS.cp
open Go Go.Proofs Go.RowKit Go.ChangeShapes Go.Deep Go.WideShapes Go.ChangeAt
open YtfnpcdbnoggloaaGreatDoor (Rows.uptoBulk Rows.uptoBulkAll)
variable{H:Type}{ew:TypeId×Value->H}{bo:World}
abbrev h'(d:DataW H):Nat:=YtfnpcdbnoggloaaGreatDoor.Rows.uptoBulk d
abbrev AG(d:List (DataW H)):Nat:=YtfnpcdbnoggloaaGreatDoor.Rows.uptoBulkAll d
theorem UW{α:Type}{m:α->Nat}{c:Nat}:∀{l:List α} {ds:List (DataW H)},ds.length=l.length->(∀(i:Nat) a y,l[i]?=some a->ds[i]?=some y->m a<=c*h' y)->(l.map m).sum<=c*AG ds
 |[],[],_,_=>by simp
 |a::l,y::ds,al,h=>by have h1:=h 0 a y rfl rfl;have z:=UW (l:=l) (ds:=ds) (by simpa using al) λi a y aa aC=>h (i+1) a y (by simpa using aa) (by simpa using aC);(have aa:c*AG (y::ds)=c*h' y+c*AG ds:=by simp only[AG,h',YtfnpcdbnoggloaaGreatDoor.Rows.uptoBulkAll,Nat.mul_add]);rw[aa,aum,aw0];omega
variable{α:Type}
theorem IR{m:α->Nat}{c:Nat}{l:List α}{d:DataW H}(h:So (λa y=>m a<=c*h' y) l d):(l.map m).sum<=c*h' d:=by rcases h with⟨rfl,rfl⟩|⟨ds,p4,rfl,al,aT⟩;simp;have:=UW al aT;(have aa:c*h' (.slice ds p4)=c*AG ds+c*AG p4+c*1:=by simp only[AG,h',YtfnpcdbnoggloaaGreatDoor.Rows.uptoBulk,Nat.mul_add]);rw[aa];omega
theorem UX:∀l:List nH,l_ l=(l.map λs=>2+s.name.length+s.target.length).sum
 |[]=>rfl
 |s::r=>by simp only[l_,aum,aw0,UX r]
theorem UY:∀l:List ad,eF l=(l.map λn=>2*n.name.length+2+aB n).sum
 |[]=>by simp[eF]
 |s::r=>by simp only[eF,aum,aw0,UY r]
theorem afh(n:Nat):e0 ew Tryz.prog bo n 147 c5 (λs d=>2+s.name.length+s.target.length<=1*h' d):=by intro aA x h;obtain⟨xs,m,rfl,F,im,hQ,M⟩:=Ev Tryz.underlying147 atA atA h;match aA,im,xs,hQ with|[ia,ek],_,[nN,ot],_ =>obtain⟨gN,gC,l3,_⟩:=e0.O (enc:=ew) (bo:=bo) (n:=m) Tryz.underlying9 [ia] nN (M 0 _ ia nN rfl rfl rfl);obtain⟨e9,jg,bT,_⟩:=e0.O (enc:=ew) (bo:=bo) (n:=m) Tryz.underlying9 [ek] ot (M 1 _ ek ot rfl rfl rfl);refine⟨⟨gN,e9⟩,.cons gC.head (.cons jg.head (.nil _ _)),?_⟩;rw[F];simp only[aum,avp,l3,bT,h',YtfnpcdbnoggloaaGreatDoor.Rows.uptoBulk,YtfnpcdbnoggloaaGreatDoor.Rows.uptoBulkAll];omega
theorem UZ:∀(bD n:Nat),n<bD->e0 ew Tryz.prog bo n 44 enc (λs d=>2*s.name.length+2+aB s<=2*h' d)
 |0,n,av=>absurd av (avf _)
 |bD+1,n,av=>by intro aA x h;obtain⟨xs,m,rfl,F,im,hQ,M⟩:=Ev Tryz.underlying44 atA atA h;match aA,im,xs,hQ with|[ia,ek,dq,k9,ou,pB,sd,se,vO,vP,mL,vQ],_,[nN,ot,ql,s',ur,us,Fw,Fx,U0,U1,U2,U3],_ =>obtain⟨gN,gC,l3,_⟩:=e0.O (enc:=ew) (bo:=bo) (n:=m) Tryz.underlying9 [ia] nN (M 0 _ ia nN rfl rfl rfl);obtain⟨e9,jg,bT,_⟩:=e0.int (enc:=ew) (bo:=bo) (n:=m) Tryz.underlying3 [ek] ot (M 1 _ ek ot rfl rfl rfl);obtain⟨gz,ki,b0,_⟩:=e0.O (enc:=ew) (bo:=bo) (n:=m) Tryz.underlying9 [dq] ql (M 2 _ dq ql rfl rfl rfl);obtain⟨ir,k_,j',_⟩:=e0.O (enc:=ew) (bo:=bo) (n:=m) Tryz.underlying9 [k9] s' (M 3 _ k9 s' rfl rfl rfl);obtain⟨AH,nj,z',_⟩:=e0.int (enc:=ew) (bo:=bo) (n:=m) Tryz.underlying3 [ou] ur (M 4 _ ou ur rfl rfl rfl);obtain⟨AI,q8,B2,_⟩:=e0.int (enc:=ew) (bo:=bo) (n:=m) Tryz.underlying3 [pB] us (M 5 _ pB us rfl rfl rfl);obtain⟨Fy,yK,EB,_⟩:=e0.int (enc:=ew) (bo:=bo) (n:=m) Tryz.underlying3 [sd] Fw (M 6 _ sd Fw rfl rfl rfl);obtain⟨Fz,CF,FA,_⟩:=e0.int (enc:=ew) (bo:=bo) (n:=m) Tryz.underlying3 [se] Fx (M 7 _ se Fx rfl rfl rfl);obtain⟨NI,afi,afj,_⟩:=e0.int (enc:=ew) (bo:=bo) (n:=m) Tryz.underlying3 [vO] U0 (M 8 _ vO U0 rfl rfl rfl);obtain⟨NJ,afk,afl,_⟩:=e0.int (enc:=ew) (bo:=bo) (n:=m) Tryz.underlying3 [vP] U1 (M 9 _ vP U1 rfl rfl rfl);obtain⟨ah,afm,afn⟩:=e0.slice (enc:=ew) (bo:=bo) (i_:=m) Tryz.underlying41 (k:=12) (f:=enc) atA atv (λa=>by rw[rV];exact⟨rfl,rfl⟩) (λwN t6=>UZ bD wN atv) [mL] U2 (M 10 _ mL U2 rfl rfl rfl);obtain⟨cE,afo,TN⟩:=e0.slice (enc:=ew) (bo:=bo) (i_:=m) Tryz.underlying42 (k:=2) (f:=c5) atA atv (λa=>⟨rfl,rfl⟩) (λwN _=>afh wN) [vQ] U3 (M 11 _ vQ U3 rfl rfl rfl);refine⟨⟨gN,e9,gz,ir,AH,AI,Fy,Fz,NI,NJ,ah,cE⟩,?_,?_⟩;rw[rV];exact .cons gC.head (.cons jg.head (.cons ki.head (.cons k_.head (.cons nj.head (.cons q8.head (.cons yK.head (.cons CF.head (.cons afi.head (.cons afk.head (.cons afm.head (.cons afo.head (.nil _ _))))))))))));have sW:=IR afn;have rY:=IR TN;rw[<-UY]at sW;rw[<-UX]at rY;rw[F];dsimp only;rw[l'];simp only[aum,avp,l3,bT,b0,j',z',B2,EB,FA,afj,afl,h',YtfnpcdbnoggloaaGreatDoor.Rows.uptoBulk,YtfnpcdbnoggloaaGreatDoor.Rows.uptoBulkAll]at sW rY⊢;omega
variable{v:Value}
theorem afp{d:DataW H}{p:List MemPlace}{base:Nat}(W:Value.okWide Tryz.prog bo .any base 44 v)(h:DataW.Trod ew Tryz.prog bo 0 (λ_=>true) true 44 v d p): ∃n:ad,bf bo (tX bo) (aH n) v/\2*n.name.length+2+aB n<=2*h' d:=by obtain⟨i_,M⟩:=h;obtain⟨aA,rfl,_⟩:=okWide_struct Tryz.underlying44 W;obtain⟨n,ae,aT⟩:=UZ (ew:=ew) (bo:=bo) _ i_ (auw _) _ _ M;rw[rV]at ae;obtain⟨l⟩:=aA;exact⟨n,.agg _ _ ae.1 ae.2,aT⟩
variable{ds:List D}
theorem afq{f:Nat}{args:Array Value}(h:m0 Tryz.prog bo f ds (.bool true))(ae:db bo (tX bo) ds args.toList): Calls Tryz.prog f args bo λe w'=>e=.returned (.bool true)/\Below bo.heap.size bo w':=by obtain⟨l⟩:=args;refine(h.2 bo (tX bo) l (Below.refl _ _) ae).mono ?_;rintro e w' ⟨v,aO,rfl,W,hs⟩;rw[W.h4];exact⟨rfl,pR.step (Below.refl _ _) hs λ_ h=>h.elim⟩
theorem afr:laidOutB Tryz.prog=true:=by kernel_rfl
theorem U4{ja:World}(G:Below bo.heap.size bo ja){p4:Nat->Bool}:∀{CG:List TypeId} {vs:List Value} {ds:List (DataW H)} {bP:List MemPlace},(∀t∈CG,Tryz.prog.readableRec t=true/\t<Tryz.prog.types.size)->DataW.TrodAll ew Tryz.prog bo 0 (λ_=>true) true CG vs ds bP->(∀x∈bP,x.block<bo.heap.size)->(∀x∈bP,p4 x.block=true)->DataW.TrodAll ew Tryz.prog ja 0 p4 true CG vs ds bP
 |[],[],[],_,_,h,_,_=>h
 |t::CG,v::vs,d::ds,_,ax,⟨p,q,h1,z,e⟩,bi,k2=>by subst e;exact⟨p,q,acs afr (ax t atS).1 (ax t atS).2 h1 G (λx F=>bi x (by simp[F])) p4 (λx F=>k2 x (by simp[F])),U4 G (λt h=>ax t (atU _ h)) z (λx F=>bi x (by simp[F])) (λx F=>k2 x (by simp[F])),rfl⟩
def NK:List (String×DataW Unit):=YtfnpcdbnoggloaaGreatDoor.Rows.layoutSpansRow.laid
theorem afs(aV:laidMetH Tryz.prog NK bo)(i1:bo.ShapedOpen Tryz.prog):dc bo:=by have NL:laidMet Tryz.prog NK bo:=aV;refine⟨utf8Tabs_of_reads (ρ:=Tryz.lays260_ren) Tryz.lays260 ⟨by kernel_rfl,by kernel_rfl,by kernel_rfl,by kernel_rfl,by kernel_rfl,by kernel_rfl,by kernel_rfl⟩ (Lib.laidMet.reads NL (.tail _ (.tail _ (.tail _ (.tail _ (.head _)))))) (Lib.laidMet.reads NL (.tail _ (.tail _ (.tail _ (.head _))))),?_,?_⟩;obtain⟨h1,_⟩:=i1;obtain⟨aA,hcs,hsz,dN⟩:=h1 0 #[.int .i64 0] 3 atz atA;obtain⟨CG,Uk,_,gd⟩:=dN atA;(have aft:CG=[3]:=by(have:Tryz.prog.cellTypes Tryz.prog.depth 3=some [3]:=by kernel_rfl);exact auA (Uk.symm.trans this));subst aft;have h0:aA[0]?=some (aA[0]'(by rw[hsz];decide)):=avd _;obtain⟨aj,ao,cv⟩:=gd 0 _ h0;(have cS:aj=3:=by simpa using ao.symm);subst cS;(have hc:bo.cell? ⟨0,0,none⟩=some (aA[0]'(by rw[hsz];decide)):=by simp only[World.cell?,hcs];simpa using h0);generalize aA[0]'(by rw[hsz];decide)=v at cv hc;unfold Cell.ok at cv;rw[Tryz.underlying3]at cv;(cases v with|int k n=>obtain⟨rfl,_⟩:=cv;exact⟨n,hc⟩|_=>exact cv.elim);exact Lib.tabIs_of_head (rest:=_) (g:=3) (t:=423) (e:=190) (n:=20) atA atA atA atA atA atA NL.tail.tail
structure afu where
 name:atE
 set:atE
 pr:atE
 ps:atE
 l9:atE
 Cw:Int
 Cx:Int
 fl:Int
def afv(v:afu):D:=.agg [.O v.name,.O v.set,.O v.pr,.O v.ps,.O v.l9,u v.Cw,u v.Cx,u v.fl]
theorem U5(d:DataW H):1<=h' d:=by cases d with|lit l=>cases l<;>simp[h',YtfnpcdbnoggloaaGreatDoor.Rows.uptoBulk]|_=>simp[h',YtfnpcdbnoggloaaGreatDoor.Rows.uptoBulk]
theorem afw(n:Nat):e0 ew Tryz.prog bo n 140 pq (λ_ d=>2<=1*h' d):=by intro aA x h;obtain⟨xs,m,rfl,F,im,hQ,M⟩:=Ev Tryz.underlying140 atA atA h;match aA,im,xs,hQ with|[ia,ek,dq,k9,ou,pB],_,[nN,ot,ql,s',ur,us],_ =>obtain⟨gN,gC,_⟩:=e0.O (enc:=ew) (bo:=bo) (n:=m) Tryz.underlying9 [ia] nN (M 0 _ ia nN rfl rfl rfl);obtain⟨e9,jg,_⟩:=e0.int (enc:=ew) (bo:=bo) (n:=m) Tryz.underlying3 [ek] ot (M 1 _ ek ot rfl rfl rfl);obtain⟨gz,ki,_⟩:=e0.int (enc:=ew) (bo:=bo) (n:=m) Tryz.underlying3 [dq] ql (M 2 _ dq ql rfl rfl rfl);obtain⟨ir,k_,_⟩:=e0.int (enc:=ew) (bo:=bo) (n:=m) Tryz.underlying3 [k9] s' (M 3 _ k9 s' rfl rfl rfl);obtain⟨AH,nj,_⟩:=e0.int (enc:=ew) (bo:=bo) (n:=m) Tryz.underlying3 [ou] ur (M 4 _ ou ur rfl rfl rfl);obtain⟨AI,q8,_⟩:=e0.bool (enc:=ew) (bo:=bo) (n:=m) Tryz.underlying4 [pB] us (M 5 _ pB us rfl rfl rfl);refine⟨⟨gN,e9,gz,ir,AH,AI⟩,.cons gC.head (.cons jg.head (.cons ki.head (.cons k_.head (.cons nj.head (.cons q8.head (.nil _ _)))))),?_⟩;rw[F];simp only[h',YtfnpcdbnoggloaaGreatDoor.Rows.uptoBulk,aum,YtfnpcdbnoggloaaGreatDoor.Rows.uptoBulkAll];have a_:=U5 nN.1;simp only[h']at a_;omega
theorem afx(n:Nat):e0 ew Tryz.prog bo n 31 afv (λv d=>v.name.length+v.set.length+v.pr.length+v.ps.length+v.l9.length<=h' d):=by intro aA x h;obtain⟨xs,m,rfl,F,im,hQ,M⟩:=Ev Tryz.underlying31 atA atA h;match aA,im,xs,hQ with|[ia,ek,dq,k9,ou,pB,sd,se],_,[nN,ot,ql,s',ur,us,Fw,Fx],_ =>obtain⟨gN,gC,l3,_⟩:=e0.O (enc:=ew) (bo:=bo) (n:=m) Tryz.underlying9 [ia] nN (M 0 _ ia nN rfl rfl rfl);obtain⟨e9,jg,bT,_⟩:=e0.O (enc:=ew) (bo:=bo) (n:=m) Tryz.underlying9 [ek] ot (M 1 _ ek ot rfl rfl rfl);obtain⟨gz,ki,b0,_⟩:=e0.O (enc:=ew) (bo:=bo) (n:=m) Tryz.underlying9 [dq] ql (M 2 _ dq ql rfl rfl rfl);obtain⟨ir,k_,j',_⟩:=e0.O (enc:=ew) (bo:=bo) (n:=m) Tryz.underlying9 [k9] s' (M 3 _ k9 s' rfl rfl rfl);obtain⟨AH,nj,z',_⟩:=e0.O (enc:=ew) (bo:=bo) (n:=m) Tryz.underlying9 [ou] ur (M 4 _ ou ur rfl rfl rfl);obtain⟨AI,q8,B2,_⟩:=e0.int (enc:=ew) (bo:=bo) (n:=m) Tryz.underlying3 [pB] us (M 5 _ pB us rfl rfl rfl);obtain⟨Fy,yK,EB,_⟩:=e0.int (enc:=ew) (bo:=bo) (n:=m) Tryz.underlying3 [sd] Fw (M 6 _ sd Fw rfl rfl rfl);obtain⟨Fz,CF,FA,_⟩:=e0.int (enc:=ew) (bo:=bo) (n:=m) Tryz.underlying3 [se] Fx (M 7 _ se Fx rfl rfl rfl);refine⟨⟨gN,e9,gz,ir,AH,AI,Fy,Fz⟩,.cons gC.head (.cons jg.head (.cons ki.head (.cons k_.head (.cons nj.head (.cons q8.head (.cons yK.head (.cons CF.head (.nil _ _)))))))),?_⟩;rw[F];simp only[aum,avp,l3,bT,b0,j',z',B2,EB,FA,h',YtfnpcdbnoggloaaGreatDoor.Rows.uptoBulk,YtfnpcdbnoggloaaGreatDoor.Rows.uptoBulkAll];omega
theorem afy(n:Nat):e0 ew Tryz.prog bo n 34 hW (λm d=>m.name.length+m.set.length+m.pr.length+m.ps.length+m.l9.length<=h' d/\2*m.gO.length<=h' d):=by intro aA x h;obtain⟨xs,m,rfl,rfl,al,hQ,M⟩:=DataW.trod_struct Tryz.underlying34 h;(have c6:Tryz.prog.cellsOf 34=13:=by kernel_rfl);(have afz:Tryz.prog.cellsOf 31=8:=by kernel_rfl);(have g3:Tryz.prog.cellsOf 3=1:=by kernel_rfl);(have afA:Tryz.prog.cellsOf 32=1:=by kernel_rfl);(have g4:Tryz.prog.cellsOf 4=1:=by kernel_rfl);match aA,al.trans c6,xs,hQ with|[ia,ek,dq,k9,ou,pB,sd,se,vO,vP,mL,vQ,AJ],_,[nN,ot,ql,s',ur,us],_ =>have h0:DataW.trod ew Tryz.prog bo 0 (λ_=>true) true m 31 (List.take (Tryz.prog.cellsOf 31) (List.drop 0 [ia,ek,dq,k9,ou,pB,sd,se,vO,vP,mL,vQ,AJ]))=some nN:=M 0 _ rfl;have h1:DataW.trod ew Tryz.prog bo 0 (λ_=>true) true m 3 (List.take (Tryz.prog.cellsOf 3) (List.drop 8 [ia,ek,dq,k9,ou,pB,sd,se,vO,vP,mL,vQ,AJ]))=some ot:=M 1 _ rfl;have z:DataW.trod ew Tryz.prog bo 0 (λ_=>true) true m 3 (List.take (Tryz.prog.cellsOf 3) (List.drop 9 [ia,ek,dq,k9,ou,pB,sd,se,vO,vP,mL,vQ,AJ]))=some ql:=M 2 _ rfl;have aa:DataW.trod ew Tryz.prog bo 0 (λ_=>true) true m 32 (List.take (Tryz.prog.cellsOf 32) (List.drop 10 [ia,ek,dq,k9,ou,pB,sd,se,vO,vP,mL,vQ,AJ]))=some s':=M 3 _ rfl;have aC:DataW.trod ew Tryz.prog bo 0 (λ_=>true) true m 3 (List.take (Tryz.prog.cellsOf 3) (List.drop 11 [ia,ek,dq,k9,ou,pB,sd,se,vO,vP,mL,vQ,AJ]))=some ur:=M 4 _ rfl;have a_:DataW.trod ew Tryz.prog bo 0 (λ_=>true) true m 4 (List.take (Tryz.prog.cellsOf 4) (List.drop 12 [ia,ek,dq,k9,ou,pB,sd,se,vO,vP,mL,vQ,AJ]))=some us:=M 5 _ rfl;rw[afz]at h0;rw[g3]at h1 z aC;rw[afA]at aa;rw[g4]at a_;obtain⟨⟨gN,e9,gz,ir,AH,AI,Fy,Fz⟩,gC,l3⟩:=afx m [ia,ek,dq,k9,ou,pB,sd,se] nN h0;obtain⟨NI,jg,bT,_⟩:=e0.int (enc:=ew) (bo:=bo) (n:=m) Tryz.underlying3 [vO] ot h1;obtain⟨NJ,ki,b0,_⟩:=e0.int (enc:=ew) (bo:=bo) (n:=m) Tryz.underlying3 [vP] ql z;obtain⟨aP,k_,j'⟩:=e0.slice (enc:=ew) (bo:=bo) (i_:=m) Tryz.underlying32 (k:=6) (f:=pq) atA atv (λa=>⟨rfl,rfl⟩) (λwN _=>afw wN) [mL] s' aa;obtain⟨afB,nj,z',_⟩:=e0.int (enc:=ew) (bo:=bo) (n:=m) Tryz.underlying3 [vQ] ur aC;obtain⟨afC,q8,B2⟩:=e0.bool (enc:=ew) (bo:=bo) (n:=m) Tryz.underlying4 [AJ] us a_;refine⟨⟨gN,e9,gz,ir,AH,AI,Fy,Fz,NI,NJ,aP,afB,afC⟩,db.append gC (.cons jg.head (.cons ki.head (.cons k_.head (.cons nj.head (.cons q8.head (.nil _ _)))))),?_⟩;have G:=IR (m:=λ_=>2) j';simp only[List.map_const',List.sum_replicate_nat,Nat.one_mul]at G;simp only[aum,avp,h',YtfnpcdbnoggloaaGreatDoor.Rows.uptoBulk,YtfnpcdbnoggloaaGreatDoor.Rows.uptoBulkAll]at l3 G⊢;constructor<;>omega
theorem afD{d:DataW H}{p:List MemPlace}{base:Nat}(W:Value.okWide Tryz.prog bo .any base 34 v)(h:DataW.Trod ew Tryz.prog bo 0 (λ_=>true) true 34 v d p): ∃m:e2,bf bo (tX bo) (hW m) v/\m.name.length+m.set.length+m.pr.length+m.ps.length+m.l9.length<=h' d/\2*m.gO.length<=h' d:=by obtain⟨i_,M⟩:=h;obtain⟨aA,rfl,_⟩:=okWide_struct Tryz.underlying34 W;obtain⟨m,ae,aT⟩:=afy (ew:=ew) (bo:=bo) i_ _ _ M;obtain⟨l⟩:=aA;exact⟨m,.agg _ _ ae.1 ae.2,aT⟩
theorem afE{k:Int}(h:(Lit.int .i64 k).wf=true):k<=9223372036854775807:=by simp[Lit.wf,IntKind.wrap,IntKind.bits,IntKind.signed]at h;omega
def qE:Int:=9223372036854775807
theorem afF(n:Nat):e0 ew Tryz.prog bo n 53 bg (λf d=>f.len<=qE/\2<=1*h' d):=by intro aA x h;obtain⟨xs,m,rfl,F,im,hQ,M⟩:=Ev Tryz.underlying53 atA atA h;match aA,im,xs,hQ with|[ia,ek,dq],_,[nN,ot,ql],_ =>obtain⟨gN,gC,l3,_⟩:=e0.O (enc:=ew) (bo:=bo) (n:=m) Tryz.underlying9 [ia] nN (M 0 _ ia nN rfl rfl rfl);obtain⟨e9,jg,bT,NM⟩:=e0.int (enc:=ew) (bo:=bo) (n:=m) Tryz.underlying3 [ek] ot (M 1 _ ek ot rfl rfl rfl);obtain⟨gz,ki,b0,gQ⟩:=e0.int (enc:=ew) (bo:=bo) (n:=m) Tryz.underlying3 [dq] ql (M 2 _ dq ql rfl rfl rfl);refine⟨⟨gN,e9,gz⟩,.cons gC.head (.cons jg.head (.cons ki.head (.nil _ _))),afE gQ,?_⟩;rw[F];have:=U5 nN.1;simp only[h',YtfnpcdbnoggloaaGreatDoor.Rows.uptoBulk,aum,YtfnpcdbnoggloaaGreatDoor.Rows.uptoBulkAll]at*;omega
theorem afG{d:DataW H}{p:List MemPlace}{base:Nat}(W:Value.okWide Tryz.prog bo .any base 27 v)(h:DataW.Trod ew Tryz.prog bo 0 (λ_=>true) true 27 v d p): ∃l:List cM,bf bo (tX bo) (.Q .none 3 (l.map bg)) v/\2*l.length<=h' d/\∀g∈l,g.len<=qE:=by obtain⟨i_,M⟩:=h;obtain⟨a,n,c,rfl⟩:=okWide_slice Tryz.underlying27 W;obtain⟨l,ae,aT⟩:=e0.slice (enc:=ew) (bo:=bo) (i_:=i_) (f:=bg) (k:=3) Tryz.underlying27 atA atv (λa=>⟨rfl,rfl⟩) (λm _=>afF m) _ _ M;have G:=IR (m:=λ_=>2) (c:=1) (by rcases aT with h|⟨ds,p4,h1,z,aa⟩;exact .inl h;exact .inr ⟨ds,p4,h1,z,λi a y aC a_=>(aa i a y aC a_).2⟩);simp only[List.map_const',List.sum_replicate_nat,Nat.one_mul]at G;refine⟨l,ae.head,by omega,λg U6=>?_⟩;rcases aT with⟨rfl,_⟩|⟨ds,p4,h1,z,aa⟩;cases U6;obtain⟨i,hi,rfl⟩:=auh.1 U6;exact(aa i l[i] (ds[i]' atv) (atJ hi) (atJ _)).1
theorem own:ownKnob Tryz.prog.godebug=none:=by kernel_rfl
noncomputable def NN(os:Os):World :=
 let w0:=World.holding Tryz.prog os ⟨#[],#[],[]⟩
 let put (h:Array Obj) (g:Nat) (aA:Array Value):Array Obj:=h.modify g fun
  |.cells _ t frozen=>.cells aA t frozen
  |o=>o
 let h1:=put w0.heap 1 (Lib.firstTab.map λV=>Value.int .u8 V).toArray
 let z:=put h1 2 ((List.range 16).flatMap λi=>[Value.int .u8 (Lib.accLo i),Value.int .u8 (Lib.accHi i)]).toArray
 let aa:=put z 3 (Lib.pow10Tab.map λV=>Value.int .u64 V).toArray
 let aC:=put aa 4 ([0,1,28,2,29,14,24,3,30,22,20,15,25,17,4,8,31,27,13,23,21,19,16,7,26,12,18,6,11,5,10,9].map λV=>Value.int .u8 V).toArray
 let a_:=put aC 5 ([0,1,56,2,57,49,28,3,61,58,42,50,38,29,17,4,62,47,59,36,45,43,51,22,53,39,33,30,24,18,12,5,63,55,48,27,60,41,37,16,46,35,44,21,52,32,23,11,54,26,40,15,34,20,31,10,25,14,19,9,13,8,7,6].map λV=>Value.int .u8 V).toArray
 {w0 with heap:=a_}
theorem afH(os:Os)(args:Array Value):laidMet Tryz.prog NK ((NN os).forCall (λ_ _=>0) ⟨#[],args,[]⟩).memory :=
 laidMet_of_run' 8 atA atA
variable{B:World}
def FB(c:Int):List Int:=[IntKind.wrap .u8 (c.fdiv (2 ^ min (8:Int).toNat IntKind.i64.bits)),IntKind.wrap .u8 c]
def sf(l:List Int):List Int:=l.flatMap FB
theorem afI(l:List Int):∀x∈sf l,0<=x/\x<=255:=λx F=>by
 obtain⟨c,_,h⟩:=avx.1 F;have e:∀m,IntKind.wrap .u8 m=m%256:=λm=>by simp[IntKind.wrap,IntKind.bits,IntKind.signed]
 simp only[FB,at6,awf,awB,e]at h;rcases h with rfl|rfl<;>omega
theorem U7(l:List Int):(sf l).length=2*l.length:=by unfold sf;induction l with|nil=>rfl|cons x r aY=>rw[auJ,atO,aY,atQ];simp only[FB,atQ,auf];omega
theorem afJ(l:List Int)(c:Int):sf (l++[c])=sf l++FB c:=by simp[sf]
def fm(s:atE):atE:=if(chars s).2=0 then(sf (chars s).1).map oR else[]
theorem U8{s:atE}:(chars s).1.length<=s.length/\(chars s).1.length<=65536:=by unfold chars;split;simp;cases hc:jE s with|none=>simp|some l=>have:=Cs s.length s (atP _) l hc;simp only;omega
theorem afK(s:atE):(fm s).length<=2*s.length/\(fm s).length<=131072:=by have:=@U8 s;unfold fm;split;rw[atL,U7];omega;simp
theorem afL(aV:dc B)(s:atE)(hs:s.length<1000000):aS B 184 [.O s] (.bl [.O (fm s),u (chars s).2]):=by have afM:=M8 (B:=B) aV s atv;have im:=@U8 s;unfold fm;generalize(chars s).1=l at*;generalize(chars s).2=e at*;have fu:(fJ .i64 l).length=l.length:=atL _;refine fn Tryz.func184 Tryz.ntmps184 λU=>?_;refine go ?_;refine br afM ?_;refine cb (t:=!(e==0)) ?_ ?_<;>intro hc;rw[atG (by simpa using hc)];refine go ?_;exact ar;rw[atH (by simpa using hc)];refine go ?_;rw[fu,show(2:Int)*(l.length:Nat)=((2*l.length:Nat):Int) by omega];refine .inr (af.L_ aL (n:=2*l.length) (ce:=.i64) (dn:=.i64) rfl rfl rfl rfl rfl rfl (by show 1*(2*l.length)<=_;omega) atv λw0=>?_);(conv=>whnf);refine go ?_;rw[fu];refine gn (λx:Nat×Value=>x.1<=l.length) [21,22] [] (λx=>[(6,.Q (.own 20 x.2) 1 ((sf (l.take x.1)).map (D.int .u8))),(23,u x.1)]) (λx=>[(20,.own x.2 ((sf (l.take x.1)).map (D.int .u8)).length 1 5)]) (λx=>l.length-x.1) (0,w0) (at7 _) [(20,20)] ?_;rintro⟨k,w⟩ X;dsimp only at X⊢;refine go ?_;refine cb (t:=decide ((k:Int)<(l.length:Nat))) ?_ ?_<;>intro bw;(·(have eQ:k<l.length:=by have:=auc bw;omega);(have io:(fJ .i64 l)[k]?=some (.int .i64 l[k]):=by simp[fJ,eQ]);(have Fi:l.take (k+1)=l.take k++[l[k]]:=by rw[atN eQ]);(have hlen:(sf (l.take k)).length=2*k:=by rw[U7,at4];omega);generalize l[k]=c at*;refine go ?_;refine⟨u c,λ_=>io,?_⟩;(conv=>whnf);apply cD;(conv=>whnf);refine Ag ?_;(conv=>whnf);refine Y.S8 aL (by rfl) ?_;(conv=>whnf);(iterate 3 (refine And.intro rfl ?_;(conv=>whnf);refine Ag ?_;(conv=>whnf)));refine And.intro (λ_=>by decide) ?_;(conv=>whnf);refine And.intro rfl ?_;(conv=>whnf);refine Ag ?_;(conv=>whnf);refine .inr ?_;(conv=>whnf);refine And.intro rfl ?_;(conv=>whnf);refine Ag ?_;(conv=>whnf);refine And.intro rfl ?_;(conv=>whnf);refine Ag ?_;(conv=>whnf);refine .inr ?_;(conv=>whnf);refine go ?_;intro gQ;(conv=>whnf);refine go ?_;(have rM:(sf (l.take k)).map (D.int .u8)++(FB c).map (D.int .u8)=(sf (l.take (k+1))).map (D.int .u8):=by rw[Fi,afJ,auo]);refine eX (k+1,gQ) [(20,34)] (by dsimp only;omega) (z:=⟨⟨E,E,aq.kd rM,E,ai⟩,rfl,rfl,kG (by rw[<-rM,atO];rfl),ai⟩));(have f':k=l.length:=by have:=at0 bw;omega);subst f';refine Y.exit ?_;(conv=>whnf);refine go ?_;rw[atW];refine .inr (af.vi aL (aP:=(sf l).map oR) (tg:=.own 20 w) rfl rfl rfl rfl rfl rfl (atI (D.Q _ 1) (yB _ (afI l))) ?_);(conv=>whnf);refine go ?_;exact⟨E,dp (by simp at hc;omega),ai⟩
def kj(n:Int):Int:=(n+2048-1).tdiv 2048
def k'(n:Int):Int:=if n<=1872 then 0 else kj n
def yL(n:Int):Int:=if(bif decide (n<0)then true else decide (4096<n))=true then 0 else(n+8-1).tdiv 8*8
def NO(n:Int):Int:=(n+3).tdiv 4*4
def afN(n:Int):Bool:=bif decide (0<=n)then decide (n<4294967296)else false
def AK(n:Int):Bool:=bif decide (0<=n)then decide (n<=3)else false
theorem afO(n:Int)(h0:0<=n)(h1:n<1000000000000):aS B 314 [u n] (u (kj n)):=by refine bB Tryz.func314 Tryz.ntmps314 λU=>?_;exact axv
theorem U9(n:Int)(h0:0<=n)(h1:n<1000000000000):aS B 271 [u n] (u (k' n)):=by refine bB Tryz.func271 Tryz.ntmps271 λU=>?_;refine go ?_;refine aJ _ rfl ?_ ?_<;>intro hc;refine go ?_;rw[k',atH (by simpa using hc)];exact E;refine go ?_;refine br (afO n h0 h1) ?_;rw[k',atG (by simpa using hc)];exact E
theorem afP(n:Int):aS B 272 [u n] (u (yL n)):=by refine bB Tryz.func272 Tryz.ntmps272 λU=>?_;refine go ?_;refine aJ _ rfl ?_ ?_<;>intro hc;refine go ?_;rw[yL,atH hc];exact E;apply cl;have bw:=hc;rw[yL,atG (by rw[bw];decide)];(have h0:0<=n/\n<=4096:=by revert hc;cases h:decide (n<0)<;>simp at h⊢<;>omega);apply b3;refine vn ?_;refine⟨λ_=>by omega,?_⟩;refine go ?_;have I:(n+8-1).tdiv 8=(n+8-1)/8:=atX atv;refine go ?_;exact E
theorem afQ(n:Int)(h0:0<=n)(h1:n<1000000000000):aS B 313 [u n] (u (NO n)):=by refine bB Tryz.func313 Tryz.ntmps313 λU=>?_;apply b3;apply b3;refine ll ?_;refine⟨λ_=>by omega,?_⟩;refine go ?_;have I:(n+3).tdiv 4=(n+3)/4:=atX atv;refine go ?_;exact E
theorem U_(n:Int):aS B 354 [u n] (.bool (afN n)):=by refine bB Tryz.func354 Tryz.ntmps354 λU=>?_;refine go ?_;exact E
theorem afR(n:Int):aS B 139 [u n] (.bool (AK n)):=by refine bB Tryz.func139 Tryz.ntmps139 λU=>?_;refine go ?_;exact E
def xa(l:List Int):Int:=(l.drop 1).foldl (λm x=>if x>m then x else m) (l.headD 0)
variable{i:Nat}
theorem afS{l:List Int}(h:0<i)(hi:i<l.length):xa (l.take (i+1))=if l[i]>xa (l.take i)then l[i]else xa (l.take i):=by
 rw[xa,xa,atN hi,av0 (by rw[at4];omega),auU]
 have e:(l.take i++[l[i]]).headD 0=(l.take i).headD 0:=by
  cases l with
  |nil=>simp at hi
  |cons a r=>cases i with
   |zero=>omega
   |succ i=>rfl
 rw[e];rfl
theorem afT(l:List Int)(h0:0<l.length)(al:l.length<1000000000):aS B 352 [.Q .none 1 (fJ .i64 l)] (u (xa l)):=by refine bB Tryz.func352 Tryz.ntmps352 λU=>?_;refine ch ?_;refine Y.l0 (α:=Unit) (λx=>[(0,.Q .none 1 (fJ .i64 l))]) (λx=>[]) ?_ ?_;refine go ?_;refine aJ _ rfl ?_ ?_<;>intro hc;exfalso;simp[fJ]at hc;omega;refine go ?_;exact⟨(),[],ar,rfl,ai⟩;rintro⟨⟩;refine go ?_;refine⟨λ_=>by simp[fJ];omega,?_⟩;refine go ?_;refine⟨u l[0],λ_=>by simp[fJ,h0],?_⟩;refine go ?_;refine Y.loop (α:={i:Nat // 1<=i/\i<=l.length}) (λx=>[(0,.Q .none 1 (fJ .i64 l)),(3,u (xa (l.take x.1))),(4,u x.1)]) (λ_=>[]) (λx=>l.length-x.1) ⟨1,by omega⟩ ⟨E,aq.of_eq (atI (D.int .i64) (by cases l with|nil=>simp at h0|cons a r=>rfl)),E,ai⟩ trivial ?_;rintro⟨i,ne,hi⟩;dsimp only at hi ne⊢;refine go ?_;refine aJ (decide ((i:Int)<((fJ .i64 l).length:Nat))) rfl ?_ ?_<;>intro hc;apply cl;refine kc ?_;(have aE:i<l.length:=by simpa[fJ]using hc);refine nc ?_;refine⟨λ_=>by simp[fJ];omega,?_⟩;refine go ?_;refine⟨u l[i],λ_=>by simp[fJ,aE],?_⟩;refine go ?_;exact⟨⟨i+1,by omega,aE⟩,ayq,⟨E,aq.of_eq (atI (D.int .i64) (afS ne aE).symm),E,ai⟩,ai⟩;refine go ?_;(have cg:i=l.length:=by simp[fJ]at hc;omega);subst cg;refine go ?_;rw[atW];exact E
def vR(size:Nat)(c:Int)(k:Nat):Int:=IntKind.wrap .u8 (c.fdiv (2 ^ min (8*((size:Int)-1-(k:Int))).toNat IntKind.i64.bits))
def q9(size:Nat)(l:List Int):List Int:=(8*(size:Int))::l.flatMap λc=>(List.range size).map (vR size c)
def CH(size:Nat)(l:List Int):atE:=(q9 size l).map oR
theorem afU{size:Nat}{l:List Int}(h:i<l.length):q9 size (l.take (i+1))=q9 size (l.take i)++(List.range size).map (vR size l[i]):=by rw[q9,q9,atN h,avs];simp
theorem afV(f:Nat->Int)(k:Nat):(List.range (k+1)).map f=(List.range k).map f++[f k]:=by rw[ave,auo];rfl
theorem NP(n:Int):0<=IntKind.wrap .u8 n/\IntKind.wrap .u8 n<=255:=by unfold IntKind.wrap;dsimp only[IntKind.bits,IntKind.signed];simp only[Bool.false_and,auR,avq];omega
theorem afW{size:Nat}(hs:size=1\/size=2)(l:List Int):∀n∈q9 size l,0<=n/\n<=255:=λn av=>by
 simp only[q9,at6,avx,at3]at av;rcases av with rfl|⟨c,_,k,_,rfl⟩
 ·omega
 exact NP _
theorem U'(size:Nat):∀l:List Int,(l.flatMap λc=>(List.range size).map (vR size c)).length=l.length*size
 |[]=>by simp
 |c::r=>by rw[auJ,atO,U' size r,atL,List.length_range,atQ,avR];omega
theorem Va(size:Nat)(l:List Int):(q9 size l).length=l.length*size+1:=by rw[q9,atQ,U']
theorem afX(size:Nat)(l:List Int):(CH size l).length=l.length*size+1:=by rw[CH,atL,Va]
abbrev yM(l:List Int):List D:=l.map (D.int .u8)
theorem Vb(l:List Int)(size:Nat)(hs:size=1\/size=2)(al:l.length<1000000):aS B 353 [.Q .none 1 (fJ .i64 l),u (size:Nat)] (.O (CH size l)):=by refine bB Tryz.func353 Tryz.ntmps353 λU=>?_;apply b3;apply b3;(conv=>whnf);refine cT ?_;refine p8 ?_;refine Y.own 5 1000 1 5 rfl (λw=>?_);refine go ?_;refine Y.ed (α:={i:Nat // i<=l.length}×Value) (λx=>[(1,u (size:Nat)),(5,.Q (.own 1000 x.2) 1 (yM (q9 size (l.take x.1.1)))),(13,.Q .none 1 (fJ .i64 l)),(14,u ((fJ .i64 l).length:Nat)),(15,u x.1.1)]) (λx=>[(1000,.own x.2 (yM (q9 size (l.take x.1.1))).length 1 5)]) (λx=>l.length-x.1.1) (⟨0,by omega⟩,w) [(1000,1000)] ⟨ar,rfl,ba⟩ ?_;rintro⟨⟨i,hi⟩,w⟩;dsimp only at hi⊢;refine go ?_;refine aJ (decide ((i:Int)<((fJ .i64 l).length:Nat))) rfl ?_ ?_<;>intro hc;apply cl;(have aE:i<l.length:=by simpa[fJ]using hc);have cW:=afU (size:=size) aE;(have m_:(q9 size (l.take i)).length<=i*size+1:=by rw[Va,at4,awn hi];omega);(have RT:i*size<=2*i:=by rcases hs with rfl|rfl<;>omega);generalize q9 size (l.take i)=L at*;refine gK ?_;refine⟨λ_=>by simp[fJ];omega,?_⟩;refine go ?_;refine⟨u l[i],λ_=>by simp[fJ,aE],?_⟩;refine go ?_;refine Y.ed (α:={k:Nat // k<=size}×Value) (λx=>[(1,u (size:Nat)),(5,.Q (.own 1000 x.2) 1 (yM (L++(List.range x.1.1).map (vR size l[i])))),(7,u l[i]),(13,.Q .none 1 (fJ .i64 l)),(14,u ((fJ .i64 l).length:Nat)),(15,u i),(19,u (size:Nat)),(20,u x.1.1)]) (λx=>[(1000,.own x.2 (yM (L++(List.range x.1.1).map (vR size l[i]))).length 1 5)]) (λx=>size-x.1.1) (⟨0,by omega⟩,w) [(1000,1000)] ⟨⟨E,aq.kd atx,E,E,E,E,E,E,ai⟩,rfl,rfl,kG atx,ai⟩ ?_;rintro⟨⟨k,X⟩,w⟩;dsimp only at X⊢;refine go ?_;refine aJ (decide ((k:Int)<(size:Nat))) rfl ?_ ?_<;>intro bw;apply cl;(have iH:k<size:=by simpa using bw);have ut:=afV (vR size l[i]) k;(have Vc:(L++(List.range k).map (vR size l[i])).length<=2*i+1+k:=by simp;omega);generalize gL:L++(List.range k).map (vR size l[i])=ap at*;(have Vd:L++(List.range (k+1)).map (vR size l[i])=ap++[vR size l[i] k]:=by rw[ut,<-auj,gL]);refine kc ?_;apply b3;apply kF;refine g_ ?_;refine vn ?_;refine⟨λ_=>by omega,?_⟩;refine go ?_;refine .inr ?_;(conv=>whnf);refine nE ?_;refine⟨by simp only[yM,atL,atQ,auf];omega,by simp only[yM,atL,atQ,auf];omega,atC,λgQ=>?_⟩;refine go ?_;exact⟨(⟨k+1,iH⟩,gQ),[(1000,33)],by show size-(k+1)<size-k;omega,⟨E,aq.kd (by rw[Vd,yM,yM,auo];rfl),E,E,E,E,E,E,ai⟩,rfl,rfl,kG (by rw[Vd];simp),ai⟩;refine go ?_;(have f':k=size:=by simp at bw;omega);subst f';refine go ?_;exact⟨(⟨i+1,aE⟩,w),[(1000,1000)],ayq,⟨E,aq.kd (by rw[cW]),E,E,E,ai⟩,rfl,rfl,kG (by rw[cW]),ai⟩;refine go ?_;(have cg:i=l.length:=by simp[fJ]at hc;omega);subst cg;rw[atW];refine go ?_;refine .inr (af.vi aL (aP:=CH size l) (tg:=.own 1000 w) rfl rfl rfl rfl rfl rfl (atI (D.Q (.own 1000 w) 1) (yB (q9 size l) (afW hs l))) ?_);refine go ?_;exact E
def ta(s:atE):atE×Int :=
 if(65536:Int)<(s.length:Nat)then([],7)else if(chars s).2≠0 then([],3)else if(chars s).1=[]then([],0)else if xa (chars s).1<=255 then(CH 1 (chars s).1,0)else(CH 2 (chars s).1,0)
theorem Ve(s:atE):(chars s).1.length<=65536:=by unfold chars;split;simp;split;rename_i l h;have:=(Cs s.length s (atP _) l h).1;simp only;omega;simp
theorem Vf(aV:dc B)(s:atE)(hs:s.length<1000000000):aS B 311 [.O s] (.bl [.O (ta s).1,u (ta s).2]):=by refine bB Tryz.func311 Tryz.ntmps311 λU=>?_;refine go ?_;refine aJ (decide ((65536:Int)<(s.length:Nat))) rfl ?_ ?_<;>intro hc;refine go ?_;rw[ta,atH (by simpa using hc)];exact ar;refine go ?_;(have h1:¬(65536:Int)<(s.length:Nat):=by simpa using hc);rw[ta,atG h1];have im:=Ve s;refine go ?_;refine br (M8 aV s hs) ?_;refine aJ ((chars s).2 !=0) rfl ?_ ?_<;>intro hc;refine go ?_;rw[atH (by simpa using hc)];exact ar;refine go ?_;(have z:¬(chars s).2≠0:=by simpa using hc);rw[atG z];generalize(chars s).1=l at*;refine go ?_;refine aJ ((((fJ .i64 l).length:Nat):Int)==0) rfl ?_ ?_<;>intro hc;refine go ?_;rw[atH (by simpa[fJ]using hc)];exact ar;refine go ?_;(have aa:¬l=[]:=by simpa[fJ]using hc);rw[atG aa];have sg:0<l.length:=auX.2 aa;refine go ?_;refine br (afT l sg atv) ?_;refine aJ (decide (xa l<=255)) rfl ?_ ?_<;>intro hc;refine go ?_;refine br (Vb l 1 (.inl rfl) atv) ?_;rw[atH (by simpa using hc)];exact ar;refine go ?_;refine br (Vb l 2 (.inr rfl) atv) ?_;rw[atG (by simpa using hc)];exact ar
def Vg(s:atE)(bb dm:Bool):D:=.agg [.O s,.bool false,.bool bb,.bool false,.bool dm,.bool false,u 0,u 0,u 0]
def vS(s:atE)(bb dm:Bool):atE×Bool :=
 if dm=true then([],bif bb then s==[]else false)else((ta s).1,bif (bif (ta s).2==0 then !(s==[])else false)then decide ((((ta s).1.length:Nat):Int)<=255)else false)
theorem afY(aV:dc B)(s:atE)(bb dm:Bool)(hs:s.length<1000000000):aS B 312 [Vg s bb dm] (.bl [.O (vS s bb dm).1,.bool (vS s bb dm).2]):=by refine bB Tryz.func312 Tryz.ntmps312 λU=>?_;refine go ?_;intro dz;refine go ?_;refine br (U_ 0) ?_;refine⟨[u 0],_,λh=>U_ 0,ar,?_⟩;refine iq ?_;refine aJ false rfl ?_ ?_<;>intro hc;cases hc;refine go ?_;refine aJ dm rfl ?_ ?_<;>intro hc;refine oO ?_;refine go ?_;rw[vS,atH hc];exact ar;refine go ?_;refine br (Vf aV s hs) ?_;rw[vS,atG (by rw[hc];decide)];exact ar
def uu(s:atE)(bb dm:Bool):Int×Int:=if(vS s bb dm).2=true then(NO (38+((vS s bb dm).1.length:Nat)),0)else(0,1)
theorem NQ(s:atE):(ta s).1.length<=131073:=by have:=Ve s;unfold ta;split;simp;split;simp;split;simp;split<;>simp only[afX]<;>omega
theorem Vh(s:atE)(bb dm:Bool):(vS s bb dm).1.length<=131073:=by have:=NQ s;unfold vS;split;simp;exact this
theorem Vi(aV:dc B)(s:atE)(bb dm:Bool)(hs:s.length<1000000000):aS B 270 [Vg s bb dm] (.bl [u (uu s bb dm).1,u (uu s bb dm).2]):=by refine bB Tryz.func270 Tryz.ntmps270 λU=>?_;refine go ?_;intro dz;refine go ?_;refine br (afY aV s bb dm hs) ?_;refine aJ (!(vS s bb dm).2) rfl ?_ ?_<;>intro hc;refine go ?_;rw[uu,atG (by simpa using hc)];exact ar;apply cl;have du:=Vh s bb dm;apply b3;refine ll ?_;refine⟨[u (38+((vS s bb dm).1.length:Nat))],_,λ_=>afQ _ atv atv,ar,?_⟩;refine iJ ?_;rw[uu,atH (by simpa using hc)];exact ar
def iM(y:Int):Bool:=bif y.tmod 400==0 then true else(bif y.tmod 4==0 then y.tmod 100 !=0 else false)
def nO(y:Int):Int:=if iM y=true then 366 else 365
def CI(m:Int):Int:=([31,28,31,30,31,30,31,31,30,31,30,31]:List Int).getD (m-1).toNat 31
def nP(y m:Int):Int:=if(bif m==2 then iM y else false)=true then 29 else CI m
def IS(t:Int):Bool:=bif decide (315532800<=t)then decide (t<=4102444799)else false
def IT(V:Int):Bool:=bif decide (-1440<=V)then decide (V<=1440)else false
def NR(V:Int):Bool:=bif (bif V.tmod 15==0 then decide (-720<=V)else false)then decide (V<=780)else false
theorem Vj(y:Int):aS B 274 [u y] (.bool (iM y)):=by refine bB Tryz.func274 Tryz.ntmps274 λU=>?_;refine pf ?_;refine⟨λ_=>by omega,?_⟩;refine na ?_;refine⟨λh=>by omega,?_⟩;apply g9;refine hG ?_;refine⟨λh=>by omega,?_⟩;refine go ?_;exact E
theorem Vk(y:Int):aS B 222 [u y] (u (nO y)):=by refine bB Tryz.func222 Tryz.ntmps222 λU=>?_;refine go ?_;refine br (Vj y) ?_;refine aJ _ rfl ?_ ?_<;>intro hc;refine go ?_;rw[nO,atH hc];exact E;refine go ?_;rw[nO,atG (by rw[hc];decide)];exact E
theorem afZ(m:Int)(h1:1<=m)(z:m<=12):([D.int .i64 31,D.int .i64 28,D.int .i64 31,D.int .i64 30,D.int .i64 31,D.int .i64 30,D.int .i64 31,D.int .i64 31,D.int .i64 30,D.int .i64 31,D.int .i64 30,D.int .i64 31])[0+(m-1).toNat*1]?=some (.int .i64 (CI m)):=by(have hm:(m-1).toNat<12:=by omega);unfold CI;rw[aut,awt];generalize(m-1).toNat=k at*;match k,hm with|0,_=>rfl|1,_=>rfl|2,_=>rfl|3,_=>rfl|4,_=>rfl|5,_=>rfl|6,_=>rfl|7,_=>rfl|8,_=>rfl|9,_=>rfl|10,_=>rfl|11,_=>rfl
theorem Vl(y m:Int)(h1:1<=m)(z:m<=12):aS B 223 [u y,u m] (u (nP y m)):=by refine bB Tryz.func223 Tryz.ntmps223 λU=>?_;apply b3;apply en;refine Y.Mg aL ?_;apply tY;refine af.ac_ rfl rfl rfl atD rfl rfl rfl rfl rfl rfl rfl rfl rfl rfl rfl rfl ?_;apply d_;refine go ?_;intro cx;apply d_;refine go ?_;refine br (Vj y) ?_;refine aJ (bif m==2 then iM y else false) rfl ?_ ?_<;>intro hc;refine go ?_;rw[nP,atH hc];exact E;apply cl;refine nG ?_;apply d_;refine ll ?_;refine⟨rfl,ai,.inr (af.ac' rfl rfl rfl rfl atv atv ?_)⟩;(conv=>whnf);refine⟨rfl,ai,.inr (af.ada aL rfl rfl rfl rfl (afZ m h1 z) ?_)⟩;apply d_;refine go ?_;rw[nP,atG (by rw[hc];decide)];exact E
theorem af0(t:Int):aS B 220 [u t] (.bool (IS t)):=by refine bB Tryz.func220 Tryz.ntmps220 λU=>?_;refine go ?_;exact E
theorem af1(t:Int):aS B 221 [u t] (.bool (IT t)):=by refine bB Tryz.func221 Tryz.ntmps221 λU=>?_;refine go ?_;exact E
theorem af2(t:Int):aS B 157 [u t] (.bool (NR t)):=by refine bB Tryz.func157 Tryz.ntmps157 λU=>?_;refine pf ?_;refine⟨λ_=>by omega,?_⟩;refine go ?_;exact E
theorem Vm(y:Int):365<=nO y/\nO y<=366:=by unfold nO;split<;>omega
theorem af3(y m:Int)(h1:1<=m)(z:m<=12):28<=nP y m/\nP y m<=31:=by unfold nP CI;split;omega;(have hm:(m-1).toNat<12:=by omega);generalize(m-1).toNat=k at*;match k,hm with|0,_=>decide|1,_=>decide|2,_=>decide|3,_=>decide|4,_=>decide|5,_=>decide|6,_=>decide|7,_=>decide|8,_=>decide|9,_=>decide|10,_=>decide|11,_=>decide
def tb(y m:Int):Int:=([0,31,59,90,120,151,181,212,243,273,304,334]:List Int).getD (m-1).toNat 0+(if(decide (2<m)&&iM y)=true then 1 else 0)
theorem af4(y m:Int)(h1:1<=m)(z:m<12):tb y (m+1)=tb y m+nP y m:=by obtain⟨k,X,rfl⟩:∃k:Nat,k<11/\m=(k:Int)+1:=⟨(m-1).toNat,by omega,by omega⟩;unfold tb nP CI;match k,X with|0,_=>cases iM y<;>decide|1,_=>cases iM y<;>decide|2,_=>cases iM y<;>decide|3,_=>cases iM y<;>decide|4,_=>cases iM y<;>decide|5,_=>cases iM y<;>decide|6,_=>cases iM y<;>decide|7,_=>cases iM y<;>decide|8,_=>cases iM y<;>decide|9,_=>cases iM y<;>decide|10,_=>cases iM y<;>decide
theorem af5(y m:Int)(h1:1<=m)(z:m<=12):0<=tb y m:=by obtain⟨k,X,rfl⟩:∃k:Nat,k<12/\m=(k:Int)+1:=⟨(m-1).toNat,by omega,by omega⟩;unfold tb;match k,X with|0,_=>cases iM y<;>decide|1,_=>cases iM y<;>decide|2,_=>cases iM y<;>decide|3,_=>cases iM y<;>decide|4,_=>cases iM y<;>decide|5,_=>cases iM y<;>decide|6,_=>cases iM y<;>decide|7,_=>cases iM y<;>decide|8,_=>cases iM y<;>decide|9,_=>cases iM y<;>decide|10,_=>cases iM y<;>decide|11,_=>cases iM y<;>decide
theorem af6(y:Int):tb y 12+nP y 12=nO y:=by unfold tb nP CI nO;cases iM y<;>decide
def CJ(d y:Int):Int×Int:=if h:nO y<=d then CJ (d-nO y) (y+1)else(d,y)
termination_by d.toNat
decreasing_by have:=Vm y;omega
def xb(n:Nat)(y d m:Int):Int×Int:=match n with
 |0=>(d,m)
 |n+1=>if nP y m<=d then xb n y (d-nP y m) (m+1)else(d,m)
theorem af7{n:Nat}{y d m:Int}(h:¬nP y m<=d):xb n y d m=(d,m):=by cases n with|zero=>rfl|succ n=>rw[xb,atG h]
def Vn(y:Int)(b:Int×Int)(ep:Int):List Int:=[y,b.2,b.1+1,ep.tdiv 3600,(ep.tdiv 60).tmod 60,ep.tmod 60]
def Vo(a:Int×Int)(ep:Int):List Int:=Vn a.2 (xb 12 a.2 a.1 1) ep
def EY(D ep:Int):List Int:=Vo (CJ D 1970) ep
def Vp(t V:Int):List Int:=EY ((t+60*V).tdiv 86400) ((t+60*V).tmod 86400)
def yN(t V:Int):Bool:=!(bif !IS t then true else !IT V)
def oT(t V:Int):List Int:=if yN t V=true then Vp t V else[0,0,0,0,0,0]
def Vq(l:List Int):D:=.agg (l.map (D.int .i64))
theorem af8(t V:Int):aS B 156 [u t,u V] (.bl [Vq (oT t V),u (if yN t V=true then 0 else 2)]):=by
 refine bB Tryz.func156 Tryz.ntmps156 λU=>?_;refine go ?_;intro cP;refine go ?_;refine br (af0 t) ?_;refine br (af1 V) ?_;refine aJ (bif !IS t then true else !IT V) rfl ?_ ?_<;>intro hc
 ·refine go ?_;have hs:¬yN t V=true:=by unfold yN;rw[hc];decide
  rw[oT,atG hs,atG hs];refine go ?_;exact ar
 have hs:yN t V=true:=by unfold yN;rw[hc];rfl
 have ae:315532800<=t/\t<=4102444799/\-1440<=V/\V<=1440:=by
  revert hc;unfold IS IT
  cases h1:decide (315532800<=t)<;>cases z:decide (t<=4102444799)<;>cases aa:decide (-1440<=V)<;>cases aC:decide (V<=1440)<;>simp at h1 z aa aC⊢<;>omega
 rw[oT,atH hs,atH hs,Vp];have NS:(t+60*V).tdiv 86400=(t+60*V)/86400:=atX atv;have NT:(t+60*V).tmod 86400=(t+60*V)%86400:=auZ atv;apply cl;apply b3;refine g_ ?_;refine g_ ?_;refine ch ?_;refine⟨λ_=>by omega,?_⟩;refine ll ?_;refine⟨λ_=>by omega,?_⟩;(conv=>whnf);generalize pD:(t+60*V).tdiv 86400=yO at*;generalize l8:(t+60*V).tmod 86400=ep at*;have af9:0<=yO/\yO<60000:=atv
 have arD:0<=ep/\ep<86400:=atv
 have IU:ep.tdiv 3600=ep/3600:=atX atv;have arE:ep.tdiv 60=ep/60:=atX atv;refine ch ?_;refine⟨λ_=>by omega,?_⟩;refine ll ?_;refine⟨λ_=>by omega,?_⟩;refine ll ?_;refine⟨λ_=>by omega,?_⟩;(conv=>whnf);refine⟨λ_=>by omega,?_⟩;refine go ?_;intro iN;refine go ?_;unfold EY;generalize E3:CJ yO 1970=NU at*;generalize c6:Vo NU ep=af_ at*;refine go ?_
 refine Y.ed (α:={p:Int×Int // CJ p.1 p.2=NU/\0<=p.1/\p.1<=yO/\1970<=p.2/\p.2<=1970+(yO-p.1)}) (λx=>[(4,.box 4 cP 0),(7,u x.1.1),(9,.box 9 iN 0)])
  (λx=>[(4,.box cP [u 0,u 0,u 0,u 0,u 0,u 0]),(9,.box iN [u x.1.2,u 1,u 0,u (ep.tdiv 3600),u ((ep.tdiv 60).tmod 60),u (ep.tmod 60)])]) (λx=>x.1.1.toNat) ⟨(yO,1970),E3,af9.1,auu _,auu _,by omega⟩ [(4,4),(9,9)]
  ⟨ar,rfl,ba⟩ ?_
 rintro⟨⟨d,y⟩,hy,um,E8,EL,NV⟩;dsimp only at hy um E8 EL NV⊢;have arF:=Vm y;refine go ?_;refine br (Vk y) ?_;refine aJ (decide (nO y<=d)) rfl ?_ ?_<;>intro bw
 ·refine go ?_;have dV:nO y<=d:=by simpa using bw
  refine go ?_;refine br (Vk y) ?_;exact⟨⟨(d-nO y,y+1),by rw[<-hy];conv=>{rhs;rw[CJ,avv dV]},by show 0<=d-nO y;omega,by show d-nO y<=yO;omega,by show 1970<=y+1;omega,by show y+1<=1970+(yO-(d-nO y));omega⟩,[(4,4),(9,9)],by show(d-nO y).toNat<d.toNat;omega,ar,rfl,ba⟩
 have af':NU=(d,y):=by rw[<-hy,CJ,awQ (by simpa using bw)]
 have bi : d < nO y := by have : ¬nO y<=d := by simpa using bw
                          omega
 refine go ?_
 refine Y.ed (α:={p:Int×Int×Nat // xb p.2.2 y p.1 p.2.1=xb 12 y d 1/\0<=p.1/\1<=p.2.1/\p.2.1<=12/\p.1+tb y p.2.1=d/\(p.2.2:Int)+p.2.1=13}) (λx=>[(4,.box 4 cP 0),(7,u x.1.1),(9,.box 9 iN 0)])
  (λx=>[(4,.box cP [u 0,u 0,u 0,u 0,u 0,u 0]),(9,.box iN [u y,u x.1.2.1,u 0,u (ep.tdiv 3600),u ((ep.tdiv 60).tmod 60),u (ep.tmod 60)])]) (λx=>x.1.1.toNat) ⟨(d,1,12),rfl,um,by show(1:Int)<=1;decide,by show(1:Int)<=12;decide,by show d+tb y 1=d;rw[show tb y 1=0 from by unfold tb;cases iM y<;>decide];omega,by show((12:Nat):Int)+1=13;decide⟩ [(4,4),(9,9)]
  ⟨ar,rfl,ba⟩ ?_
 rintro⟨⟨e,m,n⟩,hm,py,ly,s5,ms,nk⟩;dsimp only at hm py ly s5 ms nk⊢;have arG:=af3 y m ly s5;have FC:=af5 y m ly s5;refine go ?_;refine br (Vl y m ly s5) ?_;refine aJ (decide (nP y m<=e)) rfl ?_ ?_<;>intro dO
 ·refine go ?_;have dV:nP y m<=e:=by simpa using dO
  have aga:m<12:=by
   rcases Int.lt_or_le m 12 with h|h
   ·exact h
   have:m=12:=atv
   subst this;have:=af6 y;omega
  obtain⟨n,rfl⟩:∃k,n=k+1:=⟨n-1,by omega⟩;refine go ?_;refine br (Vl y m ly s5) ?_;exact⟨⟨(e-nP y m,m+1,n),by rw[<-hm];conv=>{rhs;rw[xb,atH dV]},by show 0<=e-nP y m;omega,by show 1<=m+1;omega,by show m+1<=12;omega,by show e-nP y m+tb y (m+1)=d;rw[af4 y m ly aga];omega,by show(n:Int)+(m+1)=13;omega⟩,[(4,4),(9,9)],by show(e-nP y m).toNat<e.toNat;omega,ar,rfl,ba⟩
 have agb:xb 12 y d 1=(e,m):=by rw[<-hm];exact af7 (by simpa using dO)
 have agc:af_=[y,m,e+1,ep.tdiv 3600,(ep.tdiv 60).tmod 60,ep.tmod 60]:=by rw[<-c6,af'];show Vn y (xb 12 y d 1) ep=_;rw[agb];rfl
 subst agc;have CK:e<1000000:=atv
 refine go ?_;exact ar
def FD(t V:Int):Bool:=yN t V&&NR V
def CL(t V:Int):List Int:=[IntKind.wrap .u8 (IntKind.wrap .i64 ((oT t V).getD 0 0-1900)),IntKind.wrap .u8 ((oT t V).getD 1 0),IntKind.wrap .u8 ((oT t V).getD 2 0),IntKind.wrap .u8 ((oT t V).getD 3 0),IntKind.wrap .u8 ((oT t V).getD 4 0),IntKind.wrap .u8 ((oT t V).getD 5 0),IntKind.wrap .u8 (IntKind.wrap .i8 (IntKind.wrap .i64 (V.tdiv 15)))]
def vT(t V:Int):atE×Int:=if FD t V=true then((CL t V).map oR,0)else([],2)
theorem agd(t V:Int):∀n∈CL t V,0<=n/\n<=255:=λn av=>by
 simp only[CL,at6,awf,awB]at av;rcases av with rfl|rfl|rfl|rfl|rfl|rfl|rfl<;>exact NP _
theorem age(t V:Int):Vq (oT t V)=.agg [u ((oT t V).getD 0 0),u ((oT t V).getD 1 0),u ((oT t V).getD 2 0),u ((oT t V).getD 3 0),u ((oT t V).getD 4 0),u ((oT t V).getD 5 0)]:=by unfold oT;split<;>rfl
theorem Vr(t V:Int):aS B 108 [u t,u V] (.bl [.O (vT t V).1,u (vT t V).2]):=by refine bB Tryz.func108 Tryz.ntmps108 λU=>?_;refine pf ?_;refine⟨[u t,u V],_,λ_=>af8 t V,ar,?_⟩;rw[age];refine go ?_;intro ea;refine go ?_;refine br (af2 V) ?_;refine aJ (!FD t V) (atI D.bool (by unfold FD;cases yN t V<;>cases NR V<;>rfl)) ?_ ?_<;>intro hc;refine go ?_;(have hs:¬FD t V=true:=by simpa using hc);rw[vT,atG hs];exact ar;apply cl;refine vk ?_;apply mB;refine ez ?_;refine .inr ?_;refine oc ?_;refine .inr ?_;apply mB;apply cD;refine oc ?_;refine .inr ?_;apply mB;apply cD;refine oc ?_;refine .inr ?_;apply mB;apply cD;refine oc ?_;refine .inr ?_;apply mB;apply cD;refine oc ?_;refine .inr ?_;apply mB;apply cD;refine oc ?_;refine .inr ?_;(conv=>whnf);refine⟨λ_=>by omega,?_⟩;refine go ?_;refine yc ?_;refine yc ?_;refine yc ?_;refine .inr (af.vi aL (aP:=(CL t V).map oR) (tg:=.dU) rfl rfl rfl rfl rfl rfl (atI (D.Q .dU 1) (yB (CL t V) (agd t V))) ?_);refine go ?_;(have hs:FD t V=true:=by simpa using hc);rw[vT,atH hs];exact ar
theorem Vs(t V:Int):(vT t V).1.length<=7:=by unfold vT CL;split<;>simp
def q_(n:ad)(o:f1):Int:=if(!valid n)=true then 1 else if(32:Int)<((o.gO.map pq).length:Nat)then 7 else(vT 315619200 o.c2).2
theorem agf(aV:dc B)(n:ad)(o:f1)(bz:aB n+n.name.length<10000000):aS B 75 [aH n,r9 o] (u (q_ n o)):=by refine bB Tryz.func75 Tryz.ntmps75 λU=>?_;refine go ?_;intro cc;refine go ?_;intro eD;refine go ?_;refine br (AA aV n bz) ?_;refine aJ (!valid n) rfl ?_ ?_<;>intro hc;refine go ?_;rw[q_,atH hc];exact E;refine go ?_;rw[q_,atG (by rw[hc];decide)];refine go ?_;refine aJ (decide ((32:Int)<((o.gO.map pq).length:Nat))) rfl ?_ ?_<;>intro hc;refine go ?_;rw[atH (by simpa using hc)];exact E;refine go ?_;rw[atG (by simpa using hc)];refine go ?_;refine br (Vr 315619200 o.c2) ?_;exact E
theorem agh:aS B 320 [u 4] (.bool true):=by refine bB Tryz.func320 Tryz.ntmps320 λU=>?_;apply b3;apply b3;refine iq ?_;refine iq ?_;refine iJ ?_;exact E
theorem agi(n:Int)(h0:0<=n)(h1:n<4294967296):aS B 321 [u n,u 4] (.bool true):=by
 refine bB Tryz.func321 Tryz.ntmps321 λU=>?_;apply b3;apply b3;apply g9;refine hG ?_;refine .inl ⟨λh=>by simp[dk],?_⟩;refine na ?_;refine⟨λh=>by omega,?_⟩;apply g9;refine ob ?_;refine tZ ?_;refine iJ ?_;have e:IntKind.i64.wrap (2 ^ min 32 IntKind.i64.bits)=4294967296:=by decide
 have bT:decide (0<=n)=true:=auM h0;have b0:decide (n<4294967296)=true:=auM h1;refine aq.of_eq (atI D.bool ?_);simp[e,bT,b0,h0,h1]
theorem agj:aS B 323 [u 4] (.fn (.func 361) [] []):=by refine bB Tryz.func323 Tryz.ntmps323 λU=>?_;apply b3;refine gm ?_;exact E
theorem agk(i:Int):aS B 361 [u i] (u i):=by refine bB Tryz.func361 Tryz.ntmps361 λU=>?_;apply b3;refine gm ?_;exact E
theorem agl:aS B 324 [u 4] (.fn (.func 362) [] [.a7 1 [u 4] 0 0]):=by refine bB Tryz.func324 Tryz.ntmps324 λU=>?_;refine ch ?_;intro b;(conv=>whnf);refine Y.BZ 1 1 (u 4) rfl rfl rfl rfl ?_;refine gm ?_;exact E
theorem agm(i:Int)(h0:0<=i)(h1:i<=3):aS B 362 [u i,.a7 1 [u 4] 0 0] (u (3-i)):=by refine bB Tryz.func362 Tryz.ntmps362 λU=>?_;apply b3;apply b3;refine yb (u 4) ?_;refine g_ ?_;refine g_ ?_;refine iJ ?_;exact dp atv
def agn(n:Int)(k:Nat):Int:=IntKind.wrap .u8 (n.fdiv (2 ^ min (8*(k:Int)).toNat IntKind.i64.bits))
def vU(n:Int)(ib:Nat->Nat):Nat->List Int
 |0=>[0,0,0,0]
 |k+1=>(vU n ib k).set (ib k) (agn n k)
theorem NW(n:Int)(ib:Nat->Nat):∀k,(vU n ib k).length=4
 |0=>rfl
 |k+1=>by simp only[vU,avc];exact NW n ib k
theorem ago(m:Int):0<=IntKind.wrap .u8 m/\IntKind.wrap .u8 m<=255:=by
 have e:IntKind.wrap .u8 m=m%256:=by simp[IntKind.wrap,IntKind.bits,IntKind.signed]
 rw[e];omega
theorem Vt(n:Int)(ib:Nat->Nat):∀k,∀x∈vU n ib k,0<=x/\x<=255
 |0,x,h=>by simp[vU]at h;omega
 |k+1,x,h=>by rcases avT h with h|h;exact Vt n ib k x h;subst h;exact ago _
def CM(n:Int)(ib:Nat->Nat):atE:=(vU n ib 4).map oR
theorem Vu(n:Int)(ib:Nat->Nat):(CM n ib).length=4:=by simp[CM,NW]
theorem Vv(n:Int)(b6:Nat)(cq:List D)(ib:Nat->Nat)(au:∀k,k<4->ib k<4/\aS B b6 ([u (k:Nat)]++cq) (u (ib k:Nat))):aS B 322 [u n,u 4,.fn (.func b6) [] cq] (.O (CM n ib)):=by refine bB Tryz.func322 Tryz.ntmps322 λU=>?_;refine go ?_;refine .inr (af.x_ aL (n:=4) rfl rfl rfl rfl rfl rfl rfl aty aty λgR=>?_);refine go ?_;refine Y.ed (α:={k:Nat // k<=4}) (λx=>[(0,u n),(1,u 4),(2,.fn (.func b6) [] cq),(7,.an gR),(11,u 4),(12,u (x.1:Nat))]) (λx=>[(10,.row gR ((vU n ib x.1).map (D.int .u8)) 1 5)]) (λx=>4-x.1) ⟨0,by omega⟩ [(10,10)] ⟨ar,rfl,ba⟩ ?_;rintro⟨k,X⟩;refine go ?_;refine aJ (decide ((k:Int)<4)) rfl ?_ ?_<;>intro hc;apply cl;(have AL:k<4:=by have:=auc hc;omega);have Ax:=NW n ib k;refine gK ?_;refine Y.zX aL 9 mixed atA ?_;refine go ?_;refine⟨[u (k:Nat)]++cq,_,λ_=>(au k AL).2,dL.refl _,?_⟩;refine ll ?_;refine⟨λ_=>by omega,?_⟩;refine go ?_;refine yc ?_;refine .inr (af.ev aL 10 rfl rfl rfl rfl rfl rfl rfl atv (by simp[Ax];have:=(au k AL).1;omega) ?_);refine go ?_;refine .inr (af.nC aL 10 (i:=ib k) (by simp;rfl) rfl rfl rfl (by simp[Ax];exact(au k AL).1) rfl ?_);refine go ?_;exact⟨⟨k+1,by omega⟩,[(10,10)],by show 4-(k+1)<4-k;omega,ar,rfl,rfl,atI (λV=>some (aI.row gR V 1 5)) (by simp only[vU,aw'];rfl),ai⟩;refine wT ?_;(have AL:k=4:=by have:=at0 hc;omega);subst AL;refine Y.fd [(7,.an gR)] [(10,.row gR ((vU n ib 4).map (D.int .u8)) 1 5)] [(10,10)] ⟨ar,rfl,ba⟩ ?_;refine Y.vv 10 7 rfl ?_;refine go ?_;refine .inr (af.vi aL (aP:=CM n ib) (tg:=.none) rfl rfl rfl rfl rfl rfl (atI (D.Q .none 1) (yB (vU n ib 4) (Vt n ib 4))) ?_);refine go ?_;exact E
def CN(n:Int):atE:=CM n (λk=>k)++CM n (λk=>3-k)
theorem IV(n:Int):(CN n).length=8:=by simp[CN,Vu]
theorem agp(n:Int)(h0:0<=n)(h1:n<4294967296):aS B 278 [u n,u 4] (.bl [.O (CN n),u 0]):=by refine bB Tryz.func278 Tryz.ntmps278 λU=>?_;apply b3;refine p8 ?_;refine⟨_,_,λ_=>agh,ar,?_⟩;refine Y.cond false rfl (λhc=>nomatch hc) (λhc=>?_);apply cl;refine p8 ?_;refine⟨_,_,λ_=>agi n h0 h1,ar,?_⟩;refine Y.cond false rfl (λhc=>nomatch hc) (λhc=>?_);apply cl;refine ch ?_;refine⟨_,_,λ_=>agj,ar,?_⟩;refine go ?_;refine⟨_,_,λ_=>Vv n 361 [] (λk=>k) (λk X=>⟨X,agk _⟩),ar,?_⟩;refine go ?_;refine⟨_,_,λ_=>agl,ar,?_⟩;refine go ?_;refine⟨_,_,λ_=>Vv n 362 [.a7 1 [u 4] 0 0] (λk=>3-k) (λk X=>⟨by omega,by have:=agm (B:=B) (k:Nat) atv atv;rw[show((3-k:Nat):Int)=3-(k:Int) by omega];exact this⟩),ar,?_⟩;refine go ?_;refine⟨λ_=>by simp[Vu],?_⟩;refine go ?_;exact ar
def tc(p:Int->Bool):Nat->List Int->Int
 |_,[]=>-1
 |i,x::r=>if p x then(i:Int)else tc p (i+1) r
theorem Vw(p:Int->Bool):∀(l:List Int) (i:Nat),decide (0<=tc p i l)=l.any p
 |[],i=>by simp[tc]
 |x::r,i=>by by_cases F:p x=true;simp[tc,F];have:=Vw p r (i+1);simp[tc,F,this]
theorem agq(tg:iD)(T:List Int)(hT:T.length<1000000)(b6:Nat)(cq:List D)(p:Int->Bool)(nl:∀k∈T,aS B b6 (u k::cq) (.bool (p k))):aS B 143 [.Q tg 1 (T.map (D.int .i64)),.fn (.func b6) [] cq] (u (tc p 0 T)):=by refine bB Tryz.func143 Tryz.ntmps143 λU=>?_;refine go ?_;refine Y.loop (α:={i:Nat // i<=T.length/\tc p 0 T=tc p i (T.drop i)}) (λx=>[(0,.Q tg 1 (T.map (D.int .i64))),(1,.fn (.func b6) [] cq),(7,u (T.map (D.int .i64)).length),(8,u x.1)]) (λ_=>[]) (λx=>T.length-x.1) ⟨0,by simp⟩ ar trivial ?_;rintro⟨i,hi,be⟩;refine go ?_;refine aJ (decide ((i:Int)<(T.map (D.int .i64)).length)) rfl ?_ ?_<;>intro hc;apply cl;(have aE:i<T.length:=by simpa using hc);have lr:=auN aE;refine kc ?_;refine pf ?_;refine p6 ?_;refine⟨u T[i],λ_=>by simp[aE],?_⟩;refine go ?_;refine⟨u T[i]::cq,_,λ_=>nl T[i] (atK aE),⟨E,dL.refl _⟩,?_⟩;refine go ?_;refine aJ (p T[i]) rfl ?_ ?_<;>intro hc;refine go ?_;exact dp (be.trans (by show tc p i (T.drop i)=(i:Int);rw[lr];simp[tc,hc])).symm;refine go ?_;exact⟨⟨i+1,aE,by rw[be,lr];simp[tc,hc]⟩,ayr,ar,ai⟩;refine go ?_;(have cg:i=T.length:=by simp at hc;omega);refine go ?_;exact dp (be.trans (by rw[cg];simp[tc])).symm
theorem agr(tg:iD)(T:List Int)(hT:T.length<1000000)(b6:Nat)(cq:List D)(p:Int->Bool)(nl:∀k∈T,aS B b6 (u k::cq) (.bool (p k))):aS B 146 [.Q tg 1 (T.map (D.int .i64)),.fn (.func b6) [] cq] (.bool (T.any p)):=by refine bB Tryz.func146 Tryz.ntmps146 λU=>?_;refine pf ?_;refine⟨_,_,λ_=>agq tg T hT b6 cq p nl,ar,?_⟩;refine go ?_;exact aq.of_eq (atI D.bool (Vw p T 0))
def AM(n:Int):Bool:=decide (n<0)||decide (4294967296<=n)
theorem ags(n:Int):aS B 319 [u n] (.bool (AM n)):=by refine bB Tryz.func319 Tryz.ntmps319 λU=>?_;refine go ?_;refine aq.of_eq (atI D.bool ?_);unfold AM;cases decide (n<0)<;>rfl
theorem Vx(tg:iD)(T:List Int)(hT:T.length<1000000):aS B 277 [.Q tg 1 (T.map (D.int .i64))] (.bool (!T.any AM)):=by refine bB Tryz.func277 Tryz.ntmps277 λU=>?_;refine pf ?_;refine⟨_,_,λ_=>agr tg T hT 319 [] AM (λk _=>ags k),ar,?_⟩;refine go ?_;exact E
def lC(FE agt:atE):D:=.agg [.O FE,u 1,.O agt]
theorem agu:aS B 161 [u 0] (.bl [lC [83,80] [190,239,0],u 0]):=by refine bB Tryz.func161 Tryz.ntmps161 λU=>?_;refine ch ?_;intro b;refine gb ?_;refine iq ?_;refine Y.cond false rfl (λhc=>nomatch hc) (λhc=>?_);apply cl;refine qU ?_;refine .inl (.inl ⟨by simp[dk],?_⟩);refine go ?_;refine .inr (af.vi aL (aP:=[190,239,0]) (tg:=.dU) rfl rfl rfl rfl rfl rfl rfl ?_);refine go ?_;exact ar
theorem agv:aS B 236 [.O [82,82,73,80,95,49,57,57,49,65],.O [82,79,67,75,32,82,73,68,71,69],.O [77,65,83,84,69,82,68,73,83,67],u 1] (.bl [lC [69,82] ([10,10,10,1]++[82,82,73,80,95,49,57,57,49,65]++[82,79,67,75,32,82,73,68,71,69]++[77,65,83,84,69,82,68,73,83,67]),u 0]):=by refine bB Tryz.func236 Tryz.ntmps236 λU=>?_;refine ch ?_;intro b;refine gb ?_;refine iq ?_;refine Y.cond false rfl (λhc=>nomatch hc) (λhc=>?_);apply cl;refine gb ?_;refine g_ ?_;refine g_ ?_;refine Y.cond false rfl (λhc=>nomatch hc) (λhc=>?_);apply cl;refine ch ?_;refine .inl ⟨by simp[dk],?_⟩;(conv=>whnf);refine .inl ⟨by simp[dk],?_⟩;(conv=>whnf);refine .inl ⟨by simp[dk],?_⟩;(conv=>whnf);refine .inl ⟨by simp[dk],?_⟩;refine go ?_;refine .inr (af.vi aL (aP:=[10,10,10,1]) (tg:=.dU) rfl rfl rfl rfl rfl rfl rfl ?_);refine go ?_;refine nb ?_;refine nb ?_;refine nb ?_;exact ar
def Vy:D:=lC [69,82] ([10,10,10,1]++[82,82,73,80,95,49,57,57,49,65]++[82,79,67,75,32,82,73,68,71,69]++[77,65,83,84,69,82,68,73,83,67])
theorem agw:aS B 164 [] (Vy):=by refine bB Tryz.func164 Tryz.ntmps164 λU=>?_;refine go ?_;intro b;refine ch ?_;refine⟨_,_,λ_=>agv,ar,?_⟩;refine go ?_;intro b;refine go ?_;exact E
def sj(oU:Bool)(kind hh kk kl km:Int)(named:Bool)(name target:atE)(agx:Bool)(fl bZ cB:Int)(j2:Bool):D:=.agg [.bool oU,u kind,u hh,u kk,u kl,u km,.bool named,.O name,.O target,.bool agx,u fl,u bZ,u cB,.bool j2]
structure NX (kind hh kk kl km:Int) (named:Bool) (name target:atE) (fl bZ:Int):Prop where
 gB:0<=kind
 ce:kind<=2
 j3:0<=hh
 m1:hh<=4095
 w:[kk,kl,km,bZ,0].any AM=false
 n:named=true->dT name=true
 h5:named=false->name=[]
 t:target=[]\/k7 target=true
 t0:315532800<=fl
 AN:fl<=4102444799
 CO:name.length<1000000000
 FF:target.length<1000000000
theorem agy(aV:dc B)(kind hh kk kl km:Int)(named:Bool)(name target:atE)(fl bZ:Int)(j2:Bool)(h:NX kind hh kk kl km named name target fl bZ):aS B 230 [sj true kind hh kk kl km named name target true fl bZ 0 j2] (u 0):=by
 refine bB Tryz.func230 Tryz.ntmps230 λU=>?_;refine ch ?_;intro b;refine gK ?_
 repeat ((first|refine⟨rfl,?_⟩|refine⟨λh=>h,?_⟩|refine⟨λh0 h=>ayh,?_⟩);(conv=>whnf))
 obtain⟨gB,ce,j3,m1,cG,av,wL,ax,t0,AN,CO,FF⟩:=h;refine Y.cond false rfl (λhc=>nomatch hc) (λhc=>?_);refine go ?_
 repeat ((first|refine⟨rfl,?_⟩|refine⟨λh=>h,?_⟩|refine⟨λh0 h=>ayh,?_⟩);(conv=>whnf))
 refine aJ _ rfl (λhc=>?_) (λbw=>?_)
 ··exact False.elim (by revert hc;cases named<;>simp_all)
 refine go ?_
 repeat ((first|refine⟨rfl,?_⟩|refine⟨λh=>h,?_⟩|refine⟨λh0 h=>ayh,?_⟩);(conv=>whnf))
 refine aJ _ rfl (λhc=>?_) (λdO=>?_)
 ··exact False.elim (by have bT : decide (kind < 0) = false := by simp;omega
                        have b0:decide (2<kind)=false:=by simp;omega
                        rw[bT,b0]at hc;cases hc)
 refine go ?_
 repeat ((first|refine⟨rfl,?_⟩|refine⟨λh=>h,?_⟩|refine⟨λh0 h=>ayh,?_⟩);(conv=>whnf))
 refine⟨_,_,λh=>yE aV name CO,ar,?_⟩;refine go ?_
 repeat ((first|refine⟨rfl,?_⟩|refine⟨λh=>h,?_⟩|refine⟨λh0 h=>ayh,?_⟩);(conv=>whnf))
 refine⟨_,_,λh=>Iw aV target FF,ar,?_⟩;refine go ?_
 repeat ((first|refine⟨rfl,?_⟩|refine⟨λh=>h,?_⟩|refine⟨λh0 h=>ayh,?_⟩);(conv=>whnf))
 refine aJ _ rfl (λhc=>?_) (λkf=>?_)
 ··exact False.elim (by revert hc;rcases ax with rfl|ax<;>cases named<;>simp_all)
 refine go ?_
 repeat ((first|refine⟨rfl,?_⟩|refine⟨λh=>h,?_⟩|refine⟨λh0 h=>ayh,?_⟩);(conv=>whnf))
 refine go ?_;refine⟨_,_,λ_=>Vx .dU [kk,kl,km,bZ,0] atx,ar,?_⟩;refine go ?_;refine aJ _ rfl (λhc=>?_) (λvV=>?_)
 ··exact False.elim (by have bT : decide (hh < 0) = false := by simp;omega
                        have b0:decide (4095<hh)=false:=by simp;omega
                        rw[bT,b0,cG]at hc;cases hc)
 refine go ?_
 repeat ((first|refine⟨rfl,?_⟩|refine⟨λh=>h,?_⟩|refine⟨λh0 h=>ayh,?_⟩);(conv=>whnf))
 refine aJ _ rfl (λhc=>?_) (λxc=>?_)
 ··exact False.elim (by have bT : decide (fl < 315532800) = false := by simp;omega
                        have b0:decide (4102444799<fl)=false:=by simp;omega
                        rw[bT,b0]at hc;cases hc)
 refine go ?_;exact E
theorem agz(aV:dc B) : aS B 230 [sj false 0 0 0 0 0 false [] [] false 0 0 1 false] (u 0):=by refine bB Tryz.func230 Tryz.ntmps230 λU=>?_;refine ch ?_;intro b;refine gK ?_;(repeat ((first|refine⟨rfl,?_⟩|refine⟨λh=>h,?_⟩|refine⟨λh0 h=>ayh,?_⟩);(conv=>whnf)));refine Y.cond false rfl (λhc=>nomatch hc) (λhc=>?_);refine ch ?_;(repeat ((first|refine⟨rfl,?_⟩|refine⟨λh=>h,?_⟩|refine⟨λh0 h=>ayh,?_⟩);(conv=>whnf)));refine Y.cond false rfl (λhc=>nomatch hc) (λbw=>?_);refine ch ?_;(repeat ((first|refine⟨rfl,?_⟩|refine⟨λh=>h,?_⟩|refine⟨λh0 h=>ayh,?_⟩);(conv=>whnf)));refine Y.cond false rfl (λhc=>nomatch hc) (λdO=>?_);refine go ?_;(repeat ((first|refine⟨rfl,?_⟩|refine⟨λh=>h,?_⟩|refine⟨λh0 h=>ayh,?_⟩);(conv=>whnf)));refine⟨_,_,λh=>yE aV [] aty,ar,?_⟩;refine go ?_;(repeat ((first|refine⟨rfl,?_⟩|refine⟨λh=>h,?_⟩|refine⟨λh0 h=>ayh,?_⟩);(conv=>whnf)));refine⟨_,_,λh=>Iw aV [] aty,ar,?_⟩;(conv=>whnf);(repeat ((first|refine⟨rfl,?_⟩|refine⟨λh=>h,?_⟩|refine⟨λh0 h=>ayh,?_⟩);(conv=>whnf)));refine Y.cond false rfl (λhc=>nomatch hc) (λkf=>?_);refine go ?_;(repeat ((first|refine⟨rfl,?_⟩|refine⟨λh=>h,?_⟩|refine⟨λh0 h=>ayh,?_⟩);(conv=>whnf)));refine go ?_;refine⟨_,_,λ_=>Vx .dU [0,0,0,0,1] aty,ar,?_⟩;refine iq ?_;refine Y.cond false rfl (λhc=>nomatch hc) (λvV=>?_);refine ch ?_;(repeat ((first|refine⟨rfl,?_⟩|refine⟨λh=>h,?_⟩|refine⟨λh0 h=>ayh,?_⟩);(conv=>whnf)));refine Y.cond false rfl (λhc=>nomatch hc) (λxc=>?_);refine go ?_;exact E
def td(l:Int)(k:ad):Bool:=k.kind==0&&lA 2 k (l+1)
def la(m:ad)(l:Int):Int:=if m.kind=0 then 2+(m.J.countP (td l):Nat)else 1
theorem agA(p:ad->Bool)(L:List ad)(h:i<L.length):(L.take (i+1)).countP p=(L.take i).countP p+if p L[i]then 1 else 0:=by rw[atN h,List.countP_append];simp[List.countP_cons]
theorem Vz(b:D)(m:ad)(l:Int)(sg:0<=l)(kE:l<=1000000)(hm:m.J.length<=1000000):aS B 163 [b,aH m,u l] (sj true m.kind m.cL (la m l) m.n2 m.n3 false [] [] true m.n4 0 0 false):=by refine bB Tryz.func163 Tryz.ntmps163 λU=>?_;refine ch ?_;intro cP;(conv=>whnf);intro ea;refine ch ?_;refine Y.l0 (α:=Unit) (λx=>[(4,.box 4 cP 0),(6,.box 6 ea 0),(7,u (la m l))]) (λx=>[(4,.box cP (aH m).cells),(6,.box ea [.bool false,u 0,u 0,u 0,u 0,u 0,.bool false,.O [],.O [],.bool false,u 0,u 0,u 0,.bool false])]) ?_ ?_;refine jb ?_;refine aJ (m.kind==0) rfl ?_ ?_<;>intro hc;apply b3;refine jb ?_;apply oN;refine Y.ed (α:={i:Nat // i<=m.J.length}) (λx=>[(2,u l),(4,.box 4 cP 0),(6,.box 6 ea 0),(7,u (2+((m.J.take x.1).countP (td l):Nat))),(14,.Q .none 12 (m.J.map enc)),(15,u (m.J.map enc).length),(16,u x.1)]) (λx=>[(4,.box cP (aH m).cells),(6,.box ea [.bool false,u 0,u 0,u 0,u 0,u 0,.bool false,.O [],.O [],.bool false,u 0,u 0,u 0,.bool false])]) (λx=>m.J.length-x.1) ⟨0,by omega⟩ [(4,4),(6,6)] ⟨ar,rfl,ba⟩ ?_;rintro⟨i,hi⟩;apply b3;apply en;refine aJ (decide ((i:Int)<(m.J.map enc).length)) rfl ?_ ?_<;>intro bw;apply cl;(have aE:i<m.J.length:=by simpa using bw);have IB:=agA (td l) m.J aE;have im:(m.J.take i).countP (td l)<=i:=avb (List.countP_le_length) atw;refine vm ?_;refine⟨aH m.J[i],λ_=>oe aE,?_⟩;(conv=>whnf);intro iN;apply cD;refine jb ?_;apply cD;apply g9;refine g_ ?_;refine hG ?_;refine⟨[u 2,aH m.J[i],u (l+1)],_,λh=>Fm 2 m.J[i] (l+1),ar,?_⟩;refine tZ ?_;refine aJ (td l m.J[i]) (by rw[td];cases(m.J[i].kind==0)<;>rfl) ?_ ?_<;>intro dO;apply kF;refine g_ ?_;refine nD ?_;exact⟨⟨i+1,aE⟩,[(4,4),(6,6)],by show m.J.length-(i+1)<m.J.length-i;omega,⟨E,E,E,dp (by show(2:Int)+((m.J.take i).countP (td l):Nat)+1=2+((m.J.take (i+1)).countP (td l):Nat);rw[IB,atH dO];omega),E,E,E,ai⟩,rfl,ba⟩;refine rU ?_;exact⟨⟨i+1,aE⟩,[(4,4),(6,6)],by show m.J.length-(i+1)<m.J.length-i;omega,⟨E,E,E,dp (by show(2:Int)+((m.J.take i).countP (td l):Nat)=2+((m.J.take (i+1)).countP (td l):Nat);rw[IB,atG (by simp[dO])];rfl),E,E,E,ai⟩,rfl,ba⟩;refine wT ?_;(have cg:i=m.J.length:=by simp at bw;omega);(have j0:m.kind=0:=by simpa using hc);exact⟨(),[(4,4),(6,6)],⟨E,E,dp (by show(2:Int)+((m.J.take i).countP (td l):Nat)=la m l;rw[cg,atW,la,atH j0]),ai⟩,rfl,ba⟩;refine fk ?_;exact⟨(),[(4,4),(6,6)],⟨E,E,dp (by unfold la;rw[atG (by simpa using hc)]),ai⟩,rfl,ba⟩;rintro⟨⟩;refine jb ?_;apply cD;apply cD;apply cD;apply cD;apply cD;apply Ew;refine ez ?_;exact E
theorem NY:Tryz.prog.underlying 161=some (.pointer 164):=by kernel_rfl
theorem VA:Tryz.prog.underlying 300=some .unsafePointer:=by kernel_rfl
theorem VB:(Tryz.prog.info? 164).map (·.size)=some 2:=by kernel_rfl
theorem agB:liesAt Tryz.prog Tryz.prog.depth 164 (2/Tryz.prog.cellsOf 164) 0 164 1=true:=by kernel_rfl
theorem agC(b:Nat)(w:World)(h0:w.cell? ⟨b,0,none⟩=some (.pointer (some ⟨b,0,none⟩))): Calls Tryz.prog 154 #[.pointer (some ⟨b,0,none⟩)] w λe w'=>e=.returned (.tuple #[])/\w'=w:=by obtain⟨j,Z,_⟩:=auQ.1 VB;go_enter Tryz.func154,Tryz.ntmps154;go_wp2;rw[Lib.run_neq_ptr_same w _ NY Z];go_wp2;go_end0;exact⟨rfl,rfl⟩
theorem agD(b:Nat)(w:World)(h0:w.cell? ⟨b,0,none⟩=some (.pointer none))(i1:w.shape? b=some (164,2))(H5:w.frozen? ⟨b,0,none⟩=false): Calls Tryz.prog 154 #[.pointer (some ⟨b,0,none⟩)] w λe w'=>e=.returned (.tuple #[])/\w'=w.setCell ⟨b,0,none⟩ (.pointer (some ⟨b,0,none⟩)):=by obtain⟨j,Z,agE⟩:=auQ.1 VB;go_enter Tryz.func154,Tryz.ntmps154;go_wp2;rw[Lib.run_to_unsafe w ⟨b,0,none⟩ NY VA Z (by rw[agE];decide) i1 (Nat.zero_lt_succ 1)];simp only[Result.andThen];rw[Oper.upon_value];go_wp2;rw[run_callFunc_extern Tryz.func218 atA atA atA (e:=Extern.AbiNoEscape.same) atA];rw[Lib.run_noEscape];simp only[Result.andThen];rw[Oper.upon_value];go_wp2;rw[Lib.run_from_unsafe w ⟨b,0,none⟩ VA NY Z i1 agB];simp only[Result.andThen];rw[Oper.upon_value];go_wp2;go_end0;exact⟨rfl,rfl⟩
theorem VC(w:World)(C:Nat->Nat):bf w C (.bl []) (.tuple #[]):=by exact .bl [] [] rfl (λj d v N W=>by simp at N)
def IW(b:Nat):D:=.an (.pointer (some ⟨b,0,none⟩))
theorem VD(b:Nat)(p:Value)(d:D)(o:aI)(au:p=.pointer none\/p=.pointer (some ⟨b,0,none⟩)):cV B 154 [.box 6000 b 0] (aK [(6000,.kU b 164 [.an p,d]),(6001,o)]) λr aM=>r=.bl []/\aM=aK [(6000,.kU b 164 [IW b,d]),(6001,o)]:=by refine⟨jD Tryz.func154 rfl atz,λw C args Ft gh qQ hH kZ=>?_⟩;obtain⟨nM,ae⟩:=kZ;match args,nM with|[a],_ =>have ha:=(ae 0 _ a rfl rfl).wA;subst ha;obtain⟨vs,G,h7,c6⟩:=hH.b' 6000 _ rfl;(match vs,h7.1 with|[B9,v],_ =>have Ac:=(h7.2 0 _ B9 rfl rfl).fL;subst Ac;(have ia:w.cell? ⟨b,0,none⟩=some B9:=by rw[Lib.cell_of_heap G];rfl);rcases au with rfl|rfl;refine(agD b w ia (by simp[World.shape?,G]) (Lib.frozen_of_heap G 0)).mono ?_;rintro e w' ⟨rfl,rfl⟩;have bi:b<w.heap.size:=(avu.1 G).1;(have bT:w.setCell ⟨b,0,none⟩ (.pointer (some ⟨b,0,none⟩))={w with heap:=w.heap.setIfInBounds b (.cells #[.pointer (some ⟨b,0,none⟩),v] 164 (0,0))}:=by(have aT:w.heap[b]=.cells #[.pointer none,v] 164 (0,0):=by have:=avd bi;rw[this]at G;exact auA G);unfold World.setCell;congr 1;apply Array.ext;simp;intro i h1 z;by_cases hi:i=b;subst hi;simp[Array.getElem_modify,aT];rw[Array.getElem_setIfInBounds];simp[Array.getElem_modify,Ne.symm hi];simpa using z);have aZ:=c7.Eo (bI:=.cells #[.pointer (some ⟨b,0,none⟩),v] 164 (0,0)) G c6;(have n':({w with heap:=w.heap.setIfInBounds b (.cells #[.pointer (some ⟨b,0,none⟩),v] 164 (0,0))}:World).heap[b]?=some (.cells #[.pointer (some ⟨b,0,none⟩),v] 164 (0,0)):=by simp[bi]);rw[<-bT]at aZ n';have bJ:=hH.cJ 6000 _ b rfl rfl;(have key:∀s x,aK [(6000,aI.kU b 164 [IW b,d]),(6001,o)] s=some x->(s=6000/\x=.kU b 164 [IW b,d])\/(s=6001/\x=o):=λs x h=>by simp only[aK]at h;cases h1:Nat.beq s 6000 with|true=>rw[h1]at h;exact .inl ⟨aua h1,(auA h).symm⟩|false =>rw[h1]at h;(cases z:Nat.beq s 6001 with|true=>rw[z]at h;exact .inr ⟨aua z,(auA h).symm⟩|false=>rw[z]at h;cases h));(have hD:∀s x,aK [(6000,aI.kU b 164 [IW b,d]),(6001,o)] s=some x->∃y,aK [(6000,aI.kU b 164 [.an (.pointer none),d]),(6001,o)] s=some y/\∀V,x.ec V->y.ec V:=λs x h=>by rcases key s x h with⟨rfl,rfl⟩|⟨rfl,rfl⟩;exact⟨_,rfl,λV bz=>bz⟩;exact⟨_,rfl,λV bz=>bz⟩);refine⟨_,_,C,_,rfl,⟨rfl,rfl⟩,VC _ _,(c7.refl Ft w C).trans aZ (λx _ F=>by subst F;exact bJ),⟨λs x h=>?_,λs bp x y V av h1 z ao cS=>?_,λs x V h ao=>?_⟩⟩;rcases key s x h with⟨rfl,rfl⟩|⟨rfl,rfl⟩;exact⟨[_,v],n',.cons (.an _) (.cons ((h7.2 1 _ v rfl rfl).ext aZ.ext) (.nil _ _)),c6⟩;exact(hH.b' 6001 _ rfl).iE aZ.ext λV bz=>aZ.iE V ((hH.b' 6001 _ rfl).lt bz) (λe=>by subst e;exact hH.inj 6001 6000 _ _ V aty rfl rfl bz rfl);obtain⟨bU,aa,aC⟩:=hD s x h1;obtain⟨Sp,a_,cC⟩:=hD bp y z;exact hH.inj s bp bU Sp V av aa a_ (aC V ao) (cC V cS);obtain⟨bU,aa,aC⟩:=hD s x h;exact .inl (hH.cJ s bU V aa (aC V ao));refine(agC b w ia).mono ?_;rintro e w' ⟨rfl,rfl⟩;exact⟨_,_,C,_,rfl,⟨rfl,rfl⟩,VC _ _,.refl _ _ _,⟨hH.b',hH.inj,λs x y h1 z=>.inl (hH.cJ s x y h1 z)⟩⟩)
def nQ(l:atE):List D:=l.map λc=>D.int .u8 c.toNat
theorem VE(a b:atE):nQ (a++b)=nQ a++nQ b:=auo
theorem uv(a:atE):(nQ a).length=a.length:=atL _
abbrev yP(b:Nat)(p v:Value)(xs:atE):List (Nat×aI):=[(6000,.kU b 164 [.an p,.an v]),(6001,.row v (nQ xs) 1 5)]
abbrev qm(b:Nat):Value:=.pointer (some ⟨b,0,none⟩)
theorem VF(b:Nat)(p v:Value)(xs s:atE)(au:p=.pointer none\/p=qm b)(al:xs.length+s.length<=100000000): cV B 105 [.box 6000 b 0,.O s] (aK (yP b p v xs)) λd aM=>∃c',True/\d=.bl [u s.length,.an .nilIface]/\aM=aK (yP b (qm b) c' (xs++s)):=by refine oP Tryz.func105 Tryz.ntmps105 λU=>?_;refine go ?_;refine ke [(6000,6000),(6001,6001)] (VD b p (.an v) (.row v (nQ xs) 1 5) au) ?_;refine .inr (af.HZ aL rfl rfl ?_);refine ez ?_;refine cT ?_;refine .inr (af.adr aL 6001 rfl rfl rfl aty rfl atA rfl rfl rfl (by rw[uv];show _*1<=_;omega) (by rw[uv];omega) λga cL AO=>?_);(conv=>whnf);refine cT ?_;refine .inr (af.SQ aL rfl rfl rfl ?_);(conv=>whnf);refine cT ?_;refine Y.Ca 14 6001 rfl ?_;refine go ?_;exact⟨.bl [u s.length,.an .nilIface],ar,.slice ga cL AO,ai,rfl,rfl,by rw[VE];rfl,ai⟩
theorem agF(b:Nat)(p v:Value)(tg:iD)(xs s:atE)(au:p=.pointer none\/p=qm b)(h0:0<s.length)(al:xs.length+s.length<=100000000): cV B 280 [.box 6000 b 0,.Q tg 1 (nQ s)] (aK (yP b p v xs)) λd aM=>∃c',True/\d=.bl [u (nQ s).length,.an .nilIface]/\aM=aK (yP b (qm b) c' (xs++s)):=by refine oP Tryz.func280 Tryz.ntmps280 λU=>?_;refine go ?_;refine ke [(6000,6000),(6001,6001)] (VD b p (.an v) (.row v (nQ xs) 1 5) au) ?_;refine .inr (af.HZ aL rfl rfl ?_);refine ez ?_;refine cT ?_;refine .inr (af.pc aL 6001 rfl rfl rfl aty rfl rfl rfl (by rw[uv];exact h0) (by rw[uv,uv];show _*1<=_;omega) (by rw[uv,uv];omega) λga cL AO=>?_);(conv=>whnf);refine cT ?_;refine .inr (af.SQ aL rfl rfl rfl ?_);(conv=>whnf);refine cT ?_;refine Y.Ca 14 6001 rfl ?_;refine go ?_;exact⟨.bl [u (nQ s).length,.an .nilIface],ar,.slice ga cL AO,ai,rfl,rfl,by rw[VE];rfl,ai⟩
theorem VG(b:Nat)(p v:Value)(xs:atE)(al:xs.length<=100000000)(h0:0<xs.length): cV B 107 [.box 6000 b 0] (aK (yP b p v xs)) λd aM=>d=.O xs/\aM=aK []:=by refine j_ Tryz.func107 Tryz.ntmps107 λU=>?_;apply en;refine go ?_;refine Y.ac9 6001 rfl (by rw[uv];exact h0) λdY cap W pi x'=>?_;subst W;refine' eR (yP b p (.slice (some ⟨dY,0,none⟩) (nQ xs).length cap) xs) 0 (λy=>[_,_,_,.an (.slice (some ⟨dY,0,none⟩) (nQ xs).length cap),.an (.pointer (some ⟨dY,0,none⟩)),_,_,_,.an (.slice (some ⟨dY,0,none⟩) (nQ xs).length cap),u (nQ xs).length,.O xs,_]) (λy=>[(10,6001,none)]) [0,1,3,7,15,0,32,96,224,480,1023,2047] [(10,6001)] ?_ ?_;rotate_left 7;refine dC ?_;refine bR (λy=>af.HZ aL rfl rfl ⟨rfl,cz y⟩) ?_;refine bR (λy=>af.ac2 rfl (by rw[uv]at pi;omega) (cz y)) ?_;refine bR (λy=>af.HZ aL rfl rfl ⟨rfl,cz y⟩) ?_;refine bR (λy=>af.ac5 aL (b:=dY) (cap:=cap) (aP:=xs) 6001 atA rfl rfl (by rw[uv];rfl) rfl (by rw[uv];rfl) h0 atv (cz y)) ?_;exact trivial;intro _;(conv=>whnf);refine go ?_;exact⟨.O xs,E,rfl,ai⟩
theorem agG(s p:atE):aS B 281 [.O s,.O p] (.bl [.O (Lib.trimPrefix s p),.bool (Lib.hasPrefix s p)]) :=
 .zW (jD Tryz.func281 rfl atz) rfl λw G=>(Tryz.strings_CutPrefix ⟨⟨s⟩⟩ ⟨⟨p⟩⟩ w).mono λe w' ⟨ak,cG⟩=>by
  subst cG
  exact⟨_,ak,λC=>.bl _ [_,_] rfl λi d v N W=>(by
   match i with
   |0=>cases N;cases W;exact .O _
   |1=>cases N;cases W;exact .bool _
   |i+2=>simp at N),.refl _ _⟩
theorem agH(tg:iD)(l:List atE)(sep:atE)(h1:l.length<=1000000)(z:(Lib.join l sep).length<=140737488355328):aS B 232 [.Q tg 1 (aU l),.O sep] (.O (Lib.join l sep)):=by refine⟨jD Tryz.func232 rfl atz,λw C args G ae=>?_⟩;(obtain⟨a,b,rfl⟩:∃a b,args=[a,b]:=by have:=ae.1;match args,this with|[a,b],_=>exact⟨a,b,rfl⟩);have agI:=(ae.tail.head).kw;subst agI;rcases ae.head.kz with⟨F,⟨dF,rfl⟩,_⟩|⟨dY,o,cap,g,rfl,_,m5,hcap,ms,X,c6,gd,ef,eO⟩;have sg:l=[]:=List.map_eq_nil_iff.1 F;subst sg;(exact(Tryz.strings_Join_none dF 0 ⟨⟨sep⟩⟩ w).mono λe w' ⟨ak,cG⟩=>by subst cG;exact⟨_,C,ak,.O [],.refl _ _ _⟩);(have hlen:(aU l).length=(l.map λx=>(⟨⟨x⟩⟩:ByteArray)).length:=by simp[aU]);(have Er:(l.map λx=>(⟨⟨x⟩⟩:ByteArray)).map (·.data.toList)=l:=by rw[avX];exact List.map_id' l);(have B':b1 (aU l)=aU l:=by rw[rO];intro x F;exact ayF);rw[hlen]at hcap⊢;refine(Tryz.strings_Join dY o cap (l.map λx=>⟨⟨x⟩⟩) ⟨⟨sep⟩⟩ w (λj x Z=>?_) m5 atw hcap (by rw[Er];exact z)).mono λe w' ⟨ak,cG⟩=>?_;rw[aud]at Z;(cases F:l[j]? with|none=>rw[F]at Z;cases Z|some y =>rw[F]at Z;cases Z;(have N:(b1 (aU l))[j]?=some (.O y):=by rw[B',aU,aud,F];rfl);rw[gd j _ N,(eO j _ N).kw]);rw[Er]at ak;exact⟨_,C,ak,.O _,c7.below cG⟩
def IX(k:Int):Int:=if k=0 then 4 else if k=1 then 8 else 10
theorem agJ(k:Int)(h0:0<=k)(h1:k<=2):aS B 234 [u k] (u (IX k)):=by obtain⟨i3,q3,qn,_⟩:=(aL.get (t:=3) rfl).1.qF;refine fn Tryz.func234 Tryz.ntmps234 λU=>?_;refine go ?_;refine dD (af.acF (q:=.i64) (ga:=4) (a2:=8) (a3:=10) atA q3 qn (λw=>by rfl) rfl rfl rfl) ?_;refine dD (af.ads (d:=u (IX k)) (n:=3) atA q3 qn atA rfl rfl h0 atv (by(have:k=0\/k=1\/k=2:=by omega);rcases this with rfl|rfl|rfl<;>rfl)) ?_;exact ub
def hj(l:List Int):atE:=l.flatMap CN
theorem yQ(l:List Int):(hj l).length=8*l.length:=by induction l with|nil=>rfl|cons x l aY=>simp only[hj,auJ,atO,IV,atQ]at*;omega
theorem agK{l:List Int}(h:i<l.length):hj (l.take (i+1))=hj (l.take i)++CN l[i]:=by rw[hj,atN h,avs,awW];rfl
theorem FG(tg:iD)(l:List Int)(h1:0<l.length)(z:l.length<=1000000)(h:∀x∈l,0<=x/\x<4294967296):aS B 233 [.Q tg 1 (l.map (D.int .i64))] (.O (hj l)):=by refine fn Tryz.func233 Tryz.ntmps233 λU=>?_;refine go ?_;refine .inr (af.SP aL rfl rfl λb=>?_);(conv=>whnf);refine Y.SR 3 (dt:=[.an (.pointer none),.an (.slice none 0 0)]) rfl ⟨E,aq.rQ,ai⟩ ?_;refine Y.qR 6001 1 5 ?_;refine go ?_;refine gn (λx:Nat×Value×Value=>x.1<=l.length/\(x.2.1=.pointer none\/x.2.1=qm b)) [3,8,9] [] (λx=>[(10,u x.1)]) (λx=>[(3,.kU b 164 [.an x.2.1,.an x.2.2]),(6001,.row x.2.2 (nQ (hj (l.take x.1))) 1 5)]) (λx=>l.length-x.1) (0,.pointer none,.slice none 0 0) ⟨at7 _,.inl rfl⟩ [(3,3),(6001,6001)] ?_;rintro⟨i,p,v⟩ ⟨hi,au⟩;dsimp only at hi au⊢;refine go ?_;refine cb (t:=decide ((i:Int)<(l.map (D.int .i64)).length)) ?_ ?_<;>intro hc;(have c0:i<l.length:=by simpa using hc);have hm:=h l[i] (atK c0);refine go ?_;refine br (agp l[i] hm.1 hm.2) ?_;refine uc [(6000,3),(6001,6001)] (VF b p v (hj (l.take i)) (CN l[i]) au (by rw[IV,yQ,at4];omega)) λc' _=>?_;refine eX (i+1,qm b,c') [(3,3),(6001,6001)] ⟨c0,.inr rfl⟩ (by dsimp only;omega) ⟨cH,rfl,?_⟩;rw[agK c0];exact cH;(have c0:i=l.length:=by simp at hc;omega);subst c0;rw[atW];refine go ?_;refine ke [(6000,3),(6001,6001)] (VG b p v (hj l) (by rw[yQ];omega) (by rw[yQ];omega)) ?_;exact ub
def qo(c:UInt8)(aW:atE):atE:=c::UInt8.ofNat aW.length::aW
theorem IY(c:UInt8)(aW:atE)(b:Nat)(p v:Value)(xs:atE)(au:p=.pointer none\/p=qm b)(av:aW.length<=255)(al:xs.length<=10000000): cV B 279 [.int .u8 c.toNat,.O aW,.box 6000 b 0] (aK (yP b p v xs)) λd aM=>∃c',True/\d=.bl []/\aM=aK (yP b (qm b) c' (xs++qo c aW)):=by(have e:(D.Q .dU 1 [.int .u8 c.toNat,.int .u8 (aW.length:Nat)])=.Q .dU 1 (nQ [c,UInt8.ofNat aW.length]):=by(have:((UInt8.ofNat aW.length).toNat:Nat)=aW.length:=by simp;omega);simp only[nQ,aum,avp,this]);refine oP Tryz.func279 Tryz.ntmps279 λU=>?_;refine go ?_;refine uc [(6000,6000),(6001,6001)] (agF b p v .dU xs [c,UInt8.ofNat aW.length] au atx atw) λjz _=>?_;refine uc [(6000,6000),(6001,6001)] (VF b (qm b) jz (xs++[c,UInt8.ofNat aW.length]) aW (.inr rfl) atw) λv2 _=>?_;exact⟨.bl [],ai,v2,ai,rfl,rfl,by rw[auj];rfl,ai⟩
def nm(p:atE):atE:=if p=[]then[]else if p=[46]then qo 2 []else if p=[46,46]then qo 4 []else qo 0 p
def vW(t:atE):atE:=(if Lib.hasPrefix t [47]=true then qo 8 []else[])++(cN 47 [] (Lib.trimPrefix t [47])).flatMap nm
theorem VH(p:atE):(nm p).length<=p.length+2:=by
 unfold nm;repeat' split
 all_goals simp[qo]
theorem VI{c:UInt8}:∀(s p:atE),p≠[]->∃x r,cN c p s=x::r/\x≠[]
 |[],p,h=>⟨p,[],rfl,h⟩
 |b::r,p,h=>by rw[cN];split;exact⟨p,_,rfl,h⟩;exact VI r (p++[b]) atx
theorem agL{p:atE}(h:p≠[]):nm p≠[]:=by unfold nm;rw[atG h];split;simp[qo];split<;>simp[qo]
theorem agM(t:atE)(h:t≠[]):0<(vW t).length:=by rw[auX];unfold vW;by_cases au:Lib.hasPrefix t [47]=true;rw[atH au];simp[qo];rw[atG au,au4];cases t with|nil=>exact absurd rfl h|cons b r =>have G:b≠47:=λe=>au (by subst e;simp[Lib.hasPrefix,List.isPrefixOf]);(have ax:Lib.trimPrefix (b::r) [47]=b::r:=by rw[Iu,gD,atG G]);rw[ax,cN,atG G];obtain⟨x,q,I,F⟩:=VI (c:=47) r ([]++[b]) atx;rw[I,auJ];exact λe=>agL F (awX.1 e).1
theorem agN(aV:dc B)(t:atE)(ax:k7 t=true):aS B 235 [.O t] (.bl [.O (vW t),u 0]):=by
 have aX:=agM t (by rintro rfl;cases ax)
 have i' : t.length<=128 := by unfold k7 at ax;split at ax;· cases ax
                               omega
 refine fn Tryz.func235 Tryz.ntmps235 λU=>?_;refine go ?_;refine br (Iw aV t atv) ?_;refine yp (t:=!k7 t) (by rw[ax];rfl) ?_;refine .inr (af.SP aL rfl rfl λb=>?_);(conv=>whnf);refine Y.SR 4 (dt:=[.an (.pointer none),.an (.slice none 0 0)]) rfl ⟨E,aq.rQ,ai⟩ ?_;refine Y.qR 6001 1 5 ?_;refine go ?_;refine br (agG t [47]) ?_;generalize l5:(if Lib.hasPrefix t [47]=true then qo 8 []else[])=pre;have dd:pre.length<=2:=by rw[<-l5];split<;>simp[qo]
 have agO:(Lib.trimPrefix t [47]).length<=128:=by rw[Iu];exact avb (Iv t) i'
 refine nf (λx:Value×Value=>x.1=.pointer none\/x.1=qm b) [4,5,6] [] (λ_=>[]) (λx=>[(4,.kU b 164 [.an x.1,.an x.2]),(6001,.row x.2 (nQ pre) 1 5)]) ?_ ?_
 ·refine hb (t:=Lib.hasPrefix t [47]) (λhc=>?_) (λhc=>?_)
  ·rw[atH hc]at l5;refine uc [(6000,4),(6001,6001)] (IY 8 [] b (.pointer none) (.slice none 0 0) [] (.inl rfl) atx atx) λc' _=>?_;subst l5;exact gp (qm b,c') [(4,4),(6001,6001)] (.inr rfl)
  rw[atG (by simp[hc])]at l5;subst l5;exact gp (.pointer none,.slice none 0 0) [(4,4),(6001,6001)] (.inl rfl)
 rintro⟨sT,v0⟩ nl;dsimp only at nl⊢;refine go ?_;refine br (It aV (Lib.trimPrefix t [47]) 47 atv) ?_;have fg:=s6 (c:=47) (Lib.trimPrefix t [47]) [];have oj:vW t=pre++(cN 47 [] (Lib.trimPrefix t [47])).flatMap nm:=by rw[<-l5];rfl
 generalize cN 47 [] (Lib.trimPrefix t [47])=bP at*;have uw:bP.length<=129:=atv
 have yR:∀x∈bP,x.length<=128:=λx F=>by have:=fg.2 x F;simp at this;omega
 have du:∀n,((bP.take n).flatMap nm).length<=130*n:=λn=>by
  induction n with
  |zero=>simp
  |succ n aY =>
   rcases at5 n bP.length with h|h
   ·rw[atN h,avs,atO,awW];have h1:=VH bP[n];have z:=yR _ (atK h);omega
   rw[aue atv]at aY⊢;omega
 refine gn (λx:Nat×Value×Value=>x.1<=bP.length/\(x.2.1=.pointer none\/x.2.1=qm b)) [4,5,23,24] [] (λx=>[(25,u x.1)]) (λx=>[(4,.kU b 164 [.an x.2.1,.an x.2.2]),(6001,.row x.2.2 (nQ (pre++(bP.take x.1).flatMap nm)) 1 5)]) (λx=>bP.length-x.1) (0,sT,v0) ⟨at7 _,nl⟩ [(4,4),(6001,6001)] ?_ (h1:=⟨cH,rfl,by simp only[av2,List.flatMap_nil,auK];exact cH⟩);rintro⟨i,p,v⟩ ⟨hi,au⟩;dsimp only at hi au⊢;refine go ?_;refine cb (t:=decide ((i:Int)<(aU bP).length)) ?_ ?_<;>intro hc
 ·have c0:i<bP.length:=by simp[aU]at hc;omega
  have hm:=yR _ (atK c0);have k3:=du i;have cW:(bP.take (i+1)).flatMap nm=(bP.take i).flatMap nm++nm bP[i]:=by rw[atN c0,avs,awW]
  have hQ:(pre++(bP.take i).flatMap nm).length<=1000000:=by rw[atO];omega
  refine go ?_;refine bH (.O bP[i]) (Ai rfl c0) ?_;refine hb (t:=bP[i]==[]) (λhc=>?_) (λhc=>?_)
  ·have hg:bP[i]=[]:=by simpa using hc
   refine eX (i+1,p,v) [(4,4),(6001,6001)] ⟨c0,au⟩ (by dsimp only;omega) ⟨cH,rfl,?_⟩;rw[cW,show nm bP[i]=[]from atH hg,auK];exact cH
  have hg:bP[i]≠[]:=by simpa using hc
  refine hb (t:=bP[i]==[46]) (λhc=>?_) (λhc=>?_)
  ·have kg:bP[i]=[46]:=by simpa using hc
   refine uc [(6000,4),(6001,6001)] (IY 2 [] b p v (pre++(bP.take i).flatMap nm) au atx atv) λc' _=>?_;refine eX (i+1,qm b,c') [(4,4),(6001,6001)] ⟨c0,.inr rfl⟩ (by dsimp only;omega) ⟨cH,rfl,?_⟩;rw[cW,show nm bP[i]=qo 2 []from(atG hg).trans (atH kg),<-auj];exact cH
  have kg:bP[i]≠[46]:=by simpa using hc
  refine hb (t:=bP[i]==[46,46]) (λhc=>?_) (λhc=>?_)
  ·have pz:bP[i]=[46,46]:=by simpa using hc
   refine uc [(6000,4),(6001,6001)] (IY 4 [] b p v (pre++(bP.take i).flatMap nm) au atx atv) λc' _=>?_;refine eX (i+1,qm b,c') [(4,4),(6001,6001)] ⟨c0,.inr rfl⟩ (by dsimp only;omega) ⟨cH,rfl,?_⟩;rw[cW,show nm bP[i]=qo 4 []from(atG hg).trans ((atG kg).trans (atH pz)),<-auj];exact cH
  have pz:bP[i]≠[46,46]:=by simpa using hc
  refine uc [(6000,4),(6001,6001)] (IY 0 bP[i] b p v (pre++(bP.take i).flatMap nm) au atv atv) λc' _=>?_;refine eX (i+1,qm b,c') [(4,4),(6001,6001)] ⟨c0,.inr rfl⟩ (by dsimp only;omega) ⟨cH,rfl,?_⟩;rw[cW,show nm bP[i]=qo 0 bP[i]from(atG hg).trans ((atG kg).trans (atG pz)),<-auj];exact cH
 have c0:i=bP.length:=by simp[aU]at hc;omega
 subst c0;rw[atW,<-oj];refine go ?_;refine ke [(6000,4),(6001,6001)] (VG b p v (vW t) (by rw[oj,atO];have:=du bP.length;rw[atW]at this;omega) aX) ?_;exact ar
theorem VJ(t:atE)(ax:k7 t=true):(vW t).length<=20000:=by
 have i' : t.length<=128 := by unfold k7 at ax;split at ax;· cases ax
                               omega
 have agO:(Lib.trimPrefix t [47]).length<=128:=by rw[Iu];exact avb (Iv t) i'
 have fg:=s6 (c:=47) (Lib.trimPrefix t [47]) []
 have du:∀(bP:List atE),(∀x∈bP,x.length<=128)->(bP.flatMap nm).length<=130*bP.length:=λbP=>by
  induction bP with
  |nil=>simp
  |cons x r aY =>
   intro F;have h1:=aY λy hy=>F y (.tail _ hy);have z:=VH x;have aa:=F x (.head _);simp only[auJ,atO,atQ];omega
 have:=du _ (λx F=>by have:=fg.2 x F;simp at this;omega);unfold vW;rw[atO];have fZ:(qo 8 []).length=2:=rfl;split
 ·omega
 rw[auf];omega
def yS(n:Int):Int:=(33+n+1).tdiv 2*2
def NZ(n:Int):Int:=(n+1).tdiv 2*2
def IZ(i aj:Int):Bool:=bif (bif (bif (bif decide (i<1)then true else decide (254<i))then true else decide (aj<0))then true else decide (254<aj))then true else aj.tmod 2 !=0
def vX(i aj:Int):Int:=if IZ i aj=true then 0 else if yS i+aj<=254 then yS i+aj else 0
theorem agP(n:Int)(h0:0<=n)(h1:n<1000000000000):aS B 242 [u n] (u (yS n)):=by refine bB Tryz.func242 Tryz.ntmps242 λU=>?_;apply b3;apply b3;refine vn ?_;refine⟨λ_=>by omega,?_⟩;refine go ?_;have I:(33+n+1).tdiv 2=(33+n+1)/2:=atX atv;refine go ?_;exact E
theorem agQ(n:Int)(h0:0<=n)(h1:n<1000000000000):aS B 250 [u n] (u (NZ n)):=by refine bB Tryz.func250 Tryz.ntmps250 λU=>?_;apply b3;apply b3;refine ll ?_;refine⟨λ_=>by omega,?_⟩;refine go ?_;have I:(n+1).tdiv 2=(n+1)/2:=atX atv;refine go ?_;exact E
theorem VK(n:Int)(h0:0<=n)(h1:n<1000000000000):aS B 171 [u n] (u (kj n)):=by refine bB Tryz.func171 Tryz.ntmps171 λU=>?_;exact axv
theorem agR{i aj:Int}(h:IZ i aj=false):1<=i/\i<=254/\0<=aj/\aj<=254:=by revert h;unfold IZ;cases h1:decide (i<1)<;>cases z:decide (254<i)<;>cases aa:decide (aj<0)<;>cases aC:decide (254<aj)<;>simp at h1 z aa aC⊢<;>omega
theorem agS{i:Int}(h0:0<=i)(h1:i<=1000):33<=yS i/\yS i<=1100:=by unfold yS;rw[atX atv];omega
theorem VL(i aj:Int):aS B 174 [u i,u aj] (u (vX i aj)):=by refine bB Tryz.func174 Tryz.ntmps174 λU=>?_;apply b3;refine gb ?_;refine iq ?_;refine iq ?_;refine iq ?_;refine na ?_;refine⟨λh=>by omega,?_⟩;refine go ?_;refine aJ (IZ i aj) rfl ?_ ?_<;>intro hc;refine go ?_;rw[vX,atH hc];exact E;refine go ?_;obtain⟨AP,qW,arH,arI⟩:=agR hc;have au:=agS (i:=i) atv atv;rw[vX,atG (by rw[hc];decide)];refine go ?_;refine br (agP i atv atv) ?_;refine aJ _ rfl ?_ ?_<;>intro hc;refine go ?_;rw[atH (by simpa using hc)];exact E;refine go ?_;rw[atG (by simpa using hc)];exact E
theorem agT(b6:Nat):aS B 229 [.fn (.func b6) [] []] (.Q .none 3 []):=by refine bB Tryz.func229 Tryz.ntmps229 λU=>?_;refine go ?_;exact aq.nil
def ux(n:Int):Bool:=bif (bif decide (n<34)then true else decide (254<n))then true else n.tmod 2 !=0
def te(oU n:Int):Int:=if 2048-oU.tmod 2048<n then oU+(2048-oU.tmod 2048)else oU
def I0(q:List Int×Int)(n:Int):List Int×Int:=(q.1++[te q.2 n],te q.2 n+n)
def ov(l:List Int):List Int×Int:=l.foldl I0 ([],0)
def sk(l:List Int):List Int×Int×Bool:=if l.any ux=true then([],0,false)else((ov l).1,(ov l).2,true)
theorem VM{l:List Int}(h:i<l.length):ov (l.take (i+1))=I0 (ov (l.take i)) l[i]:=by rw[ov,ov,atN h,auU];rfl
theorem VN(a n:Int)(h0:0<=a)(av:n<=254):a<=te a n/\te a n<=a+2048:=by unfold te;rw[auZ h0];split<;>omega
theorem FH{n:Int}(h:ux n=false):34<=n/\n<=254:=by revert h;unfold ux;cases h1:decide (n<34)<;>cases z:decide (254<n)<;>simp at h1 z⊢<;>omega
theorem N0{l:List Int}(al:∀j (Z:j<l.length),ux l[j]=false):∀k,k<=l.length->(ov (l.take k)).1.length=k/\0<=(ov (l.take k)).2/\(ov (l.take k)).2<=2302*(k:Int)
 |0,_=>by simp[ov]
 |k+1,X=>by(have fA:k<l.length:=by omega);obtain⟨h1,z,aa⟩:=N0 al k atv;have aC:=FH (al k fA);have a_:=VN (ov (l.take k)).2 l[k] z aC.2;rw[VM fA];simp only[I0,atO,atQ,auf];omega
theorem agU(l:List Int)(al:l.length<1000000):aS B 251 [.Q .none 1 (bn l)] (.bl [.Q .none 1 (bn (sk l).1),u (sk l).2.1,.bool (sk l).2.2]):=by
 refine bB Tryz.func251 Tryz.ntmps251 λU=>?_;apply b3;apply b3;apply b3;refine p8 ?_;refine Y.own 5 1000 1 3 rfl (λw=>?_);refine go ?_
 refine Y.ed (α:={i:Nat // i<=l.length/\∀j (Z:j<l.length),j<i->ux l[j]=false}×Value) (λx=>[(5,.Q (.own 1000 x.2) 1 (bn (ov (l.take x.1.1)).1)),(6,u (ov (l.take x.1.1)).2),(10,.Q .none 1 (bn l)),(11,u ((bn l).length:Nat)),(12,u x.1.1)])
  (λx=>[(1000,.own x.2 (bn (ov (l.take x.1.1)).1).length 1 3)]) (λx=>l.length-x.1.1) (⟨0,by omega,λj _ h=>by omega⟩,w) [(1000,1000)]
  ⟨ar,rfl,ba⟩ ?_
 rintro⟨⟨i,hi,cv⟩,w⟩;dsimp only at hi cv⊢;refine go ?_;refine aJ (decide ((i:Int)<((bn l).length:Nat))) rfl ?_ ?_<;>intro hc
 ·apply cl;have aE:i<l.length:=by simpa[bn]using hc
  have cW:=VM aE;have i':(l.take i).length=i:=by rw[at4];omega
  have oV:=N0 (l:=l.take i) (λj Z=>by rw[awv];exact cv j atv atv) i atv;rw[List.take_take,Nat.min_self]at oV;obtain⟨hg,kg,pz⟩:=oV;generalize it:ov (l.take i)=agV at*;obtain⟨cm,oU⟩:=agV;dsimp only at hg kg pz;refine gK ?_;refine⟨λ_=>by simp[bn];omega,?_⟩;refine go ?_;refine⟨u l[i],λ_=>by simp[bn,aE],?_⟩;refine gb ?_;refine iq ?_;refine na ?_;refine⟨λh=>by omega,?_⟩;refine go ?_;refine aJ (ux l[i]) rfl ?_ ?_<;>intro bw
  ·refine go ?_;have G:l.any ux=true:=au1.2 ⟨l[i],atK aE,bw⟩;rw[sk,atH G];exact⟨aq.nil,E,E,ai⟩
  apply cl;have AQ:=FH bw;have uy:=VN oU l[i] kg AQ.2;have I:oU.tmod 2048=oU%2048:=auZ kg;(conv=>whnf);refine Y.l0 (α:=Unit) (λx=>[(5,.Q (.own 1000 w) 1 (bn cm)),(6,u (te oU l[i])),(8,u l[i]),(10,.Q .none 1 (bn l)),(11,u ((bn l).length:Nat)),(12,u i)]) (λx=>[(1000,.own w (bn cm).length 1 3)]) ?_ ?_
  ·refine ch ?_;refine⟨λ_=>by omega,?_⟩;refine go ?_;refine aJ (decide (2048-oU.tmod 2048<l[i])) rfl ?_ ?_<;>intro dO
   ·refine go ?_;exact⟨(),[(1000,1000)],⟨E,aq.of_eq (atI (D.int .i64) (by rw[te,atH (by simpa using dO)])),E,E,E,E,ai⟩,rfl,ba⟩
   refine go ?_;exact⟨(),[(1000,1000)],⟨E,aq.of_eq (atI (D.int .i64) (by rw[te,atG (by simpa using dO)])),E,E,E,E,ai⟩,rfl,ba⟩
  rintro⟨⟩;have c0:(bn cm).length=i:=by rw[bn,atL,hg]
  refine ch ?_;refine nE ?_;refine⟨by show(_+1)*8<=_;omega,by show _+1<=_;omega,atC,λgQ=>?_⟩;refine go ?_;have ak:(ov (l.take (i+1))).1=cm++[te oU l[i]]:=by rw[cW];rfl
  have FI:(ov (l.take (i+1))).2=te oU l[i]+l[i]:=by rw[cW];rfl
  exact⟨(⟨i + 1,aE,λj Z h => by rcases at5 j i with lD|lD
                                ·exact cv j Z lD
                                have:j=i:=atv
                                subst this;exact bw⟩,gQ),[(1000,39)],ayq,⟨aq.kd (by rw[ak,bn,bn,auo];rfl),aq.of_eq (atI (D.int .i64) FI.symm),E,E,E,ai⟩,rfl,rfl,kG (by rw[ak,bn,bn,auo];simp),ai⟩
 have cg:i=l.length:=by simp[bn]at hc;omega
 subst cg
 have G:¬l.any ux=true:=by
  rw[au1];rintro⟨x,F,yT⟩;obtain⟨j,Z,rfl⟩:=auh.1 F;rw[cv j Z Z]at yT;cases yT
 rw[atW,sk,atG G];refine go ?_;exact⟨aq.m7,E,E,ai⟩
def yU(l:List Int):Int:=((sk l).2.1+2048-1).tdiv 2048
theorem VO(l:List Int)(al:l.length<1000000):0<=(sk l).2.1/\(sk l).2.1<=2302000000:=by unfold sk;split;decide;rename_i h;have:=N0 (l:=l) (λj Z=>by cases G:ux l[j]with|false=>rfl|true=>exact absurd (au1.2 ⟨l[j],atK Z,G⟩) h) l.length (atP _);rw[atW]at this;simp only;omega
theorem agW(l:List Int)(al:l.length<1000000):0<=yU l/\yU l<=2000000:=by have:=VO l al;unfold yU;rw[atX atv];omega
theorem agX(l:List Int)(al:l.length<1000000):aS B 180 [.Q .none 1 (bn l)] (u (yU l)):=by refine bB Tryz.func180 Tryz.ntmps180 λU=>?_;refine ch ?_;have oV:=VO l al;have I:((sk l).2.1+2048-1).tdiv 2048=((sk l).2.1+2048-1)/2048:=atX atv;refine ch ?_;refine⟨[.Q .none 1 (bn l)],_,λ_=>agU l al,ar,?_⟩;apply b3;refine vn ?_;refine⟨λ_=>by omega,?_⟩;refine go ?_;exact E
structure c_ where
 qp:atE
 FJ:Int
 data:atE
 deriving Inhabited
def AR(x:c_):D:=.agg [.O x.qp,u x.FJ,.O x.data]
def eA(l:List c_):List D:=l.map AR
def iu(l:List c_):Int:=l.foldl (λn x=>n+(4+(x.data.length:Nat))) 0
theorem I1{l:List c_}(h:i<l.length):iu (l.take (i+1))=iu (l.take i)+(4+(l[i].data.length:Nat)):=by rw[iu,iu,atN h,auU];rfl
theorem FK{l:List c_}(N:∀x∈l,x.data.length<1000000):∀k,k<=l.length->0<=iu (l.take k)/\iu (l.take k)<=1000004*(k:Int)
 |0,_=>by simp[iu]
 |k+1,X=>by have:=FK N k atv;have z:=N _ (atK (show k<l.length by omega));rw[I1 atv];omega
theorem I2(l:List c_)(al:l.length<1000000)(N:∀x∈l,x.data.length<1000000):aS B 241 [.Q .none 3 (eA l)] (u (iu l)):=by refine bB Tryz.func241 Tryz.ntmps241 λU=>?_;refine go ?_;refine Y.ed (α:={i:Nat // i<=l.length}) (λx=>[(3,u (iu (l.take x.1))),(6,.Q .none 3 (eA l)),(7,u ((eA l).length:Nat)),(8,u x.1)]) (λ_=>[]) (λx=>l.length-x.1) ⟨0,by omega⟩ [] ⟨ar,rfl,ai⟩ ?_;rintro⟨i,hi⟩;dsimp only at hi⊢;refine go ?_;refine aJ (decide ((i:Int)<((eA l).length:Nat))) rfl ?_ ?_<;>intro hc;apply cl;(have aE:i<l.length:=by simpa[eA]using hc);have AQ:=FK N i hi;have cW:=I1 aE;have lZ:=N _ (atK aE);generalize gc:iu (l.take i)=S at*;refine gK ?_;refine⟨λ_=>by simp[eA];omega,?_⟩;refine go ?_;refine⟨AR l[i],λ_=>by simp[eA,aE],?_⟩;refine go ?_;intro cx;refine go ?_;exact⟨⟨i+1,aE⟩,[],ayq,⟨aq.of_eq (atI (D.int .i64) cW.symm),E,E,E,ai⟩,rfl,ai⟩;refine go ?_;(have cg:i=l.length:=by simp[eA]at hc;omega);exact ayo
def FL(c:Int):Bool:=bif (bif decide (c<65)then true else decide (90<c))then(bif decide (c<48)then true else decide (57<c))else false
def FM(s:atE):Bool:=if(s.any λc=>FL (c.toNat:Nat))=true then false else((s.length:Nat):Int)==2
theorem agY(s:atE)(hs:s.length<1000000000):aS B 289 [.O s] (.bool (FM s)):=by
 refine bB Tryz.func289 Tryz.ntmps289 λU=>?_;refine go ?_;refine .inr (af.r0 aL rfl rfl rfl rfl rfl rfl rfl atv ?_);refine go ?_;refine Y.ed (α:={i:Nat // i<=s.length/\∀j (Z:j<s.length),j<i->FL (s[j].toNat:Nat)=false}) (λx=>[(0,.O s),(6,.Q .none 1 (s.map λc=>D.int .u8 c.toNat)),(7,u ((s.map λc=>D.int .u8 c.toNat).length:Nat)),(8,u x.1)]) (λ_=>[]) (λx=>s.length-x.1) ⟨0,by omega,λj _ h=>by omega⟩ [] ⟨ar,rfl,ai⟩ ?_;rintro⟨i,hi,cv⟩;dsimp only at hi cv⊢;refine go ?_;refine aJ (decide ((i:Int)<((s.map λc=>D.int .u8 c.toNat).length:Nat))) rfl ?_ ?_<;>intro hc
 ·apply cl;have aE:i<s.length:=by simpa using hc
  refine gK ?_;refine⟨λ_=>by rw[atL];omega,?_⟩;(conv=>whnf);refine⟨.int .u8 (s[i].toNat:Nat),λ_=>by simp[aE],?_⟩;refine go ?_;refine aJ (FL (s[i].toNat:Nat)) rfl ?_ ?_<;>intro bw
  ·refine go ?_;have G:(s.any λc=>FL (c.toNat:Nat))=true:=au1.2 ⟨s[i],atK aE,bw⟩;rw[FM,atH G];exact E
  refine go ?_
  exact⟨⟨i + 1,aE,λj Z h => by rcases at5 j i with lD|lD
                               ·exact cv j Z lD
                               have:j=i:=atv
                               subst this;exact bw⟩,[],ayp,ar,rfl,ai⟩
 refine go ?_;have cg:i=s.length:=by simp at hc;omega
 subst cg
 have G:¬(s.any λc=>FL (c.toNat:Nat))=true:=by
  rw[au1];rintro⟨x,F,yT⟩;obtain⟨j,Z,rfl⟩:=auh.1 F;rw[cv j Z Z]at yT;cases yT
 rw[FM,atG G];refine go ?_;exact E
def xd(x:c_):Option Int :=
 if(!FM x.qp)=true then some 1 else if(bif decide (x.FJ<0)then true else decide (255<x.FJ))=true then some 2 else if(251:Int)<(x.data.length:Nat)then some 7 else none
def xe(l:List c_):Int:=if(1024:Int)<((eA l).length:Nat)then 7 else(l.findSome? xd).getD 0
theorem FN{bA:Type}{p:bA->Option Int}{l:List bA}{e:Int}(h:i<l.length)(av:∀j (Z:j<l.length),j<i->p l[j]=none)(ak:p l[i]=some e):l.findSome? p=some e:=by induction l generalizing i with|nil=>simp at h|cons a r aY =>(cases i with|zero=>simp at ak;simp[ak]|succ i =>have h0:=av 0 atx atv;simp at h0;rw[List.findSome?_cons,h0];exact aY (i:=i) (by simpa using h) (λj Z fc=>av (j+1) (by simpa using Z) atv) (by simpa using ak))
theorem N1{bA:Type}{p:bA->Option Int}{l:List bA}(av:∀j (Z:j<l.length),p l[j]=none):l.findSome? p=none :=
 List.findSome?_eq_none_iff.2 λx F=>by obtain⟨j,Z,rfl⟩:=auh.1 F;exact av j Z
theorem agZ(l:List c_)(al:l.length<1000000)(N:∀x∈l,x.qp.length<1000000/\x.data.length<1000000):aS B 240 [.Q .none 3 (eA l)] (u (xe l)):=by
 refine bB Tryz.func240 Tryz.ntmps240 λU=>?_;refine go ?_;refine aJ (decide ((1024:Int)<((eA l).length:Nat))) rfl ?_ ?_<;>intro hc
 ·refine go ?_;rw[xe,atH (by simpa using hc)];exact E
 refine go ?_;rw[xe,atG (by simpa using hc)];refine go ?_;refine Y.ed (α:={i:Nat // i<=l.length/\∀j (Z:j<l.length),j<i->xd l[j]=none}) (λx=>[(8,.Q .none 3 (eA l)),(9,u ((eA l).length:Nat)),(10,u x.1)]) (λ_=>[]) (λx=>l.length-x.1) ⟨0,by omega,λj _ h=>by omega⟩ [] ⟨ar,rfl,ai⟩ ?_;rintro⟨i,hi,cv⟩;dsimp only at hi cv⊢;refine go ?_;refine aJ (decide ((i:Int)<((eA l).length:Nat))) rfl ?_ ?_<;>intro bw
 ·apply cl;have aE:i<l.length:=by simpa[eA]using bw
  have lZ:=N _ (atK aE);refine gK ?_;refine⟨λ_=>by simp[eA];omega,?_⟩;refine go ?_;refine⟨AR l[i],λ_=>by simp[eA,aE],?_⟩;refine go ?_;intro cP;refine go ?_;refine br (agY l[i].qp atv) ?_;refine aJ (!FM l[i].qp) rfl ?_ ?_<;>intro dO
  ·refine go ?_;rw[FN aE cv (e:=1) (by rw[xd,atH dO])];exact E
  refine go ?_;refine aJ (bif decide (l[i].FJ<0)then true else decide (255<l[i].FJ)) rfl ?_ ?_<;>intro kf
  ·refine go ?_;rw[FN aE cv (e:=2) (by rw[xd,atG (by rw[dO];decide),atH kf])];exact E
  refine go ?_;refine aJ (decide ((251:Int)<(l[i].data.length:Nat))) rfl ?_ ?_<;>intro vV
  ·refine go ?_;rw[FN aE cv (e:=7) (by rw[xd,atG (by rw[dO];decide),atG (by rw[kf];decide),atH (by simpa using vV)])];exact E
  refine go ?_
  exact⟨⟨i + 1,aE,λj Z h => by rcases at5 j i with lD|lD
                               ·exact cv j Z lD
                               have:j=i:=atv
                               subst this;rw[xd,atG (by rw[dO];decide),atG (by rw[kf];decide),atG (by simpa using vV)]⟩,[],ayq,ar,rfl,ai⟩
 have cg:i=l.length:=by simp[eA]at bw;omega
 subst cg;rw[N1 λj Z=>cv j Z Z];refine go ?_;exact E
theorem FO(a b:atE):Lib.join [a,b] []=a++b:=by rw[Lib.join_cons];simp[Lib.joinTail]
theorem uz(c:Bool)(FE:atE)(tg:iD)(l:List atE)(b:Nat)(v:Value)(xs:List D)(al:l.length<=1000000)(Z:(Lib.join l []).length<=140737488355328)(F:xs.length<=1000000): cV B 231 [.bool c,.O FE,.Q tg 1 (aU l),.box 7000 b 0] (aK [(7000,.box b [.an v]),(7001,.row v xs 3 238)]) λd aM=>∃c',True/\d=.bl []/\aM=aK [(7000,.box b [.an c']),(7001,.row c' (xs++if c=true then[lC FE (Lib.join l [])]else[]) 3 238)]:=by refine oP Tryz.func231 Tryz.ntmps231 λU=>Y.SX ?_;refine go ?_;refine hb (t:=c) (λhc=>?_) (λhc=>?_);refine Y.zX aL 6 mixed atz ?_;(conv=>whnf);refine go ?_;refine br (agH tg l [] al Z) ?_;refine .inr (af.pc aL 7001 rfl rfl rfl aty rfl rfl rfl atx (by show(_+1)*40<=_;omega) (by show _+1<=_;omega) λga cL AO=>?_);(conv=>whnf);refine go ?_;subst hc;refine Tf [] [(7000,.box b [.an (.slice ga cL AO)]),(7001,.row (.slice ga cL AO) (xs++[lC FE (Lib.join l [])]) 3 238)] [(7000,7000),(7001,14)] ?_;exact⟨.bl [],ai,.slice ga cL AO,ai,rfl,ba⟩;subst hc;refine Tf [] [(7000,.box b [.an v]),(7001,.row v xs 3 238)] [(7000,7000),(7001,7001)] ?_;exact⟨.bl [],ai,v,ai,rfl,rfl,atI (λV=>some (aI.row v V 3 238)) (auK xs).symm,ai⟩
def uA(hh kind:Int):Int:=qD .or .i64 hh (IntKind.i64.wrap (IX kind*2 ^ min (Int.toNat 12) IntKind.i64.bits))
def uB(kind hh kk kl km:Int)(named:Bool)(name target:atE)(fl bZ:Int)(j2:Bool):List c_ :=
 ⟨[80,88],1,hj [uA hh kind,kk,kl,km]⟩::((if named=true then[⟨[78,77],1,[0]++name⟩]else[])++((if target≠[]then[⟨[83,76],1,[0]++vW target⟩]else[]) ++
  (⟨[84,70],1,[2]++(vT fl 0).1⟩::((if bZ≠0 then[⟨[67,76],1,hj [bZ]⟩]else[])++if j2=true then[⟨[82,69],1,[]⟩]else[]))))
theorem VP(aV:dc B)(kind hh kk kl km:Int)(named:Bool)(name target:atE)(fl bZ:Int)(j2:Bool)(h:NX kind hh kk kl km named name target fl bZ)(ag0:0<=uA hh kind/\uA hh kind<4294967296)(VQ:∀x∈[kk,kl,km,bZ],0<=x/\x<4294967296): aS B 162 [sj true kind hh kk kl km named name target true fl bZ 0 j2] (.bl [.Q .none 3 (eA (uB kind hh kk kl km named name target fl bZ j2)),u 0]):=by refine fn Tryz.func162 Tryz.ntmps162 λU=>?_;refine go ?_;intro dz;(conv=>whnf);refine go ?_;refine br (agy aV kind hh kk kl km named name target fl bZ j2 h) ?_;intro cx;(conv=>whnf);refine Y.jx 5 (dt:=[.an (.slice none 0 0)]) rfl ⟨aq.rQ,ai⟩ ?_;refine Y.qR 7001 3 238 ?_;refine go ?_;have ag1:=agJ (B:=B) kind h.gB h.ce;have ag2:=FG (B:=B) .dU [uA hh kind,kk,kl,km] atx atx (λx F=>by rcases at6.1 F with rfl|F;exact ag0;exact VQ x (by simp at F⊢;rcases F with rfl|rfl|rfl<;>simp));let CP:List D:=(sj true kind hh kk kl km named name target true fl bZ 0 j2).cells;let FP:List D:=[]++if(true:Bool)=true then[lC [80,88] (Lib.join [hj [uA hh kind,kk,kl,km]] [])]else[];let FQ:List D:=FP++if named=true then[lC [78,77] (Lib.join [[0],name] [])]else[];let yV:List D:=FQ++if target≠[]then[lC [83,76] (Lib.join [[0],vW target] [])]else[];let oW:List D:=yV++if(true:Bool)=true then[lC [84,70] (Lib.join [[2],(vT fl 0).1] [])]else[];let pE:List D:=oW++if(bZ !=0)=true then[lC [67,76] (Lib.join [hj [bZ]] [])]else[];let vY:List D:=pE++if((0:Int)!=0)=true then[lC [80,76] (Lib.join [hj [0]] [])]else[];let VR:List D:=vY++if j2=true then[lC [82,69] (Lib.join [] [])]else[];(have dI:FP.length<=1:=by simp[FP]);(have cu:FQ.length<=2:=by simp only[FQ,atO];split<;>simp<;>omega);(have q':yV.length<=3:=by simp only[yV,atO];split<;>simp<;>omega);(have I3:oW.length<=4:=by simp only[oW,atO];split<;>simp<;>omega);(have ag3:pE.length<=5:=by simp only[pE,atO];split<;>simp<;>omega);(have ag4:vY.length<=6:=by simp only[vY,atO];split<;>simp<;>omega);refine' eR [(1,.box dz CP),(5,.box cx [.an (.slice none 0 0)]),(7001,.row (.slice none 0 0) [] 3 238)] (α:=Value) (.slice none 0 0) (λy=>[_,_,_,_,_,_,_,_,_,_,_,_,_,_,_,_,_,.bl []]) (λy=>[(17,5,some (.box cx [.an y])),(17,7001,some (.row y ([]++if(true)=true then[lC [80,88] (Lib.join [(hj [uA hh kind,kk,kl,km])] [])]else[]) 3 238))]) [0,0,2,0,8,24,56,126,0,256,0,1024,0,4096,16382,32766,65534,131071] [(17,5),(17,7001)] ?_ ?_;rotate_left 17;refine dC ?_;refine bR (λy=>af.yq rfl [.bool (true),.O [80,88],.Q .dU 1 (aU [(hj [uA hh kind,kk,kl,km])]),.box 7000 cx 0] [(7000,5),(7001,7001)] r3 (uz (true) [80,88] .dU [(hj [uA hh kind,kk,kl,km])] cx (.slice none 0 0) [] atx (by simp[Lib.join_one,yQ]) atx) rfl jd λc' _=>d0 c') ?_;exact trivial;intro jz;(conv=>whnf);refine go ?_;clear ag2 ag1;refine uc [(7000,5),(7001,7001)] (uz named [78,77] .dU [[0],name] cx jz FP atx (by rw[FO];simp;have:=h.CO;omega) atv) λv2 _=>?_;refine nf (α:=Value) (λ_=>True) [1,5,6] [1] (λ_=>[]) (λx=>[(5,.box cx [.an x]),(7001,.row x yV 3 238)]) ?_ ?_;refine hb (t:=target !=[]) (λhc=>?_) (λhc=>?_);(have ax:target≠[]:=by simpa using hc);refine br (agN aV target (h.t.resolve_left ax)) ?_;refine uc [(7000,5),(7001,7001)] (uz true [83,76] .dU [[0],vW target] cx v2 FQ atx (by rw[FO];have:=VJ target (h.t.resolve_left ax);simp;omega) atv) λv3 _=>?_;refine gp v3 [(1,1),(5,5),(7001,7001)] trivial ⟨cH,rfl,?_⟩;simp only[yV,atH ax];exact cH;(have ax:target=[]:=by simpa using hc);refine gp v2 [(1,1),(5,5),(7001,7001)] trivial ⟨cH,rfl,?_⟩;simp only[yV,atG (show¬target≠[]from λh=>h ax),auK];exact cH;intro v3 _;refine go ?_;refine br (Vr fl 0) ?_;refine uc [(7000,5),(7001,7001)] (uz true [84,70] .dU [[2],(vT fl 0).1] cx v3 yV atx (by rw[FO];have:=Vs fl 0;simp;omega) atv) λv4 _=>?_;have ag5:=FG (B:=B) .dU [bZ] atx atx (λx F=>VQ x (by simp at F⊢;simp[F]));refine' eR [(1,.box dz CP),(5,.box cx [.an v4]),(7001,.row v4 oW 3 238)] (α:=Value) v4 (λy=>[_,_,_,_,_,_,_,_,_,.bl []]) (λy=>[(9,5,some (.box cx [.an y])),(9,7001,some (.row y (oW++if(bZ !=0)=true then[lC [67,76] (Lib.join [(hj [bZ])] [])]else[]) 3 238))]) [0,0,2,6,0,16,48,112,240,511] [(9,5),(9,7001)] ?_ ?_;rotate_left 9;refine dC ?_;refine bR (λy=>af.yq rfl [.bool (bZ !=0),.O [67,76],.Q .dU 1 (aU [(hj [bZ])]),.box 7000 cx 0] [(7000,5),(7001,7001)] r3 (uz (bZ !=0) [67,76] .dU [(hj [bZ])] cx v4 oW atx (by simp[Lib.join_one,yQ]) atv) rfl jd λc' _=>d0 c') ?_;exact trivial;intro v5;(conv=>whnf);refine go ?_;clear ag5;have VS:=FG (B:=B) .dU [0] atx atx (λx F=>by simp at F;omega);refine' eR [(1,.box dz CP),(5,.box cx [.an v5]),(7001,.row v5 pE 3 238)] (α:=Value) v5 (λy=>[_,_,_,_,_,_,_,_,_,.bl []]) (λy=>[(9,5,some (.box cx [.an y])),(9,7001,some (.row y (pE++if((0:Int)!=0)=true then[lC [80,76] (Lib.join [(hj [0])] [])]else[]) 3 238))]) [0,0,2,6,0,16,48,112,240,511] [(9,5),(9,7001)] ?_ ?_;rotate_left 9;refine dC ?_;refine bR (λy=>af.yq rfl [.bool ((0:Int)!=0),.O [80,76],.Q .dU 1 (aU [(hj [0])]),.box 7000 cx 0] [(7000,5),(7001,7001)] r3 (uz ((0:Int)!=0) [80,76] .dU [(hj [0])] cx v5 pE atx (by simp[Lib.join_one,yQ]) atv) rfl jd λc' _=>d0 c') ?_;exact trivial;intro Cc;(conv=>whnf);refine go ?_;refine .inr (af.yq rfl [.bool j2,.O [82,69],.Q .none 1 (aU []),.box 7000 cx 0] [(7000,5),(7001,7001)] r3 (uz j2 [82,69] .none [] cx Cc vY atx (by simp[Lib.join_nil]) atv) rfl jd λH4 _=>?_);(conv=>whnf);refine cT ?_;refine Y.HJ 7001 5 0 rfl rfl aty rfl ?_;(have e:VR=eA (uB kind hh kk kl km named name target fl bZ j2):=by simp only[FP,FQ,yV,oW,pE,vY,VR,uB,eA,FO,Lib.join_one,Lib.join_nil,auT,bne_self_eq_false,auR,avq,auK,au4,aum,auo];by_cases h1:target=[]<;>by_cases z:bZ=0<;>cases named<;>cases j2<;>simp[h1,z,lC,AR]);refine go ?_;exact⟨.of_eq (atI (D.Q .none 3) e),E,ai⟩
theorem ag6(aV:dc B):aS B 162 [sj false 0 0 0 0 0 false [] [] false 0 0 1 false] (.bl [.Q .none 3 (eA [⟨[80,76],1,hj [1]⟩]),u 0]):=by refine fn Tryz.func162 Tryz.ntmps162 λU=>?_;refine go ?_;intro dz;(conv=>whnf);refine go ?_;refine br (agz aV) ?_;intro cx;(conv=>whnf);refine Y.jx 5 (dt:=[.an (.slice none 0 0)]) rfl ⟨aq.rQ,ai⟩ ?_;refine Y.qR 7001 3 238 ?_;let CP:List D:=(sj false 0 0 0 0 0 false [] [] false 0 0 1 false).cells;let oW:List D:=[]++if(false:Bool)=true then[lC [78,77] (Lib.join [[0],[]] [])]else[];let pE:List D:=oW++if((0:Int)!=0)=true then[lC [67,76] (Lib.join [hj [0]] [])]else[];let vY:List D:=pE++if((1:Int)!=0)=true then[lC [80,76] (Lib.join [hj [1]] [])]else[];(have I3:oW.length<=1:=by simp[oW]);(have ag3:pE.length<=1:=by simp[pE,oW]);(have ag4:vY.length<=1:=by simp[vY,pE,oW]);refine go ?_;refine uc [(7000,5),(7001,7001)] (uz false [78,77] .dU [[0],[]] cx (.slice none 0 0) [] atx (by rw[FO];simp) atx) λv2 _=>?_;have VS:=FG (B:=B) .dU [0] atx atx (λx F=>by simp at F;omega);refine' eR [(1,.box dz CP),(5,.box cx [.an v2]),(7001,.row v2 oW 3 238)] (α:=Value) v2 (λy=>[_,_,_,_,_,_,_,_,_,.bl []]) (λy=>[(9,5,some (.box cx [.an y])),(9,7001,some (.row y (oW++if((0:Int)!=0)=true then[lC [67,76] (Lib.join [(hj [0])] [])]else[]) 3 238))]) [0,0,2,6,0,16,48,112,240,511] [(9,5),(9,7001)] ?_ ?_;rotate_left 9;refine dC ?_;refine bR (λy=>af.yq rfl [.bool ((0:Int)!=0),.O [67,76],.Q .dU 1 (aU [(hj [0])]),.box 7000 cx 0] [(7000,5),(7001,7001)] r3 (uz ((0:Int)!=0) [67,76] .dU [(hj [0])] cx v2 oW atx (by simp[Lib.join_one,yQ]) atv) rfl jd λc' _=>d0 c') ?_;exact trivial;intro v5;(conv=>whnf);refine go ?_;clear VS;have arJ:=FG (B:=B) .dU [1] atx atx (λx F=>by simp at F;omega);refine' eR [(1,.box dz CP),(5,.box cx [.an v5]),(7001,.row v5 pE 3 238)] (α:=Value) v5 (λy=>[_,_,_,_,_,_,_,_,_,.bl []]) (λy=>[(9,5,some (.box cx [.an y])),(9,7001,some (.row y (pE++if((1:Int)!=0)=true then[lC [80,76] (Lib.join [(hj [1])] [])]else[]) 3 238))]) [0,0,2,6,0,16,48,112,240,511] [(9,5),(9,7001)] ?_ ?_;rotate_left 9;refine dC ?_;refine bR (λy=>af.yq rfl [.bool ((1:Int)!=0),.O [80,76],.Q .dU 1 (aU [(hj [1])]),.box 7000 cx 0] [(7000,5),(7001,7001)] r3 (uz ((1:Int)!=0) [80,76] .dU [(hj [1])] cx v5 pE atx (by simp[Lib.join_one,yQ]) atv) rfl jd λc' _=>d0 c') ?_;exact trivial;intro Cc;(conv=>whnf);refine go ?_;refine .inr (af.yq rfl [.bool false,.O [82,69],.Q .none 1 (aU []),.box 7000 cx 0] [(7000,5),(7001,7001)] r3 (uz false [82,69] .none [] cx Cc vY atx (by simp[Lib.join_nil]) atv) rfl jd λH4 _=>?_);(conv=>whnf);refine cT ?_;refine Y.HJ 7001 5 0 rfl rfl aty rfl ?_;refine go ?_;exact⟨.of_eq (atI (D.Q .none 3) (by simp[vY,pE,oW,eA,AR,lC,Lib.join_one])),E,ai⟩
def jh(cs:List (List c_)):List D:=cs.map λg=>.Q .none 3 (eA g)
def uD(l:List c_)(er:Int):Nat->Nat->Nat
 |0,n=>n
 |f+1,n=>if iu (l.take (n+1))<=er-28 then uD l er f (n+1)else n
def xf:Nat->List c_->Int->List (List c_)
 |0,l,_=>[l]
 |f+1,l,er=>if er<iu l then l.take (uD l er l.length 0)::xf f (l.drop (uD l er l.length 0)) 2048 else[l]
def N2(x:c_):Bool:=bif x.qp==[67,69]then true else x.qp==[83,84]
def N3(er:Int):Bool:=bif decide (er<0)then true else decide (254<er)
def VT(l:List c_)(er:Int):Bool:=bif decide (er<iu l)then decide (er<28)else false
def I4(l:List c_)(er:Int):List (List c_):=xf (2*l.length+3) l er
def uE(l:List c_)(er:Int):List (List c_)×Int :=
 if xe l≠0 then([],xe l)else if l.any N2=true then([],1)else if N3 er=true then([],2)else if VT l er=true then([],12)
 else if 65<=(I4 l er).length then([],7)else(I4 l er,0)
theorem VU{l:List c_}(h:xe l=0):l.length<=1024/\∀x∈l,x.data.length<=251:=by unfold xe at h;split at h;omega;rename_i h1;(have al:l.length<=1024:=by simp only[eA,atL]at h1;omega);refine⟨al,λx F=>?_⟩;cases M:l.findSome? xd with|none =>have:=List.findSome?_eq_none_iff.1 M x F;unfold xd at this;split at this;cases this;split at this;cases this;split at this;cases this;omega|some e =>rw[M]at h;obtain⟨y,hy,ak⟩:=List.exists_of_findSome?_eq_some M;unfold xd at ak;split at ak;cases ak;cases h;split at ak;cases ak;cases h;split at ak;cases ak;cases h;cases ak
theorem ag7(l:List c_)(er:Int)(hs:er<iu l):∀(f n:Nat),n<l.length->l.length<=n+f->uD l er f n=(if iu (l.take (n+1))<=er-28 then uD l er (f-1) (n+1)else n)
 |0,n,h1,z=>by omega
 |f+1,n,h1,z=>by rw[uD];rfl
theorem VV(l:List c_)(er:Int)(hs:er<iu l):∀(f n:Nat),n<l.length->l.length<=n+f->n<=uD l er f n/\uD l er f n<l.length
 |0,n,h1,z=>by omega
 |f+1,n,h1,z=>by rw[uD];split;rename_i h;(have aa:n+1<l.length:=by rcases at5 (n+1) l.length with aC|aC;exact aC;rw[aue aC]at h;omega);have:=VV l er hs f (n+1) aa atv;omega;omega
theorem ag8{bA:Type}{p:bA->Bool}{l:List bA}(h:∀j (Z:j<l.length),p l[j]=false):¬l.any p=true:=by rw[au1];rintro⟨x,F,yT⟩;obtain⟨j,Z,rfl⟩:=auh.1 F;rw[h j Z]at yT;cases yT
structure uF where
 cm:List (List c_)
 l:List c_
 er:Int
 f:Nat
def uF.vZ(x:uF):Nat:=2*x.l.length+(if x.er=2048 then 0 else 1)
structure ag9 (cs:List (List c_)) (n:Nat) (x:uF):Prop where
 eq:x.cm++xf x.f x.l x.er=cs
 i_:x.vZ<x.f
 len:x.l.length<=1024
 data:∀y∈x.l,y.data.length<=251
 er:0<=x.er/\x.er<=2048
 cm:x.cm.length+x.vZ<=n
theorem ag_(l:List c_)(er:Int)(al:l.length<1000000)(N:∀x∈l,x.qp.length<1000000/\x.data.length<1000000):aS B 172 [.Q .none 3 (eA l),u er] (.bl [.Q .none 1 (jh (uE l er).1),u (uE l er).2]):=by
 refine bB Tryz.func172 Tryz.ntmps172 λU=>?_;refine go ?_;refine br (agZ l al N) ?_;refine aJ (xe l !=0) rfl ?_ ?_<;>intro hc
 ·refine go ?_;rw[uE,atH (by simpa using hc)];exact⟨aq.nil,E,ai⟩
 refine go ?_;have hS:¬xe l≠0:=by simpa using hc
 obtain⟨hlen,ag'⟩:=VU (l:=l) atv;rw[uE,atG hS];refine go ?_;refine Y.ed (α:={i:Nat // i<=l.length/\∀j (Z:j<l.length),j<i->N2 l[j]=false}) (λx=>[(0,.Q .none 3 (eA l)),(1,u er),(16,.Q .none 3 (eA l)),(17,u ((eA l).length:Nat)),(18,u x.1)]) (λ_=>[]) (λx=>l.length-x.1) ⟨0,by omega,λj _ h=>by omega⟩ [] ⟨ar,rfl,ai⟩ ?_;rintro⟨i,hi,cv⟩;dsimp only at hi cv⊢;refine go ?_;refine aJ (decide ((i:Int)<((eA l).length:Nat))) rfl ?_ ?_<;>intro bw
 ·apply cl;have aE:i<l.length:=by simpa[eA]using bw
  refine gK ?_;refine⟨λ_=>by simp[eA];omega,?_⟩;refine go ?_;refine⟨AR l[i],λ_=>by simp[eA,aE],?_⟩;refine go ?_;intro cF;refine go ?_;refine aJ (N2 l[i]) rfl ?_ ?_<;>intro dO
  ·refine go ?_;rw[atH (au1.2 ⟨l[i],atK aE,dO⟩)];exact⟨aq.nil,E,ai⟩
  refine go ?_
  exact⟨⟨i + 1,aE,λj Z h => by rcases at5 j i with lD|lD
                               ·exact cv j Z lD
                               have:j=i:=atv
                               subst this;exact dO⟩,[],ayq,ar,rfl,ai⟩
 have cg:i=l.length:=by simp[eA]at bw;omega
 subst cg;rw[atG (ag8 λj Z=>cv j Z Z)];refine go ?_;refine aJ (N3 er) rfl ?_ ?_<;>intro dO
 ·refine go ?_;rw[atH dO];exact⟨aq.nil,E,ai⟩
 refine go ?_;rw[atG (by rw[dO];decide)]
 have sM:0<=er/\er<=254:=by
  revert dO;unfold N3;cases h1:decide (er<0)<;>simp at h1⊢<;>omega
 refine go ?_;refine br (I2 l al (λx F=>(N x F).2)) ?_;refine aJ (VT l er) rfl ?_ ?_<;>intro kf
 ·refine go ?_;rw[atH kf];exact⟨aq.nil,E,ai⟩
 apply cl;rw[atG (by rw[kf];decide)];generalize lb:I4 l er=cs at*;refine ch ?_;refine Y.own 9 1000 1 236 rfl (λw=>?_);refine go ?_
 refine Y.ed (α:={x:uF // ag9 cs (2*l.length+2) x}×Value) (λx=>[(0,.Q .none 3 (eA x.1.1.l)),(1,u x.1.1.er),(9,.Q (.own 1000 x.2) 1 (jh x.1.1.cm))])
  (λx=>[(1000,.own x.2 (jh x.1.1.cm).length 1 236)]) (λx=>x.1.1.vZ) (⟨⟨[],l,er,2*l.length+3⟩,by rw[<-lb];rfl,by unfold uF.vZ;dsimp only;split<;>omega,hlen,ag',by dsimp only;omega,by unfold uF.vZ;dsimp only[List.length_nil];split<;>omega⟩,w) [(1000,1000)]
  ⟨ar,rfl,ba⟩ ?_
 rintro⟨⟨⟨cm,cu,ra,f⟩,jt,aha,nJ,r6,qW,CQ⟩,w⟩;dsimp only at jt aha nJ r6 qW CQ⊢;have Ct:∀x∈cu,x.data.length<1000000:=λx F=>by have:=r6 x F;omega
 have fg:=FK Ct cu.length (atP _);rw[atW]at fg;have arK:uF.vZ ⟨cm,cu,ra,f⟩=2*cu.length+(if ra=2048 then 0 else 1):=rfl;refine go ?_;refine br (I2 cu atv Ct) ?_;refine aJ (decide (ra<iu cu)) rfl ?_ ?_<;>intro vV
 ·refine go ?_;have bi:ra<iu cu:=by simpa using vV
  have p':0<cu.length:=by
   rcases auD cu.length with h|h
   ·have:cu=[]:=atY h;subst this;have h0:iu ([]:List c_)=0:=rfl;omega
   exact h
  generalize hN:uD cu ra cu.length 0=bD;have ahb:=VV cu ra bi cu.length 0 p' atv;rw[hN]at ahb;have gJ:(jh cm).length<=3000:=by simp only[jh,atL];omega
  refine go ?_
  refine Y.ed (α:={n:Nat×Nat // uD cu ra n.2 n.1=bD/\n.1<cu.length/\cu.length<=n.1+n.2}) (λx=>[(0,.Q .none 3 (eA cu)),(1,u ra),(9,.Q (.own 1000 w) 1 (jh cm)),(10,u (x.1.1:Nat))])
   (λx=>[(1000,.own w (jh cm).length 1 236)]) (λx=>cu.length-x.1.1) ⟨(0,cu.length),hN,p',by show cu.length<=0+cu.length;omega⟩ [(1000,1000)]
   ⟨ar,rfl,ba⟩ ?_
  rintro⟨⟨n,lo⟩,av,jS,VW⟩;dsimp only at av jS VW⊢;have aZ:=ag7 cu ra bi lo n jS VW;have g6:=FK Ct (n+1) atv;refine gb ?_;refine ll ?_;refine⟨λ_=>by simp[eA];omega,?_⟩;(conv=>whnf);refine⟨[.Q .none 3 (eA (cu.take (n+1)))],_,λ_=>I2 (cu.take (n+1)) (by rw[at4];omega) (λx F=>Ct x (auL F)),⟨aq.of_eq (atI (D.Q .none 3) (by simp[eA,List.map_take])),ai⟩,?_⟩;refine g_ ?_;refine aJ (decide (iu (cu.take (n+1))<=ra-28)) rfl ?_ ?_<;>intro xc
  ·refine go ?_;have dV:iu (cu.take (n+1))<=ra-28:=by simpa using xc
   have rL:n+1<cu.length:=by
    rcases at5 (n+1) cu.length with aC|aC
    ·exact aC
    rw[aue aC]at dV;omega
   refine go ?_;exact⟨⟨(n+1,lo-1),by rw[<-av,aZ,atH dV],rL,by show cu.length<=n+1+(lo-1);omega⟩,[(1000,1000)],by show cu.length-(n+1)<cu.length-n;omega,ar,rfl,ba⟩
  have ahc:n=bD:=by rw[<-av,aZ,atG (by simpa using xc)]
  subst ahc;obtain⟨f,rfl⟩:∃k,f=k+1:=⟨f-1,by omega⟩;refine sS ?_;refine pe ?_;refine⟨λ_=>by simp[eA];omega,?_⟩;(conv=>whnf);refine⟨by simp[eA];omega,by simp[eA];omega,atC,λjz=>?_⟩;(conv=>whnf);refine nE ?_;refine⟨by show(_+1)*24<=_;omega,by show _+1<=_;omega,atC,λv2=>?_⟩;refine go ?_;refine⟨λ_=>by simp[eA];omega,?_⟩;refine go ?_
  have D3:ra=2048->0<n:=λh=>by
   rcases auD n with h0|h0
   ·subst h0;have h1:=I1 (l:=cu) (i:=0) p';have z:=r6 _ (atK p');have aa:iu (cu.take 0)=0:=rfl;have aC:¬iu (cu.take (0+1))<=ra-28:=by simpa using xc
    omega
   exact h0
  have ahd:uF.vZ ⟨cm++[cu.take n],cu.drop n,2048,f⟩<uF.vZ ⟨cm,cu,ra,f+1⟩:=by
   unfold uF.vZ;dsimp only;rw[auS,atH rfl];split
   ·rename_i h;have:=D3 h;omega
   omega
  exact⟨(⟨⟨cm++[cu.take n],cu.drop n,2048,f⟩,by rw[<-jt,xf,atH bi,hN];simp,by show uF.vZ ⟨cm++[cu.take n],cu.drop n,2048,f⟩<f;omega,by dsimp only;rw[auS];omega,λy hy=>r6 y (avV hy),by dsimp only;omega,by simp only[atO,atQ,auf];omega⟩,v2),[(1000,66)],ahd,⟨aq.of_eq (atI (D.Q .none 3) (by simp[eA,List.map_drop];rw[aue atx])),E,aq.kd (by simp[jh,eA,List.map_take];rfl),ai⟩,rfl,rfl,kG (by simp[jh]),ai⟩
 obtain⟨f,rfl⟩:∃k,f=k+1:=⟨f-1,by omega⟩;have VX:cs=cm++[cu]:=by rw[<-jt,xf,atG (by simpa using vV)]
 have gJ:(jh cm).length=cm.length:=by simp only[jh,atL]
 have arL:cs.length=cm.length+1:=by rw[VX];simp
 refine go ?_;refine aJ (decide ((64:Int)<=((jh cm).length:Nat))) rfl ?_ ?_<;>intro xc
 ·refine go ?_;have cC:(64:Int)<=((jh cm).length:Nat):=by simpa using xc
  rw[atH atv];exact⟨aq.nil,E,ai⟩
 apply cl;refine ch ?_;refine pe ?_;refine⟨by simp[eA];omega,by simp[eA];omega,atC,λjz=>?_⟩;(conv=>whnf);refine nE ?_;refine⟨by show(_+1)*24<=_;omega,by show _+1<=_;omega,atC,λv2=>?_⟩;refine go ?_;have cC:¬(64:Int)<=((jh cm).length:Nat):=by simpa using xc
 rw[atG atv];exact⟨aq.trans aq.m7 (aq.of_eq (atI (D.Q .none 1) (by rw[VX];simp[jh,eA];rfl))),E,ai⟩
theorem N4{n:Nat}(h:i<n)(V:D):(es i++List.replicate (n-i) V).set i (u (i:Nat))=es (i+1)++List.replicate (n-(i+1)) V:=by apply au2;intro j;(have dd:∀m,(es m).length=m:=λm=>by simp[es]);rw[avN];rcases awb i j with e|e|e;rw[atG atv,aul (by rw[dd];omega),aul (by rw[dd];omega),dd,dd];simp only[av1];(split<;>split<;>first|rfl|omega);subst e;rw[atH rfl,atH (by simp[dd];omega),atZ (by rw[dd];omega)];simp[es];rw[atG atv,atZ (by rw[dd];omega),atZ (by rw[dd];omega)];simp[es,show j<i by omega,show j<i+1 by omega]
variable{J:List ad}{t:Nat}
theorem ahe(h:t<J.length)(V:D):(aU ((J.map ad.name).take t)++List.replicate (J.length-t) V).set t (.O J[t].name)=aU ((J.map ad.name).take (t+1))++List.replicate (J.length-(t+1)) V:=by(have dd:∀m,m<=J.length->(aU ((J.map ad.name).take m)).length=m:=λm hm=>by simp[aU];omega);apply au2;intro j;rw[avN];rcases awb t j with e|e|e;rw[atG atv,aul (by rw[dd _ atv];omega),aul (by rw[dd _ atv];omega),dd _ atv,dd _ atv];simp only[av1];(split<;>split<;>first|rfl|omega);subst e;rw[atH rfl,atH (by simp[aU];omega),atZ (by rw[dd _ atv];omega)];simp[aU,h,auB];rw[atG atv,atZ (by rw[dd _ atv];omega),atZ (by rw[dd _ atv];omega)];simp[aU,auB,show j<t by omega,show j<t+1 by omega]
theorem ahf(aV:dc B)(v:Int)(W:v=2\/v=3)(J:List ad)(hx:J.length<=64)(cv:∀k∈J,dT k.name=true/\k.name.length<1000000000)(mM:gP J):aS B 182 [u v,.Q .none 12 (J.map enc)] (.bl [.Q .none 1 (aU (J.map ad.name)),u 0]):=by refine bB Tryz.func182 Tryz.ntmps182 λU=>?_;refine go ?_;intro bk;refine go ?_;refine br (Fl v) ?_;refine aJ _ rfl ?_ ?_<;>intro hc;refine go ?_;exfalso;(have:kh v=true:=by rcases W with rfl|rfl<;>rfl);rw[this]at hc;cases hc;refine go ?_;refine aJ _ rfl ?_ ?_<;>intro hc;refine go ?_;exfalso;simp at hc;omega;refine go ?_;refine .inr (af.x_ aL (n:=J.length) (ce:=.i64) (dn:=.i64) (V:=u 0) rfl rfl rfl rfl rfl ?_ ?_ (by show 8*_<=_;omega) atv λgR=>?_);show D.int _ _=_;simp;show D.int _ _=_;simp;refine go ?_;refine Y.ed (α:={i:Nat // i<=J.length}) (λx=>[(0,u v),(3,.box 3 bk 0),(6,.an gR),(25,.Q .none 12 (J.map enc)),(26,u (J.map enc).length),(27,u x.1)]) (λx=>[(24,.row gR (es x.1++List.replicate (J.length-x.1) (u 0)) 1 3),(3,.box bk [.Q .none 12 (J.map enc)])]) (λx=>J.length-x.1) ⟨0,by omega⟩ [(24,24),(3,3)] ⟨ar,rfl,ba⟩ ?_;rintro⟨i,hi⟩;dsimp only;refine go ?_;refine aJ _ rfl ?_ ?_<;>intro hc;refine fk ?_;(have aE:i<J.length:=by simpa using hc);(have dd:(es i).length=i:=by simp[es]);refine vm ?_;refine⟨aH J[i],λ_=>oe aE,?_⟩;refine go ?_;intro cF;refine go ?_;refine br (yE aV _ (cv _ (atK aE)).2) ?_;refine aJ _ rfl ?_ ?_<;>intro hc;refine go ?_;exfalso;rw[(cv _ (atK aE)).1]at hc;cases hc;refine go ?_;refine .inr (af.ev aL 24 rfl rfl rfl rfl rfl rfl rfl atv (by simp[dd];omega) ?_);refine go ?_;refine .inr (af.nC aL 24 (i:=i) atB rfl rfl rfl (by simp[dd];omega) rfl ?_);refine go ?_;exact⟨⟨i+1,by omega⟩,[(24,24),(3,3)],by show _-(i+1)<_-i;omega,ar,rfl,rfl,atI (λV=>some (aI.row gR V 1 3)) (N4 aE _),rfl,ba⟩;refine go ?_;(have cg:i=J.length:=by simp at hc;omega);(have dN:es i++List.replicate (J.length-i) (u 0)=es J.length:=by subst cg;simp);rw[dN];refine go ?_;refine .inr (af.call rfl [.an gR,.fn (.func 254) [] [.box 2000 bk 0]] [(2001,24),(2000,3)] (UO J mM atv bk gR) rfl ⟨E,aq.fn trivial ⟨aq.box,ai⟩,ai⟩ ?_);rintro d aM ⟨rfl,rfl⟩;refine rT ?_;refine Y.fd [(6,.an gR),(0,u v),(3,.box 3 bk 0)] [(24,.row gR (es J.length) 1 3),(3,.box bk [.Q .none 12 (J.map enc)])] [(24,24),(3,3)] ⟨ar,rfl,ba⟩ ?_;refine Y.vv 24 6 rfl ?_;refine go ?_;refine .inr (af.x_ aL (n:=J.length) (ce:=.i64) (dn:=.i64) (V:=.O []) rfl rfl rfl rfl rfl ?_ ?_ (by show 16*_<=_;omega) atv λdx=>?_);show D.int _ _=_;simp;show D.int _ _=_;simp;refine go ?_;refine .inr (af.makeMap λhz=>?_);refine go ?_;refine Y.ed (α:={i:Nat // i<=J.length}) (λx=>[(0,u v),(3,.box 3 bk 0),(6,.Q .none 1 (es J.length)),(48,.Q .none 1 (es J.length)),(49,u (es J.length).length),(50,u x.1),(9,.an dx),(10,.an (.map (some hz)))]) (λx=>[(46,.row dx (aU ((J.map ad.name).take x.1)++List.replicate (J.length-x.1) (.O [])) 1 9),(47,.set hz (((J.map ad.name).take x.1).reverse)),(3,.box bk [.Q .none 12 (J.map enc)])]) (λx=>J.length-x.1) ⟨0,by omega⟩ [(46,46),(47,47),(3,3)] ⟨ar,rfl,ba⟩ ?_;rintro⟨t,ax⟩;dsimp only;refine go ?_;refine aJ _ rfl ?_ ?_<;>intro hc;refine fk ?_;(have lE:t<J.length:=by simp[es]at hc;omega);(have pb:∀j,j<J.length->(J.map enc)[j]?=some (aH (J.getD j default)):=λj Z=>by rw[oe Z];simp[List.getD,Z]);refine gK ?_;refine⟨λ_=>by simp[es];omega,?_⟩;refine go ?_;refine⟨u (t:Nat),λ_=>by simp[es,lE],?_⟩;refine Ex ?_;apply cD;apply g9;refine g_ ?_;refine hG ?_;refine⟨λh=>by simp at h;simp[es];omega,?_⟩;refine go ?_;refine⟨u ((t-1:Nat):Int),λh=>ax4,?_⟩;refine hG ?_;refine nb ?_;refine⟨aH (J.getD (t-1) default),λh=>pb (t-1) atv,?_⟩;apply cD;refine hG ?_;refine oa ?_;refine hG ?_;refine⟨aH J[t],λh=>oe lE,?_⟩;refine go ?_;refine aJ _ rfl ?_ ?_<;>intro hc;refine go ?_;exfalso;(cases h0:decide ((0:Int)<t)with|false=>rw[h0]at hc;cases hc|true =>(have N5:0<t:=by simpa using h0);have aX:=s_ (sc mM (show t-1<t by omega) lE);rw[h0]at hc;have bw:((J.getD (t-1) default).name==J[t].name)=true:=hc;(have:(J.getD (t-1) default).name=J[t].name:=by simpa using bw);apply aX;rw[<-this];simp[List.getD,show t-1<J.length by omega]);apply cl;apply b3;refine mC ?_;refine⟨aH J[t],λ_=>oe lE,?_⟩;refine go ?_;refine aJ _ rfl ?_ ?_<;>intro hc;exfalso;rcases W with rfl|rfl<;>cases hc;refine go ?_;refine .inr (af.Ep 47 (dA:=9) (d9:=4) rfl rfl rfl rfl rfl rfl ?_);refine go ?_;refine .inr (af.ev aL 46 rfl rfl rfl rfl rfl rfl rfl atv (by simp[aU];omega) ?_);refine go ?_;refine .inr (af.nC aL 46 (i:=t) atB rfl rfl rfl (by simp[aU];omega) rfl ?_);refine go ?_;exact⟨⟨t+1,by omega⟩,[(46,46),(47,47),(3,3)],by show _-(t+1)<_-t;omega,ar,rfl,rfl,atI (λV=>some (aI.row dx V 1 9)) (ahe lE _),rfl,atI (λV=>some (aI.set hz V)) (by rw[avH];simp[lE]),rfl,ba⟩;refine wT ?_;(have FR:t=J.length:=by simp[es]at hc;omega);(have FS:aU ((J.map ad.name).take t)++List.replicate (J.length-t) (D.O [])=aU (J.map ad.name):=by subst FR;rw[aue atx];simp);rw[FS];refine Y.fd [(9,.an dx)] [(46,.row dx (aU (J.map ad.name)) 1 9)] [(46,46)] ⟨ar,rfl,ba⟩ ?_;exact ayb
def FT(n:ad)(p q:atE):D:=.agg [.O n.name,u n.kind,.O n.dB,.O n.target,u n.cL,u n.n2,u n.n3,u n.n4,u n.n5,u n.n6,.Q .none 12 (n.J.map enc),.Q .none 2 (n.bK.map c5),.O p,.O q]
theorem ahg(n:ad)(p q:atE):aS B 268 [FT n p q] (.bl []):=by refine bB Tryz.func268 Tryz.ntmps268 λU=>?_;refine nc ?_;intro b;(conv=>whnf);exact trivial
theorem ahh{l:List ad}(h:gP l):l.Pairwise λa b=>Op.bytesLess a.name b.name=true :=
 auG.2 λi j hi Z d7=>sc h d7 Z
theorem ahi{l:List ad}(h:l.Pairwise λa b=>Op.bytesLess a.name b.name=true):gP l:=λi hi=>by
 have:=auG.1 h i (i+1) atv hi atv;simpa[List.getD,hi,show i<l.length by omega]using this
theorem ahj(v:Value)(Nv:D):cV B 350 [.an v,Nv] (aK [(2001,.row v [] 12 44)]) λd aM=>d=.bl []/\aM=aK [(2001,.row v [] 12 44)]:=by refine⟨jD Tryz.func350 rfl atz,λw C args Ft pZ qQ hH ae=>?_⟩;obtain⟨al,ae⟩:=ae;match args,al with|[a0,ga],_ =>have h0:=(ae 0 _ a0 rfl rfl).fL;subst h0;obtain⟨a,cap,W,_⟩:kx w C a0 [] 12 44:=hH.b' 2001 _ rfl;subst W;refine(AnyF.slices_SortFunc_none Tryz.laysSlF0_f350 a cap ga w).mono ?_;rintro e w' ⟨rfl,rfl⟩;exact⟨.tuple #[],.bl [],C,_,rfl,⟨rfl,rfl⟩,.bl [] [] rfl (λi d v N _=>by simp at N),.refl _ _ _,⟨hH.b',hH.inj,λs o b ag ao=>.inl (hH.cJ s o b ag ao)⟩⟩
end Go.bS.cp
