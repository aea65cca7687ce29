/- Contracts of the program's functions, part 4. No conditions of its own. -/
import Derived.Test.YtfnpcdbnoggloaaGreatDoorL3
import Derived.Test.YtfnpcdbnoggloaaGreatDoorShelf
import Derived.BigQuiet
import Derived.Sort.Grow
import Derived.Test.YtfnpcdbnoggloaaGreatDoorCards
import Derived.Test.YtfnpcdbnoggloaaGreatDoorTie
import Derived.ProofKit
import Derived.OpenShut
import Derived.Deep.DeepHandedRow
import Derived.Lib.LaidTab
import Derived.Lib.LaidU8
import Derived.Stop.LaidErr
import Derived.Lib.Builder
import Derived.Lib.FrozenHead
import Derived.Lib.UnsafeStr
import Derived.Laws.Externs
import Derived.WalkKit
set_option linter.unnecessarySimpa false
set_option linter.unusedSimpArgs false
set_option linter.unusedVariables false
set_option maxRecDepth 100000
set_option maxHeartbeats 16000000
namespace Go.bS.cj
open Go Go.Proofs
variable{B:World}
structure dc (B:World):Prop where
 adJ:Lib.Utf8Tabs 1 2 B
 TM:∃m,B.cell? ⟨0,0,none⟩=some (.int .i64 m)
 aqW : Lib.TabIs Tryz.prog B "internal/strconv.uint64pow10" .u64 Lib.pow10Tab
variable{w:World}{v:Value}
theorem EV(F:pP B w){a:Addr}(h:B.cell? a=some v):w.cell? a=some v:=by(have bi:a.block<B.heap.size:=by simp only[World.cell?]at h;rcases ats a.block B.heap.size with h1|h1;exact h1;rw[awm h1]at h;cases h);rw[<-h];simp only[World.cell?,F.block _ bi]
theorem adK(F:pP B w)(h:Lib.Utf8Tabs 1 2 B):Lib.Utf8Tabs 1 2 w :=
 ⟨λc hc=>EV F (h.1 c hc),λi hi=>⟨EV F (h.2 i hi).1,EV F (h.2 i hi).2⟩⟩
variable{f:FuncId}
theorem js{fn:Func}(h : Tryz.prog.funcs[f]?=some fn)(F : fn.body.isSome = true)(ax : (fn.name == "runtime.NumGoroutine") = false): Ba Tryz.prog f := ⟨fn,h,F,ax⟩
def dO(s:as8):Nat×Nat:=Lib.decodeGo ⟨⟨s⟩⟩
theorem adL(aW:dc B)(s:as8):aU B 261 [.O s] (.bo [.int .i32 (dO s).1,u (dO s).2]) :=
 .zH (js Tryz.func261 rfl as3) rfl λw F=>(Tryz.utf8_DecodeRuneInString ⟨⟨s⟩⟩ w (adK F aW.adJ)).mono λe w' ⟨ao,cH⟩ =>
  ⟨_,ao,λC=>.bo _ _ rfl λi d v N W=>by
   match i with
   |0=>cases N;cases W;exact .int _ _
   |1=>cases N;cases W;exact .int _ _
   |i+2=>simp at N,cH⟩
theorem TN(a b:as8):aU B 249 [.O a,.O b] (u (Lib.compareBytes a b)) :=
 .pure (js Tryz.func249 rfl as3) rfl rfl λw _=>Tryz.strings_Compare ⟨⟨a⟩⟩ ⟨⟨b⟩⟩ w
theorem TO(s:as8)(c:UInt8):aU B 259 [.O s,.O [c]] (.bool (decide (0<=Lib.indexByte s c))) :=
 .pure (js Tryz.func259 rfl as3) rfl rfl λw _=>Tryz.strings_Contains_one ⟨⟨s⟩⟩ c w
theorem adM(s p:as8):aU B 260 [.O s,.O p] (.O (Lib.trimPrefix s p)) :=
 .pure (js Tryz.func260 rfl as3) rfl rfl λw _=>Tryz.strings_TrimPrefix ⟨⟨s⟩⟩ ⟨⟨p⟩⟩ w
theorem TP(s:as8)(c:Int)(hs:s.length<4611686018427387904):aU B 24 [.O s,.int .u8 c] (u (Lib.lastIndexByte ⟨⟨s⟩⟩ c)) :=
 .pure (js Tryz.func24 rfl as3) rfl rfl λw _=>Tryz.strings_LastIndexByte ⟨⟨s⟩⟩ c hs w
def en(r:Int):Bool:=decide (32<=r)&&(decide (r<=65533)&&(decide (r<55296)||decide (57343<r)))
theorem adN(r:Int):aU B 302 [u r] (.bool (en r)):=by refine bA Tryz.func302 Tryz.ntmps302 λU=>?_;exact awZ
theorem adO(r:Int):aU B 355 [u r] (.bool (en r)):=by refine bA Tryz.func355 Tryz.ntmps355 λU=>?_;exact awZ
theorem wY(s:as8)(h:s≠[]):1<=(dO s).2/\(dO s).2<=s.length/\(dO s).2<=4/\(dO s).1<=1114111:=by
 have h0:¬(⟨⟨s⟩⟩:ByteArray).size=0:=λe=>h (atm e);have aj:(⟨⟨s⟩⟩:ByteArray).size=s.length:=rfl;have aw:0<s.length:=auq.2 h;unfold dO Lib.decodeGo;rw[as9 h0];unfold Utf8.decode;dsimp only;rw[aj];have EW:Utf8.runeError=65533:=rfl
 repeat' split
 all_goals simp only[EW,atd,auv,atS,ge_iff_le,Utf8.valid]at*
 all_goals omega
def l0(s:as8):Bool:=!en (dO s).1||((dO s).1==65533&&(dO s).2==1)
theorem TQ(s:as8):l0 s=(bif !en ((dO s).1:Nat)then true else bif (((dO s).1:Nat):Int)==65533 then(((dO s).2:Nat):Int)==1 else false):=by
 unfold l0;have h1:((((dO s).1:Nat):Int)==65533)=((dO s).1==65533):=by rw[avT];simp;omega
 have A:((((dO s).2:Nat):Int)==1)=((dO s).2==1):=by rw[avT];simp;omega
 rw[h1,A];cases en ((dO s).1:Nat)<;>cases(dO s).1==65533<;>rfl
def yo:Nat->as8->Option (List Int)
 |0,s=>if s=[]then some []else none
 |f+1,s=>if s=[]then some []else if l0 s then none else(yo f (s.drop (dO s).2)).map (((dO s).1:Int)::·)
theorem M2:∀(f:Nat) (s:as8),s.length<=f->yo f s=yo s.length s
 |0,s,h=>by have:s=[]:=atm asZ;subst this;rfl
 |f+1,s,h=>by by_cases hs:s=[];subst hs;rfl;obtain⟨h1,A,_⟩:=wY s hs;have aw:0<s.length:=auq.2 hs;obtain⟨n,ax⟩:∃n,s.length=n+1:=⟨s.length-1,by omega⟩;rw[ax];simp only[yo,hs,auU];(have jN:(s.drop (dO s).2).length=s.length-(dO s).2:=by simp);rw[M2 f (s.drop (dO s).2) asZ,M2 n (s.drop (dO s).2) asZ]
def jt(s:as8):Option (List Int):=yo s.length s
variable{s:as8}
theorem yp(hs:s≠[]):jt s=if l0 s then none else(jt (s.drop (dO s).2)).map (((dO s).1:Int)::·):=by
 obtain⟨h1,A,_⟩:=wY s hs;have aw:0<s.length:=auq.2 hs;obtain⟨n,ax⟩:∃n,s.length=n+1:=⟨s.length-1,by omega⟩;have jN:(s.drop (dO s).2).length=s.length-(dO s).2:=by simp
 rw[jt,ax];simp only[yo,hs,auU];rw[M2 n _ asZ];rfl
theorem B8:∀(n:Nat) (s:as8),s.length<=n->∀l,jt s=some l->l.length<=s.length/\s.length<=4*l.length
 |0,s,h,l,aj=>by have:s=[]:=atm asZ;subst this;cases aj;simp
 |n+1,s,h,l,aj=>by by_cases hs:s=[];subst hs;cases aj;simp;obtain⟨h1,A,Z,_⟩:=wY s hs;rw[yp hs]at aj;split at aj;cases aj;cases N:jt (s.drop (dO s).2)with|none=>rw[N]at aj;cases aj|some i7 =>rw[N]at aj;cases aj;(have jN:(s.drop (dO s).2).length=s.length-(dO s).2:=by simp);have:=B8 n (s.drop (dO s).2) asZ i7 N;simp only[ath];omega
def chars(s:as8):List Int×Int:=if 65536<s.length then([],7)else match jt s with|some l=>(l,0)|none=>([],3)
def fI(k:IntKind)(l:List Int):List D:=l.map (D.int k)
theorem M3(aW:dc B)(s:as8)(hs:s.length<1000000000):aU B 257 [.O s] (.bo [.Q .none 1 (fI .i64 (chars s).1),u (chars s).2]):=by refine bA Tryz.func257 Tryz.ntmps257 λU=>?_;refine go ?_;refine aJ _ rfl ?_ ?_<;>intro hc;refine go ?_;(have:chars s=([],7):=by rw[chars,as_ (by simp at hc;omega)]);rw[this];exact⟨aq.nil,E,ai⟩;refine go ?_;(have jn:¬65536<s.length:=by simp at hc;omega);refine go ?_;refine .inr (af.L6 aM (n:=s.length) (cO:=.i64) (d0:=.i64) rfl rfl rfl rfl rfl rfl (by show 8*_<=_;omega) asZ λv=>?_);refine go ?_;refine X.ec (α:={x:as8×List Int // jt s=(jt x.1).map (x.2++·)/\x.1.length+x.2.length<=s.length}×Value) (λx=>[(0,.O x.1.1.1),(4,.Q (.own 1000 x.2) 1 (fI .i64 x.1.1.2))]) (λx=>[(1000,.own x.2 (fI .i64 x.1.1.2).length 1 3)]) (λx=>x.1.1.1.length) (⟨(s,[]),by simp,by simp⟩,v) [(1000,12)] ⟨⟨E,aq.own _ _,ai⟩,rfl,bb⟩ ?_;rintro⟨⟨⟨r,fw⟩,kZ,hlen⟩,v⟩;dsimp only at kZ hlen⊢;refine go ?_;refine aJ _ rfl ?_ ?_<;>intro hc;refine ff ?_;(have ae:r≠[]:=by intro e;subst e;simp at hc);obtain⟨EX,r3,B9,adP⟩:=wY r ae;(have kB:(fI .i64 fw).length=fw.length:=by simp[fI]);refine Me ?_;refine⟨_,_,λ_=>adL aW r,ar,?_⟩;refine p7 ?_;refine .inl ⟨by simp[dg];omega,?_⟩;refine go ?_;refine⟨_,_,λ_=>adN _,ar,?_⟩;refine go ?_;refine aJ _ rfl ?_ ?_<;>intro hc;refine go ?_;(have yq:l0 r=true:=by rw[TQ];exact hc);(have:chars s=([],3):=by rw[chars,as9 jn,kZ,yp ae,as_ yq];rfl);rw[this];exact⟨aq.nil,E,ai⟩;apply cr;(have yq:l0 r=false:=by rw[TQ];exact hc);refine vd ?_;refine nZ ?_;refine .inl ⟨by simp[dg];omega,?_⟩;(conv=>whnf);refine⟨ai,?_⟩;refine nZ ?_;refine Md ?_;refine⟨by show(_+1)*8<=_;omega,by show _+1<=_;omega,as6,λv=>?_⟩;refine m0 ?_;refine mZ ?_;exact⟨(⟨(r.drop (dO r).2,fw++[((dO r).1:Int)]),by rw[kZ,yp ae,yq];simp[avE],by simp;omega⟩,v),[(1000,37)],by show(r.drop (dO r).2).length<r.length;simp;omega,⟨aq.of_eq (as' D.O as1),aq.j6 (by simp[fI];rfl),ai⟩,rfl,rfl,ky (by simp[fI]),ai⟩;refine go ?_;exact aw0
def oR(n:Int):UInt8:=UInt8.ofNat n.toNat
theorem yr(l:List Int)(h:∀n∈l,0<=n/\n<=255):l.map (D.int .u8)=(l.map oR).map λc=>D.int .u8 c.toNat:=by rw[avl];apply avK;intro n ax;have:=h n ax;simp only[Function.comp,oR];congr 1;simp;omega
def EY(v:Int):List Int :=
 if v<128 then[v]else if v<2048 then[192+v.tdiv 64,128+v.tmod 64]else[224+v.tdiv 4096,128+(v.tdiv 64).tmod 64,128+v.tmod 64]
def ys(v:Int):as8:=(EY v).map oR
theorem Im{v k:Int}(h:0<=v)(Y:0<k):v.tdiv k=v/k:=atp h
theorem Io{v k:Int}(h:0<=v):v.tmod k=v%k:=aur h
theorem adQ(v:Int)(h0:0<=v)(h1:v<=65535):aU B 356 [u v] (.O (ys v)):=by refine bA Tryz.func356 Tryz.ntmps356 λU=>?_;apply b2;refine f' ?_;refine aJ _ rfl ?_ ?_<;>intro hc;refine vd ?_;refine nZ ?_;refine .inl ⟨by simp at hc;simp[dg];omega,?_⟩;(conv=>whnf);refine pg ?_;refine .inr (af.vb aM (aR:=[v].map oR) (tg:=.dR) rfl rfl rfl rfl rfl rfl (as' (D.Q .dR 1) (yr [v] (by simp at hc⊢;omega))) ?_);refine iB ?_;exact aq.of_eq (as' D.O (by rw[ys,EY,as_ (by simpa using hc)]));apply cr;refine p7 ?_;have bY:=Im h0 (k:=64) asZ;have b':=Io (k:=64) h0;have kq:=Im h0 (k:=4096) asZ;have zQ:=Io (v:=v.tdiv 64) (k:=64) asZ;refine aJ _ rfl ?_ ?_<;>intro hc;refine qU ?_;refine p5 ?_;refine .inl ⟨λ_=>ax8,?_⟩;(conv=>whnf);refine .inl ⟨λ_=>ax8,?_⟩;refine nZ ?_;refine .inl ⟨ax8,?_⟩;refine wN ?_;refine .inl ⟨λ_=>ax8,?_⟩;refine nZ ?_;refine .inl ⟨ax8,?_⟩;(conv=>whnf);refine pg ?_;refine .inr (af.vb aM (aR:=[192+v.tdiv 64,128+v.tmod 64].map oR) (tg:=.dR) rfl rfl rfl rfl rfl rfl (as' (D.Q .dR 1) (yr [192+v.tdiv 64,128+v.tmod 64] (by simp at hc⊢;omega))) ?_);refine iB ?_;exact aq.of_eq (as' D.O (by simp only[atS,auQ]at*;rw[ys,EY,as9 (by assumption),as_ (by assumption)]));apply cr;refine qU ?_;refine p5 ?_;refine .inl ⟨λ_=>ax8,?_⟩;(conv=>whnf);refine .inl ⟨λ_=>ax8,?_⟩;refine nZ ?_;refine .inl ⟨ax8,?_⟩;refine wN ?_;refine .inl ⟨λ_=>ax8,?_⟩;refine wN ?_;refine .inl ⟨λ_=>ax8,?_⟩;refine nZ ?_;refine .inl ⟨ax8,?_⟩;refine wN ?_;refine .inl ⟨λ_=>ax8,?_⟩;refine nZ ?_;refine .inl ⟨ax8,?_⟩;(conv=>whnf);refine pg ?_;refine .inr (af.vb aM (aR:=[224+v.tdiv 4096,128+(v.tdiv 64).tmod 64,128+v.tmod 64].map oR) (tg:=.dR) rfl rfl rfl rfl rfl rfl (as' (D.Q .dR 1) (yr [224+v.tdiv 4096,128+(v.tdiv 64).tmod 64,128+v.tmod 64] (by simp at hc⊢;omega))) ?_);refine iB ?_;exact aq.of_eq (as' D.O (by simp only[atS,auQ]at*;rw[ys,EY,as9 (by assumption),as9 (by assumption)]))
def ll(s:as8)(k:Nat):Int:=((s.getD k 0).toNat:Nat)
def B_(s:as8)(i:Nat):Int:=if i=2 then(ll s 0-192)*64+ll s 1-128 else ll s 0
def m9(s:as8)(i:Nat):Int:=if i=3 then(ll s 0-224)*4096+(ll s 1-128)*64+ll s 2-128 else B_ s i
def q2(s:as8)(i:Nat):Bool:=en (m9 s i)&&ys (m9 s i)==s.take i
theorem M4(s:as8)(k:Nat):0<=ll s k/\ll s k<=255:=by unfold ll;have:=(s.getD k 0).toNat_lt;omega
variable{k:Nat}
theorem Ad(s:as8)(h:k<s.length):s[k]?=some (s.getD k 0):=by simp[List.getD,h]
def first(s:as8):Int×Int:=if 1<=s.length/\q2 s 1=true then(m9 s 1,1)else if 2<=s.length/\q2 s 2=true then(m9 s 2,2)else if 3<=s.length/\q2 s 3=true then(m9 s 3,3)else(0,0)
variable{r:Int}
theorem EZ(h:en r=true):32<=r/\r<=65533:=by unfold en at h;simp only[atd,atS]at h;exact⟨h.1,h.2.1⟩
variable{i:Nat}
theorem TR(h1:1<=i)(Z:i<=3)(aj:i<=s.length)(cG:q2 s i=true)(fe:∀m,1<=m->m<i->q2 s m=false):first s=(m9 s i,(i:Int)):=by(unfold first);match i,h1,Z with|1,_,_=>rw[as_ ⟨aj,cG⟩];rfl|2,_,_=>rw[as9 (by rw[fe 1 asZ asZ];simp),as_ ⟨aj,cG⟩];rfl|3,_,_=>rw[as9 (by rw[fe 1 asZ asZ];simp),as9 (by rw[fe 2 asZ asZ];simp),as_ ⟨aj,cG⟩];rfl
theorem adR(hi:3<i\/s.length<i)(fe:∀m,1<=m->m<i->q2 s m=false):first s=(0,0):=by(unfold first;rw[as9,as9,as9]);(all_goals rintro⟨h1,A⟩);rw[fe 3 asZ asZ]at A;cases A;rw[fe 2 asZ asZ]at A;cases A;rw[fe 1 asZ asZ]at A;cases A
theorem adS(s:as8)(hs:s.length<1000000000):aU B 315 [.O s] (.bo [u (first s).1,u (first s).2]):=by refine bA Tryz.func315 Tryz.ntmps315 λU=>?_;apply b2;refine ns ?_;refine X.loop (α:={i:Nat // 1<=i/\i<=4/\∀m,1<=m->m<i->q2 s m=false}) (λx=>[(0,.O s),(4,u x.1)]) (λ_=>[]) (λx=>4-x.1) ⟨1,by omega,by omega,λm h1 A=>by omega⟩ ar trivial ?_;rintro⟨i,n0,TS,fe⟩;dsimp only;refine f' ?_;apply g8;refine nY ?_;refine aJ _ rfl ?_ ?_<;>intro hc;refine ff ?_;(have hi:i<=3/\i<=s.length:=axs);have rN:=M4 s 0;have mS:=M4 s 1;have g6:=M4 s 2;refine gK ?_;refine⟨s.getD 0 0,λ_=>⟨by omega,Ad s asZ⟩,?_⟩;(conv=>whnf);refine .inl ⟨axE,?_⟩;(conv=>whnf);refine X.lL (α:=Unit) (λx=>[(0,.O s),(4,u i),(5,u (B_ s i))]) (λx=>[]) ?_ ?_;apply b2;refine aJ _ rfl ?_ ?_<;>intro hc;refine X.u_ aM mixed as4 ?_;(conv=>whnf);refine⟨s.getD 0 0,λ_=>⟨by omega,Ad s asZ⟩,?_⟩;(conv=>whnf);refine .inl ⟨axE,?_⟩;(conv=>whnf);refine .inl ⟨λ_=>axE,?_⟩;(conv=>whnf);refine .inl ⟨λ_=>axE,?_⟩;(conv=>whnf);refine⟨s.getD 1 0,λ_=>⟨by omega,Ad s (by simp at hc;omega)⟩,?_⟩;(conv=>whnf);refine .inl ⟨by have:=(s.getD 1 0).toNat_lt;simp only[dg];omega,?_⟩;(conv=>whnf);refine .inl ⟨λ_=>axj,?_⟩;(conv=>whnf);refine .inl ⟨λ_=>axj,?_⟩;(conv=>whnf);(have A:i=2:=by simp at hc;omega);exact⟨(),[],⟨E,E,dr (by rw[B_,as_ A];rfl),ai⟩,rfl,ai⟩;refine ff ?_;(have A:i≠2:=by simp at hc;omega);exact⟨(),[],⟨E,E,dr (by rw[B_,as9 A];rfl),ai⟩,rfl,ai⟩;rintro⟨⟩;refine X.lL (α:=Unit) (λx=>[(0,.O s),(4,u i),(5,u (m9 s i))]) (λx=>[]) ?_ ?_;apply b2;refine aJ _ rfl ?_ ?_<;>intro hc;refine X.u_ aM mixed as4 ?_;(conv=>whnf);refine⟨s.getD 0 0,λ_=>⟨by omega,Ad s asZ⟩,?_⟩;(conv=>whnf);have wZ:=(s.getD 0 0).toNat_lt;have E0:=(s.getD 1 0).toNat_lt;have qY:=(s.getD 2 0).toNat_lt;refine .inl ⟨by simp only[dg];omega,?_⟩;refine vg ?_;refine⟨s.getD 1 0,λ_=>⟨by omega,Ad s (by simp at hc;omega)⟩,?_⟩;(conv=>whnf);refine .inl ⟨by simp only[dg];omega,?_⟩;refine g9 ?_;refine vg ?_;refine⟨s.getD 2 0,λ_=>⟨by omega,Ad s (by simp at hc;omega)⟩,?_⟩;(conv=>whnf);refine .inl ⟨by simp only[dg];omega,?_⟩;refine vg ?_;(have A:i=3:=by simp at hc;omega);exact⟨(),[],⟨E,E,dr (by rw[m9,as_ A];rfl),ai⟩,rfl,ai⟩;refine ff ?_;(have A:i≠3:=by simp at hc;omega);exact⟨(),[],⟨E,E,dr (by rw[m9,as9 A]),ai⟩,rfl,ai⟩;rintro⟨⟩;refine oL ?_;(conv=>whnf);refine⟨_,_,λ_=>adO _,ar,?_⟩;refine mY ?_;refine⟨[u (m9 s i)],_,λh=>adQ _ (by have:=EZ h;omega) (by have:=EZ h;omega),ar,?_⟩;refine hE ?_;refine⟨λh=>by omega,?_⟩;refine nY ?_;(conv=>whnf);(have TT:q2 s i=(bif en (m9 s i)then ys (m9 s i)==(s.take (i:Int).toNat).drop (Int.toNat 0)else false):=by rw[q2,atE];cases en (m9 s i)<;>rfl);refine aJ _ rfl ?_ ?_<;>intro hc;refine gm ?_;have:=TR n0 hi.1 hi.2 (TT.trans hc) fe;exact⟨dr (by rw[this]),dr (by rw[this]),ai⟩;refine rP ?_;exact⟨⟨i+1,by omega,by omega,λm h1 A=>(avc.1 A).elim (fe m h1) λe=>by subst e;exact TT.trans hc⟩,by show 4-(i+1)<4-i;omega,ar,ai⟩;refine qT ?_;(have hi:3<i\/s.length<i:=axs);have:=adR hi fe;exact⟨dr (by rw[this]),dr (by rw[this]),ai⟩
theorem adT(h:1<=s.length):s.take 1=[s.getD 0 0]:=by match s,h with|a::t,_=>rfl
theorem adU(h:2<=s.length):s.take 2=[s.getD 0 0,s.getD 1 0]:=by match s,h with|a::b::t,_=>rfl
theorem adV(h:3<=s.length):s.take 3=[s.getD 0 0,s.getD 1 0,s.getD 2 0]:=by match s,h with|a::b::c::t,_=>rfl
theorem adW(s:as8)(k:Nat):(⟨⟨s⟩⟩:ByteArray).get! k=s.getD k 0:=by show(⟨s⟩:Array UInt8)[k]! = _;rw[getElem!_def];simp[List.getD];cases h:s[k]?<;>rfl
def Ae(n lf dB cg eG:Nat):Nat×Nat :=
 if lf<128 then(lf,1)
 else if lf/32=6/\1<n/\dB/64=2 then
  if(lf%32)*64+dB%64≥128 then((lf%32)*64+dB%64,2)else(65533,1)
 else if lf/16=14/\(1<n/\dB/64=2)/\2<n/\cg/64=2 then
  if(lf%16)*4096+(dB%64)*64+cg%64≥2048/\((lf%16)*4096+(dB%64)*64+cg%64<55296\/57344<=(lf%16)*4096+(dB%64)*64+cg%64)
  then((lf%16)*4096+(dB%64)*64+cg%64,3)else(65533,1)
 else if lf/8=30/\(1<n/\dB/64=2)/\(2<n/\cg/64=2)/\3<n/\eG/64=2 then
  if(lf%8)*262144+(dB%64)*4096+(cg%64)*64+eG%64≥65536/\(lf%8)*262144+(dB%64)*4096+(cg%64)*64+eG%64<=1114111
  then((lf%8)*262144+(dB%64)*4096+(cg%64)*64+eG%64,4)else(65533,1)
 else(65533,1)
theorem E1(h:s≠[]):dO s=Ae s.length (s.getD 0 0).toNat (s.getD 1 0).toNat (s.getD 2 0).toNat (s.getD 3 0).toNat:=by have h0:¬(⟨⟨s⟩⟩:ByteArray).size=0:=λe=>h (atm e);have aj:(⟨⟨s⟩⟩:ByteArray).size=s.length:=rfl;unfold dO Lib.decodeGo;rw[as9 h0];unfold Utf8.decode;dsimp only;simp only[adW,atT,aj];have wZ:=(s.getD 0 0).toNat_lt;generalize(s.getD 0 0).toNat=lf at*;generalize(s.getD 1 0).toNat=dB;generalize(s.getD 2 0).toNat=cg;generalize(s.getD 3 0).toNat=eG;unfold Ae;have EW:Utf8.runeError=65533:=rfl;simp only[EW,atd,auv,atS,ge_iff_le,Utf8.valid,auM,and_assoc];(repeat' split);all_goals first|rfl|(exfalso;omega)|skip
def rV(v:Int)(lf dB cg:Int):Nat->Prop
 |1=>v<128/\lf=v
 |2=>128<=v/\v<2048/\lf=192+v/64/\dB=128+v%64
 |3=>2048<=v/\lf=224+v/4096/\dB=128+v/64%64/\cg=128+v%64
 |_=>False
theorem B'{n:Int}{b:UInt8}(h0:0<=n)(h1:n<=255):oR n=b↔((b.toNat:Nat):Int)=n:=by unfold oR;rw[<-UInt8.toNat_inj];have F:=b.toNat_lt;simp;omega
theorem TU{v:Int}(h0:0<=v)(h1:v<=65535)(hi:1<=i)(sZ:i<=3)(aj:i<=s.length):ys v=s.take i↔rV v (ll s 0) (ll s 1) (ll s 2) i:=by have bY:=Im h0 (k:=64) asZ;have b':=Io (k:=64) h0;have kq:=Im h0 (k:=4096) asZ;have zQ:=Io (v:=v.tdiv 64) (k:=64) asZ;unfold ys EY;match i,hi,sZ with|1,_,_ =>rw[adT aj];unfold rV ll;split;simp only[atG,auT,avo,and_true];rw[B' asZ asZ];omega;split<;>simp<;>omega|2,_,_ =>rw[adU aj];unfold rV ll;split;simp;omega;split;simp only[atG,auT,avo,and_true];rw[B' asZ asZ,B' asZ asZ];omega;simp;omega|3,_,_ =>rw[adV aj];unfold rV ll;split;simp;omega;split;simp;omega;simp only[atG,auT,avo,and_true];rw[B' asZ asZ,B' asZ asZ,B' asZ asZ];omega
theorem M5(hi:1<=i)(sZ:i<=3)(aj:i<=s.length):q2 s i=true↔en (m9 s i)=true/\rV (m9 s i) (ll s 0) (ll s 1) (ll s 2) i:=by unfold q2;rw[atd,auM];constructor;rintro⟨h1,A⟩;have:=EZ h1;exact⟨h1,(TU asZ asZ hi sZ aj).1 A⟩;rintro⟨h1,A⟩;have:=EZ h1;exact⟨h1,(TU asZ asZ hi sZ aj).2 A⟩
theorem TV(hs:s≠[])(hi:1<=i)(sZ:i<=3)(aj:i<=s.length)(h:q2 s i=true):((dO s).1:Int)=m9 s i/\(dO s).2=i:=by obtain⟨h1,A⟩:=(M5 hi sZ aj).1 h;rw[E1 hs];unfold en at h1;simp only[atd,auv,atS]at h1;unfold m9 B_ ll at*;have wZ:=(s.getD 0 0).toNat_lt;have E0:=(s.getD 1 0).toNat_lt;have qY:=(s.getD 2 0).toNat_lt;generalize(s.getD 0 0).toNat=lf at*;generalize(s.getD 1 0).toNat=dB at*;generalize(s.getD 2 0).toNat=cg at*;generalize(s.getD 3 0).toNat=eG at*;unfold Ae;match i,hi,sZ with|1,_,_ =>simp only[Nat.reduceEqDiff,auU,aum,rV]at h1 A⊢;rw[as_ asZ];simp|2,_,_ =>simp only[Nat.reduceEqDiff,auU,aum,rV]at h1 A⊢;rw[as9 asZ,as_ asZ,as_ asZ];simp;omega|3,_,_ =>simp only[Nat.reduceEqDiff,auU,aum,rV]at h1 A⊢;rw[as9 asZ,as9 asZ,as_ asZ,as_ asZ];simp;omega
theorem adX(hs:s≠[])(h:l0 s=false):(dO s).2<=3/\q2 s (dO s).2=true/\((dO s).1:Int)=m9 s (dO s).2:=by
 obtain⟨h1,A,Z,aD⟩:=wY s hs
 have F:en ((dO s).1:Nat)=true/\¬((dO s).1=65533/\(dO s).2=1):=by
  unfold l0 at h;simp only[auK,au6,auN,atK]at h;exact⟨h.1,by omega⟩
 obtain⟨hc,ax⟩:=F;have aqX:=EZ hc
 have key:(dO s).2<=3/\rV ((dO s).1:Nat) (ll s 0) (ll s 1) (ll s 2) (dO s).2/\((dO s).1:Int)=m9 s (dO s).2:=by
  unfold m9 B_ ll;rw[E1 hs]at*;have wZ:=(s.getD 0 0).toNat_lt;have E0:=(s.getD 1 0).toNat_lt;have qY:=(s.getD 2 0).toNat_lt;generalize(s.getD 0 0).toNat=lf at*;generalize(s.getD 1 0).toNat=dB at*;generalize(s.getD 2 0).toNat=cg at*;generalize(s.getD 3 0).toNat=eG at*;unfold Ae at*
  repeat' split
  all_goals simp_all [rV]
  all_goals omega
 refine⟨key.1,?_,key.2.2⟩;rw[M5 h1 key.1 A,<-key.2.2];exact⟨hc,key.2.1⟩
theorem adY(hs:s≠[]):first s=if l0 s then(0,0)else(((dO s).1:Int),((dO s).2:Int)):=by obtain⟨h1,A,Z,aD⟩:=wY s hs;have aw:0<s.length:=auq.2 hs;cases F:l0 s with|true =>rw[as_ rfl];(have fe:∀m,1<=m->m<4->m<=s.length->q2 s m=false:=λm lm s0 gw=>by rw[avX];intro cG;obtain⟨bY,b'⟩:=TV hs lm asZ gw cG;obtain⟨ev,dC⟩:=(M5 lm asZ gw).1 cG;unfold l0 at F;simp only[auv,avr,atd,auM]at F;rw[bY]at F;rcases F with F|⟨dB,cg⟩;rw[F]at ev;cases ev;(have hm:m=1:=by omega);subst hm;simp only[rV]at dC;omega);(unfold first;rw[as9,as9,as9]);(all_goals rintro⟨g1,fx⟩);rw[fe 3 asZ asZ g1]at fx;cases fx;rw[fe 2 asZ asZ g1]at fx;cases fx;rw[fe 1 asZ asZ g1]at fx;cases fx|false =>rw[as9 as1];obtain⟨g1,fx,g3⟩:=adX hs F;rw[g3];refine TR h1 g1 A fx λm lm s0=>?_;rw[avX];intro cG;have:=(TV hs lm asZ asZ cG).2;omega
theorem adZ(s:as8)(hs:s.length<1000000000):aU B 273 [.O s] (.bo [.Q .none 1 (fI .i64 (chars s).1),u (chars s).2]):=by refine bA Tryz.func273 Tryz.ntmps273 λU=>?_;apply b2;refine f' ?_;refine aJ _ rfl ?_ ?_<;>intro hc;refine gm ?_;(have:chars s=([],7):=by rw[chars,as_ (by simp at hc;omega)]);rw[this];exact⟨aq.nil,E,ai⟩;refine ff ?_;(have jn:¬65536<s.length:=by simp at hc;omega);apply b2;apply ep;refine X.own 4 1000 1 3 rfl (λv=>?_);apply oK;refine X.ec (α:={x:as8×List Int // jt s=(jt x.1).map (x.2++·)/\x.1.length+x.2.length<=s.length}×Value) (λx=>[(0,.O x.1.1.1),(4,.Q (.own 1000 x.2) 1 (fI .i64 x.1.1.2))]) (λx=>[(1000,.own x.2 (fI .i64 x.1.1.2).length 1 3)]) (λx=>x.1.1.1.length) (⟨(s,[]),by simp,by simp⟩,v) [(1000,1000)] ⟨ar,rfl,bb⟩ ?_;rintro⟨⟨⟨r,fw⟩,kZ,hlen⟩,v⟩;dsimp only at kZ hlen⊢;refine f' ?_;refine aJ _ rfl ?_ ?_<;>intro hc;refine ff ?_;(have ae:r≠[]:=by intro e;subst e;simp at hc);obtain⟨EX,r3,B9,adP⟩:=wY r ae;(have kB:(fI .i64 fw).length=fw.length:=by simp[fI]);have yt:=adY ae;refine Me ?_;refine⟨_,_,λ_=>adS r asZ,ar,?_⟩;refine f' ?_;refine aJ _ rfl ?_ ?_<;>intro hc;refine gm ?_;(have yq:l0 r=true:=by cases F:l0 r with|true=>rfl|false=>rw[F,as9 as1]at yt;rw[yt]at hc;simp at hc;omega);(have:chars s=([],3):=by rw[chars,as9 jn,kZ,yp ae,as_ yq];rfl);rw[this];exact⟨aq.nil,E,ai⟩;refine ff ?_;(have yq:l0 r=false:=by cases F:l0 r with|false=>rfl|true=>rw[F,as_ rfl]at yt;rw[yt]at hc;simp at hc);rw[yq,as9 as1]at yt;refine ck ?_;refine nr ?_;refine⟨by show(_+1)*8<=_;omega,by show _+1<=_;omega,as6,λv=>?_⟩;refine m0 ?_;refine⟨λ_=>by rw[yt];simp;omega,?_⟩;(conv=>whnf);exact⟨(⟨(r.drop (dO r).2,fw++[((dO r).1:Int)]),by rw[kZ,yp ae,yq];simp[avE],by simp;omega⟩,v),[(1000,23)],by show(r.drop (dO r).2).length<r.length;simp;omega,⟨aq.of_eq (as' D.O (by rw[yt];simp)),aq.j6 (by rw[yt];simp[fI];rfl),ai⟩,rfl,rfl,ky (by simp[fI]),ai⟩;refine qT ?_;exact aw0
def dQ(s:as8):Bool :=
 if s=[46]\/s=[46,46]\/(47:UInt8)∈s then false else(chars s).2==0&&(decide (1<=(chars s).1.length)&&decide ((chars s).1.length<=64))
theorem TW(c:UInt8):∀s:as8,decide (0<=Lib.indexByte s c)=decide (c∈s)
 |[]=>by simp[Lib.indexByte]
 |b::l=>by
  have aY:=TW c l;have h2:=Lib.indexByte_ge l c;rw[decide_eq_decide]at aY⊢;unfold Lib.indexByte;by_cases F:b=c
  ·subst F;simp
  rw[as9 (by simpa using F)];have:c∈b::l↔c∈l:=by simp[Ne.symm F]
  rw[this,<-aY]
  cases hm:Lib.indexByte l c==-1 with
  |true=>rw[as_ rfl];have:=eq_of_beq hm;omega
  |false => rw[as9 as1];have : Lib.indexByte l c ≠ -1 := λe => by rw[e]at hm;simp at hm
            omega
theorem yu(aW:dc B)(s:as8)(hs:s.length<1000000000):aU B 193 [.O s] (.bool (dQ s)):=by refine bA Tryz.func193 Tryz.ntmps193 λU=>?_;apply b2;refine f' ?_;refine ie ?_;refine mY ?_;refine⟨_,_,λh=>TO s 47,ar,?_⟩;refine tU ?_;(conv=>whnf);(have pk:(bif bif s==[46]then true else s==[46,46]then true else decide (0<=Lib.indexByte s 47))=decide (s=[46]\/s=[46,46]\/(47:UInt8)∈s):=by rw[TW];by_cases h1:s=[46];simp[h1];by_cases A:s=[46,46]<;>simp[h1,A]);refine aJ _ rfl ?_ ?_<;>intro hc;refine gm ?_;exact aq.of_eq (as' D.bool (by rw[dQ,as_ (atw (pk.symm.trans hc))]));apply cr;refine ck ?_;refine⟨_,_,λ_=>M3 aW s hs,ar,?_⟩;apply b2;refine nY ?_;refine nY ?_;refine iB ?_;refine aq.of_eq (as' D.bool ?_);rw[dQ,as9 (atl (pk.symm.trans hc))];exact awO
def cR(c:UInt8):as8->as8->List as8
 |p,[]=>[p]
 |p,b::r=>if b=c then p::cR c [] r else cR c (p++[b]) r
theorem M6{c:UInt8}:∀(s p:as8),c∉s->cR c p s=[p++s]
 |[],p,_=>by simp[cR]
 |b::r,p,h=>by have F:b≠c:=λe=>h (by simp[e]);have ae:c∉r:=λe=>h (by simp[e]);rw[cR,as9 F,M6 r _ ae];simp
theorem M7{c:UInt8}:∀(a p r:as8),c∉a->cR c p (a++c::r)=(p++a)::cR c [] r
 |[],p,r,_=>by simp[cR]
 |b::a,p,r,h=>by have F:b≠c:=λe=>h (by simp[e]);have ae:c∉a:=λe=>h (by simp[e]);rw[auh,cR,as9 F,M7 a _ r ae];simp
theorem s1{c:UInt8}:∀(s p:as8),(cR c p s).length<=s.length+1/\∀x∈cR c p s,x.length<=p.length+s.length
 |[],p=>by simp[cR]
 |b::r,p=>by have h1:=s1 (c:=c) r [];have A:=s1 (c:=c) r (p++[b]);rw[cR];split;refine⟨by simp;omega,λx I=>?_⟩;rcases atu.1 I with rfl|I;simp;have:=h1.2 x I;simp at this⊢;omega;refine⟨by simp at A⊢;omega,λx I=>?_⟩;have:=A.2 x I;simp at this⊢;omega
theorem ad0(c:UInt8):∀(n:Nat) (s:as8),s.length<=n->(Lib.splitB ⟨⟨[c]⟩⟩ 0 (Lib.countB ⟨⟨s⟩⟩ ⟨⟨[c]⟩⟩) ⟨⟨s⟩⟩).map (λb=>b.data.toList)=cR c [] s:=by intro n;induction n with|zero =>intro s h;have:s=[]:=atm asZ;subst this;rw[Lib.countB_miss _ _ (by rfl)];rfl|succ n aY =>intro s h;have rU:Lib.indexB ⟨⟨s⟩⟩ ⟨⟨[c]⟩⟩=Lib.indexByte s c:=Lib.index_one s c;have h2:=Lib.indexByte_ge s c;by_cases hm:Lib.indexByte s c=-1;(have fe:c∉s:=λhc=>by obtain⟨k,Y⟩:=atz.1 hc;exact Lib.indexByte_none hm k Y);rw[Lib.countB_miss _ _ (rU.trans hm),Lib.splitB_zero,M6 s [] fe];rfl;obtain⟨i,hi⟩:∃i:Nat,Lib.indexByte s c=i:=⟨(Lib.indexByte s c).toNat,by omega⟩;obtain⟨h1,A⟩:=Lib.indexByte_some hi;(have cz:i<s.length:=by rcases ats i s.length with h|h;exact h;rw[atj h]at h1;cases h1);have hsz:(⟨⟨[c]⟩⟩:ByteArray).size=1:=rfl;have iX:(⟨⟨s⟩⟩:ByteArray).size=s.length:=rfl;have lO:s.take s.length=s:=ati;rw[Lib.countB_hit _ _ i (by rw[hsz];omega) (rU.trans hi),avZ 1,Lib.splitB_hit _ _ _ _ i (rU.trans hi),hsz,iX,Lp,Lp,lO];(have hs:s=s.take i++c::s.drop (i+1):=by have:=atI.1 h1;obtain⟨_,ao⟩:=this;have Z:=aue cz;rw[ao]at Z;rw[<-Z,auz]);(have fe:c∉s.take i:=λhc=>by obtain⟨k,Y⟩:=atz.1 hc;rw[atZ]at Y;split at Y;rename_i bi;exact A k bi Y;cases Y);rw[atG,aY (s.drop (i+1)) as0];(conv=>rhs;rw[hs,M7 _ _ _ fe]);simp
def aN(l:List as8):List D:=l.map D.O
theorem Ip(aW:dc B)(s:as8)(c:UInt8)(hs:s.length<1000000000):aU B 83 [.O s,.O [c]] (.Q .dR 1 (aN (cR c [] s))):=by obtain⟨m,hm⟩:=aW.TM;have jm:=ad0 c s.length s (atg _);have hlen:=(s1 (c:=c) s []).1;(have kn:Lib.countB ⟨⟨s⟩⟩ ⟨⟨[c]⟩⟩+1=(aN (cR c [] s)).length:=by have:=Lib.splitB_all (⟨⟨[c]⟩⟩:ByteArray) (atg 1) 0 _ (⟨⟨s⟩⟩:ByteArray) rfl;rw[<-this,aN,atb,<-jm,atb]);(have hcells:∀x∈aN (cR c [] s),x.cells=[x]:=λx I=>ax9);(have lS:(Lib.splitB ⟨⟨[c]⟩⟩ 0 (Lib.countB ⟨⟨s⟩⟩ ⟨⟨[c]⟩⟩) ⟨⟨s⟩⟩).map Value.string=(cR c [] s).map λx=>Value.string ⟨⟨x⟩⟩:=by rw[<-jm,avl];rfl);refine .newRow (dl:=(cR c [] s).map λx=>Value.string ⟨⟨x⟩⟩) (e:=9) (js Tryz.func83 rfl as3) rfl (λx I=>by rw[hcells x I];rfl) (by simp only[aN,atb,maxLen]at*;omega) (λw C=>?_) (λak an=>by obtain⟨y,_,rfl⟩:=aty.1 an;rfl) λw F=>(Tryz.strings_Split ⟨⟨s⟩⟩ ⟨⟨[c]⟩⟩ m w (by show s.length<_;omega) (EV F hm) (atg 1)).mono λe w' ⟨ao,cH⟩=>?_;rw[rL hcells];exact⟨by simp[aN],λi d v N W=>by simp only[aN,atA]at N W;cases I:(cR c [] s)[i]? with|none=>rw[I]at N;cases N|some x=>rw[I]at N W;cases N;cases W;exact .O _⟩;rw[<-kn];exact⟨ao,by rw[cH,lS]⟩
def gE(s:as8):as8:=match s with|b::r=>if b=47 then r else b::r|[]=>[]
theorem Iq(s:as8):Lib.trimPrefix s [47]=gE s:=by unfold Lib.trimPrefix Lib.hasPrefix gE;match s with|[]=>rfl|b::r =>by_cases h:b=47;simp[h,List.isPrefixOf];have bz:¬(47:UInt8)=b:=λe=>h e.symm;simp[h,bz,List.isPrefixOf]
theorem Ir(s:as8):(gE s).length<=s.length:=by unfold gE;split;split<;>simp;simp
def Af(p:as8):Bool:=p==[46]||(p==[46,46]||dQ p)
def k0(s:as8):Bool:=if s.length<1\/128<s.length then false else if s=[47]then true else(cR 47 [] (gE s)).all Af
variable{α:Type}
theorem TX{q:α->Bool}{l:List α}(h:i<l.length)(G:q l[i]=false):l.all q=false:=by rw[avX];intro ha;have:=at0.1 ha l[i] (ate h);rw[G]at this;cases this
theorem M8{q:α->Bool}{l:List α}(h:¬i<l.length)(G:∀j (ad:j<l.length),j<i->q l[j]=true):l.all q=true :=
 at0.2 λx I=>by
  obtain⟨j,ad,rfl⟩:=atP.1 I;exact G j ad asZ
theorem M9{q:α->Bool}{l:List α}{hi:i<l.length}(h:q l[i]=true)(G:∀j (ad:j<l.length),j<i->q l[j]=true):∀j (ad:j<l.length),j<i+1->q l[j]=true:=λj ad bi =>
 (avc.1 bi).elim (G j ad) λe=>by subst e;exact h
theorem TY(p:as8):(bif (bif !(p==[46])then !(p==[46,46])else false)then !dQ p else false)=!Af p:=by unfold Af;cases p==[46]<;>cases p==[46,46]<;>cases dQ p<;>rfl
theorem Is(aW:dc B)(s:as8)(hs:s.length<1000000000):aU B 194 [.O s] (.bool (k0 s)):=by refine bA Tryz.func194 Tryz.ntmps194 λU=>?_;refine go ?_;refine aJ _ rfl ?_ ?_<;>intro hc;refine go ?_;refine aq.of_eq (as' D.bool ?_);rw[k0,as_];by_cases h1:s.length<1;exact .inl h1;right;(have lW:¬(s.length:Int)<1:=by omega);simp[lW]at hc;omega;refine go ?_;(have h1:¬(s.length<1\/128<s.length):=axu);refine go ?_;refine aJ _ rfl ?_ ?_<;>intro hc;refine go ?_;exact aq.of_eq (as' D.bool (by rw[k0,as9 h1,as_ (by simpa using hc)]));apply cr;(have A:s≠[47]:=by simpa using hc);(have hT:k0 s=(cR 47 [] (gE s)).all Af:=by rw[k0,as9 h1,as9 A]);have kn:=Ir s;obtain⟨t',E2⟩:=s1 (c:=47) (gE s) [];refine p7 ?_;refine⟨_,_,λ_=>adM s [47],ar,?_⟩;refine go ?_;refine⟨[.O (gE s),.O [47]],_,λ_=>Ip aW (gE s) 47 asZ,⟨aq.of_eq (as' D.O (Iq s)),E,ai⟩,?_⟩;apply oK;refine X.loop (α:={i:Nat // i<=(cR 47 [] (gE s)).length/\∀j (h:j<(cR 47 [] (gE s)).length),j<i->Af (cR 47 [] (gE s))[j]=true}) (λx=>[(17,.Q .dR 1 (aN (cR 47 [] (gE s)))),(18,u (aN (cR 47 [] (gE s))).length),(19,u x.1)]) (λ_=>[]) (λx=>(cR 47 [] (gE s)).length-x.1) ⟨0,by simp⟩ ar trivial ?_;rintro⟨i,hi,aw⟩;dsimp only;refine go ?_;refine aJ _ rfl ?_ ?_<;>intro hc;refine ff ?_;(have aH:i<(cR 47 [] (gE s)).length:=by simpa[aN]using hc);have dj:=E2 _ (ate aH);refine gK ?_;refine⟨λ_=>by simp[aN];omega,?_⟩;refine go ?_;refine⟨.O (cR 47 [] (gE s))[i],λ_=>BE _ aH,?_⟩;refine go ?_;refine⟨[.O (cR 47 [] (gE s))[i]],_,λh=>yu aW _ (by simp at dj;omega),ar,?_⟩;refine ie ?_;(conv=>whnf);have pk:=TY (cR 47 [] (gE s))[i];refine aJ _ rfl ?_ ?_<;>intro hc;refine go ?_;exact aq.of_eq (as' D.bool (by rw[hT,TX aH (by simpa using pk.symm.trans hc)]));refine go ?_;exact⟨⟨i+1,by omega,M9 (hi:=aH) (by simpa using pk.symm.trans hc) aw⟩,by show _-(i+1)<_-i;omega,ar,ai⟩;refine go ?_;exact aq.of_eq (as' D.bool (by rw[hT,M8 (by simpa[aN]using hc) aw]))
theorem ad1(h:300<s.length):dQ s=false:=by unfold dQ chars;split;rfl;split;rfl;cases aw:jt s with|none=>rfl|some l =>have:=B8 s.length s (atg _) l aw;(have h1:¬l.length<=64:=by omega);simp[h1]
theorem M_(s:as8)(hs:s.length<1000000000):aU B 214 [.O s] (.bool (dQ s)):=by refine bA Tryz.func214 Tryz.ntmps214 λU=>?_;refine go ?_;(have pk:(bif bif s==[46]then true else s==[46,46]then true else decide (300<(s.length:Int)))=decide (s=[46]\/s=[46,46]\/300<s.length):=by by_cases h1:s=[46];simp[h1];by_cases A:s=[46,46];simp[A];(have bY:(s==[46])=false:=by simpa using h1);(have b':(s==[46,46])=false:=by simpa using A);rw[bY,b'];simp[h1,A];omega);refine aJ _ rfl ?_ ?_<;>intro hc;refine go ?_;refine aq.of_eq (as' D.bool ?_);have:=atw (pk.symm.trans hc);by_cases Z:300<s.length;rw[ad1 Z];rw[dQ,as_ (by rcases this with h|h|h;exact .inl h;exact .inr (.inl h);exact absurd h Z)];refine go ?_;have ax:=atl (pk.symm.trans hc);refine go ?_;refine X.loop (α:={i:Nat // i<=s.length/\∀j (h:j<s.length),j<i->(s[j]!=47)=true}) (λx=>[(0,.O s),(3,u x.1)]) (λ_=>[]) (λx=>s.length-x.1) ⟨0,by simp⟩ ar trivial ?_;rintro⟨i,hi,aw⟩;dsimp only;refine go ?_;refine aJ _ rfl ?_ ?_<;>intro hc;refine go ?_;(have aH:i<s.length:=by simpa using hc);refine go ?_;refine⟨s[i],λ_=>⟨by omega,by simp[aH]⟩,?_⟩;refine go ?_;have q3:=Sr s[i] 47 as2;refine aJ _ rfl ?_ ?_<;>intro hc;refine go ?_;refine aq.of_eq (as' D.bool ?_);(have Ag:s[i]=47:=by have:=q3.symm.trans hc;simpa using this);rw[dQ,as_ (.inr (.inr (Ag ▸ ate aH)))];refine go ?_;exact⟨⟨i+1,by omega,M9 (q:=λb=>b !=47) (hi:=aH) (by have:=q3.symm.trans hc;simpa[bne]using this) aw⟩,axU,ar,ai⟩;refine sM ?_;refine⟨_,_,λ_=>adZ s hs,ar,?_⟩;refine go ?_;refine aq.of_eq (as' D.bool ?_);(have fe:(47:UInt8)∉s:=λh=>by have:=M8 (q:=λb:UInt8=>b !=47) (by simpa using hc) aw;have:=at0.1 this 47 h;simp at this);rw[dQ,as9 (by rintro(h|h|h);exact ax (.inl h);exact ax (.inr (.inl h));exact fe h)];exact awO
structure It where
 path:as8
 ad2:Int
 ad3:Int
 ad4:Int
 ad5:Int
 gh:Bool
 deriving DecidableEq
def pp(b:It):D:=.agg [.O b.path,u b.ad2,u b.ad3,u b.ad4,u b.ad5,.bool b.gh]
structure fg where
 name:as8
 set:as8
 oc:as8
 od:as8
 kY:as8
 Ca:Int
 Cb:Int
 fh:Int
 fO:Int
 c4:Int
 gh:List It
 c5:Int
 ny:Bool
 deriving DecidableEq
def hP(m:fg):D:=.agg [.O m.name,.O m.set,.O m.oc,.O m.od,.O m.kY,u m.Ca,u m.Cb,u m.fh,u m.fO,u m.c4,.Q .none 6 (m.gh.map pp),u m.c5,.bool m.ny]
def Iu(m:fg):Bool:=decide (m.gh.length<=4)&&decide (m.name.length+m.set.length+m.oc.length+m.od.length+m.kY.length<=2000)
theorem ad6(m:fg)(h:m.name.length+m.set.length+m.oc.length+m.od.length+m.kY.length<1000000000):aU B 10 [hP m] (.bool (Iu m)):=by refine bA Tryz.func10 Tryz.ntmps10 λU=>?_;refine ck ?_;intro b;refine lc ?_;intro b;apply cB;refine i1 ?_;refine iD ?_;apply g8;refine iD ?_;apply g8;refine hE ?_;refine .inl ⟨λh=>by simp[dg];omega,?_⟩;refine iD ?_;apply g8;refine hE ?_;refine .inl ⟨λh=>by simp[dg];omega,?_⟩;refine iD ?_;apply g8;refine hE ?_;refine .inl ⟨λh=>by simp[dg];omega,?_⟩;refine iD ?_;apply g8;refine hE ?_;refine .inl ⟨λh=>by simp[dg];omega,?_⟩;refine ie ?_;refine iB ?_;refine aq.of_eq (as' D.bool (a₂:=Iu m) ?_);unfold Iu;by_cases h1:m.gh.length<=4;by_cases A:m.name.length+m.set.length+m.oc.length+m.od.length+m.kY.length<=2000;simp[h1,A];omega;simp[h1,A];omega;simp[h1];omega
variable{ds:List D}{a7:D->bF->Prop}
theorem c7.ad7{H:bF}{s:Nat}{o:aI}(h:H s=some o)(hc:cZ B f ds (aK [(k,o)]) a7):cZ B f ds (gC H [(k,s)]) a7:=aw1
theorem ad8(l:List It)(h:l.length<1000000):aU B 78 [.Q .none 6 (l.map pp)] (.Q .none 6 (l.map pp)):=by refine bA Tryz.func78 Tryz.ntmps78 λU=>?_;apply b2;apply nW;refine X.D6 aM ?_;(conv=>whnf);refine .inr (af.L8 (bD:=140) aM rfl rfl rfl λiF pf=>?_);refine aJ _ rfl ?_ ?_<;>intro hc;refine gm ?_;have pU:=pf hc;rw[pU];exact aq.nil;apply cr;refine ck ?_;refine pg ?_;refine⟨by show(0+(l.map pp).length)*56<=_;simp;omega,by show 0+(l.map pp).length<=_;simp;omega,as6,λv=>?_⟩;refine iB ?_;exact aq.trans (aq.of_eq (as' (D.Q _ 6) (auw _))) aq.mT
theorem E3(p:α->Bool)(l:List α):(e2 p l=-1/\∀j (h:j<l.length),p l[j]=false)\/∃(i:Nat) (h:i<l.length),e2 p l=i/\p l[i]=true/\∀j (h:j<l.length),j<i->p l[j]=false:=by unfold e2;cases M:l.findIdx? p with|none=>exact .inl ⟨rfl,λj ad=>by simpa using avm.1 M _ (ate ad)⟩|some i =>obtain⟨h1,A,Z⟩:=au5.1 M;exact .inr ⟨i,h1,rfl,A,λj ad fq=>by simpa using Z j fq⟩
theorem off(f:Nat->Bool)(k:Nat)(h:f k=false):∃g:Nat->Bool,f=λj=>_root_.cond (Nat.beq j k) false (g j) :=
 ⟨f,funext λj=>by cases F:Nat.beq j k with|false=>rfl|true=>rw[atx F];exact h⟩
def kC(v k:Int):Bool:=qH .and .i64 (v.fdiv (2 ^ min k.toNat IntKind.i64.bits)) 1==1
theorem r4(v k:Int)(Y:0<=k):aU B 35 [u v,u k] (.bool (kC v k)):=by refine bA Tryz.func35 Tryz.ntmps35 λU=>?_;refine ph ?_;refine⟨λ_=>Y,?_⟩;refine go ?_;exact E
def M'(m:fg):Bool:=bif !kC m.fO 0 then(bif (bif kC m.fO 1 then true else kC m.fO 2)then true else decide ((0:Int)<((m.gh.map pp).length:Nat)))else false
def r5(m:fg):Bool :=
 if(bif decide (m.fO<1)then true else decide (15<m.fO))=true then false else if M' m=true then false else if kC m.fO 3=true then(bif m.c5==0 then true else m.c5==3)else m.c5==0
theorem E4(m:fg):aU B 32 [hP m] (.bool (r5 m)):=by refine bA Tryz.func32 Tryz.ntmps32 λU=>?_;refine ck ?_;intro dB;refine oL ?_;refine go ?_;refine bp (r4 m.fO 0 as2) ?_;refine bp (r4 m.fO 3 as2) ?_;refine aJ _ rfl ?_ ?_<;>intro hc;refine go ?_;exact aq.of_eq (as' D.bool (by rw[r5,as_ hc]));refine go ?_;(have h1:¬(bif decide (m.fO<1)then true else decide (15<m.fO))=true:=by rw[hc];decide);refine go ?_;refine bp (r4 m.fO 1 as2) ?_;refine bp (r4 m.fO 2 as2) ?_;refine aJ (M' m) rfl ?_ ?_<;>intro hc;refine go ?_;exact aq.of_eq (as' D.bool (by rw[r5,as9 h1,as_ hc]));refine go ?_;(have A:¬M' m=true:=by rw[hc];decide);refine go ?_;refine aJ (kC m.fO 3) rfl ?_ ?_<;>intro hc;refine go ?_;exact aq.of_eq (as' D.bool (by rw[r5,as9 h1,as9 A,as_ hc]));refine go ?_;exact aq.of_eq (as' D.bool (by rw[r5,as9 h1,as9 A,as9 (by rw[hc];decide)]))
structure f1 where
 q4:Bool
 rock:Bool
 c4:Int
 gh:List It
 deriving DecidableEq
def r6(o:f1):D:=.agg [.bool o.q4,.bool o.rock,u o.c4,.Q .none 6 (o.gh.map pp)]
def gq(m:fg):f1:=if r5 m=true/\kC m.fO 0=true then⟨kC m.fO 1,kC m.fO 2,m.c4,m.gh⟩else⟨false,false,0,[]⟩
def qg(o:f1):Int:=(if o.q4=true then 3 else 2)+(if 0<o.gh.length then 1 else 0)
theorem TZ(m:fg)(F:m.gh.length<1000000):aU B 37 [hP m] (r6 (gq m)):=by refine bA Tryz.func37 Tryz.ntmps37 λU=>?_;refine go ?_;intro dB;refine go ?_;intro cg;refine go ?_;refine bp (E4 m) ?_;refine bp (r4 m.fO 0 as2) ?_;refine aJ (!(r5 m&&kC m.fO 0)) (as' D.bool (by cases r5 m<;>cases kC m.fO 0<;>rfl)) ?_ ?_<;>intro hc;refine go ?_;(have h:¬(r5 m=true/\kC m.fO 0=true):=by revert hc;cases r5 m<;>cases kC m.fO 0<;>simp);refine go ?_;rw[gq,as9 h];exact aq.agg ⟨E,E,E,aq.nil,ai⟩;apply cr;apply ep;refine X.Br aM 11 mixed as4 ?_;refine go ?_;refine bp (r4 m.fO 1 as2) ?_;refine bp (r4 m.fO 2 as2) ?_;refine bp (ad8 m.gh F) ?_;(have h:r5 m=true/\kC m.fO 0=true:=by revert hc;cases r5 m<;>cases kC m.fO 0<;>simp);refine go ?_;rw[gq,as_ h];exact E
theorem ad9(o:f1):aU B 36 [r6 o] (u (qg o)):=by refine bA Tryz.func36 Tryz.ntmps36 λU=>?_;refine ck ?_;intro dB;refine ck ?_;refine X.lL (α:=Unit) (λx=>[(1,.box 1 dB 0),(3,u (if o.q4=true then 3 else 2))]) (λx=>[(1,.box dB (r6 o).cells)]) ?_ ?_;refine go ?_;refine aJ o.q4 rfl ?_ ?_<;>intro hc;refine go ?_;exact⟨(),[(1,1)],⟨E,aq.of_eq (as' (D.int .i64) (by rw[as_ hc];rfl)),ai⟩,rfl,bb⟩;refine go ?_;exact⟨(),[(1,1)],⟨E,aq.of_eq (as' (D.int .i64) (by rw[as9 (by rw[hc];decide)])),ai⟩,rfl,bb⟩;rintro⟨⟩;refine go ?_;refine aJ _ rfl ?_ ?_<;>intro hc;refine m0 ?_;refine .inl ⟨λ_=>by simp only[dg];split<;>omega,?_⟩;refine go ?_;(have h:0<o.gh.length:=by simpa using hc);exact aq.of_eq (as' (D.int .i64) (by rw[qg,as_ h]));refine go ?_;(have h:¬0<o.gh.length:=by simpa using hc);exact aq.of_eq (as' (D.int .i64) (by rw[qg,as9 h];simp))
def ii(n:Int):Int:=if 0<n.tmod 2048 then n.tdiv 2048+1 else n.tdiv 2048
theorem Na(n:Int)(h1:0<=n)(A:n<=9223372036854775807):aU B 40 [u n] (u (ii n)):=by refine bA Tryz.func40 Tryz.ntmps40 λU=>?_;refine ph ?_;refine⟨λ_=>by decide,?_⟩;refine go ?_;(have G:0<=n.tdiv 2048/\n.tdiv 2048<=9223372036854775806:=by rw[atp h1];omega);refine g9 ?_;refine p7 ?_;refine⟨λ_=>by decide,?_⟩;refine go ?_;refine aJ _ rfl ?_ ?_<;>intro hc;refine go ?_;exact aq.of_eq (as' (D.int .i64) (by rw[ii,as_ (atw hc)]));refine go ?_;exact aq.of_eq (as' (D.int .i64) (by rw[ii,as9 (atl hc)]))
def vx(x:Int×Int):D:=.agg [u x.1,u x.2]
def vy(ak:List Bool):List D:=ak.map D.bool
def Cc(S C aZ n:Int):Bool:=bif (bif (bif decide (aZ<S)then true else decide (n<1))then true else decide (S+C<aZ))then true else decide (S+C-aZ<n)
theorem T0{S C aZ n:Int}(h:Cc S C aZ n=false):S<=aZ/\1<=n/\aZ<=S+C/\n<=S+C-aZ:=by unfold Cc at h;cases h1:decide (aZ<S)<;>cases A:decide (n<1)<;>cases Z:decide (S+C<aZ)<;>cases aD:decide (S+C-aZ<n)<;>rw[h1,A,Z,aD]at h<;>first|(cases h;done)|(simp at h1 A Z aD;omega)
theorem ad_{S C aZ n:Int}:Cc S C aZ n=true↔aZ<S\/n<1\/S+C<aZ\/S+C-aZ<n:=by constructor;intro h;by_cases h1:aZ<S\/n<1\/S+C<aZ\/S+C-aZ<n;exact h1;exfalso;unfold Cc at h;rw[atU (λe=>h1 (.inl e)),atU (λe=>h1 (.inr (.inl e))),atU (λe=>h1 (.inr (.inr (.inl e)))),atU (λe=>h1 (.inr (.inr (.inr e))))]at h;cases h;intro h;cases F:Cc S C aZ n with|true=>rfl|false=>have:=T0 F;omega
def bn(l:List Int):List D:=l.map (D.int .i64)
def yv(S C:Int):Bool:=bif (bif (bif decide (0<=S)then decide (1<=C)else false)then decide (S<=4096)else false)then decide (C<=4096-S)else false
theorem Nb{S C:Int}:yv S C=true↔0<=S/\1<=C/\S<=4096/\C<=4096-S:=by unfold yv;cases h1:decide (0<=S)<;>cases A:decide (1<=C)<;>cases Z:decide (S<=4096)<;>cases aD:decide (C<=4096-S)<;>simp at h1 A Z aD<;>simp<;>omega
def Iv(S L k:Int):Bool:=bif k==S+256 then true else bif k==L-256 then true else k==L
def Cd(S L:Int)(i:Nat):List Int:=((List.range i).map λ(j:Nat)=>S+(j:Int)).filter (Iv S L)
def yw(S C:Int):List Int:=if yv S C=true then Cd S (S+C-1) C.toNat else[]
theorem ad'(S L:Int)(i:Nat):(Cd S L i).length<=i:=by have:=atN (Iv S L) ((List.range i).map λ(j:Nat)=>S+(j:Int));rw[atb,List.length_range]at this;exact this
def r7(m:fg)(S C:Int):List Int:=if kC m.fO 3=true then yw S C else[]
theorem aea(h:i<s.length):(s.take (i+1)).drop i=[s[i]]:=by rw[au',ata h];simp only[Option.toList_some];rw[avs as0,avw as0];rfl
theorem aeb(s:as8)(c:UInt8)(hs:s.length<1000000000):aU B 68 [.O s,.int .u8 c.toNat] (.Q .none 1 (aN (cR c [] s))):=by refine bA Tryz.func68 Tryz.ntmps68 λU=>?_;refine ph ?_;refine⟨ai,?_⟩;apply b2;refine p7 ?_;refine X.own 5 1000 1 9 rfl (λv=>?_);apply oK;refine X.ec (α:={x:Nat×List as8×as8 // x.1<=s.length/\cR c [] s=x.2.1++cR c x.2.2 (s.drop x.1)/\x.2.1.length+x.2.2.length<=x.1}×Value) (λx=>[(0,.O s),(1,.int .u8 c.toNat),(7,u x.1.1.1),(6,.O x.1.1.2.2),(5,.Q (.own 1000 x.2) 1 (aN x.1.1.2.1))]) (λx=>[(1000,.own x.2 (aN x.1.1.2.1).length 1 9)]) (λx=>s.length-x.1.1.1) (⟨(0,[],[]),by simp,by simp,by simp⟩,v) [(1000,1000)] ⟨ar,rfl,bb⟩ ?_;rintro⟨⟨⟨i,Ce,part⟩,hi,mh,hlen⟩,v⟩;dsimp only at hi mh hlen⊢;refine f' ?_;refine aJ _ rfl ?_ ?_<;>intro hc;refine ff ?_;(have aH:i<s.length:=by simpa using hc);(have Ah:(aN Ce).length=Ce.length:=by simp[aN]);have lh:=aue aH;refine gK ?_;refine⟨s[i],λ_=>⟨by omega,by simp[aH]⟩,?_⟩;(conv=>whnf);(have q3:(((s[i].toNat:Nat):Int)==(c.toNat:Nat))=(s[i]==c):=by rw[avT];simp only[auM];constructor;intro h;exact UInt8.toNat.inj asZ;intro h;rw[h]);refine aJ _ rfl ?_ ?_<;>intro hc;refine ck ?_;refine nr ?_;refine⟨by show(_+1)*16<=_;omega,by show _+1<=_;omega,as6,λv=>?_⟩;apply kw;refine np ?_;(have Nc:s[i]=c:=by simpa using q3.symm.trans hc);exact⟨(⟨(i+1,Ce++[part],[]),by omega,by rw[mh,lh,cR,as_ Nc];simp,by simp;omega⟩,v),[(1000,23)],axU,⟨E,E,E,E,aq.j6 (by simp[aN];rfl),ai⟩,rfl,rfl,ky (by simp[aN]),ai⟩;refine np ?_;refine⟨λ_=>by omega,?_⟩;(conv=>whnf);refine nX ?_;refine np ?_;(have Nc:s[i]≠c:=by simpa using q3.symm.trans hc);(have hq:(s.take ((i:Int)+1).toNat).drop (i:Int).toNat=[s[i]]:=by rw[show((i:Int)+1).toNat=i+1 by omega,atE];exact aea aH);exact⟨(⟨(i+1,Ce,part++[s[i]]),by omega,by rw[mh,lh,cR,as9 Nc],by simp;omega⟩,v),[(1000,1000)],axU,⟨E,E,E,aq.of_eq (as' D.O (by rw[hq])),E,ai⟩,rfl,bb⟩;refine sM ?_;refine nr ?_;(have Ah:(aN Ce).length=Ce.length:=by simp[aN]);refine⟨by show(_+1)*16<=_;omega,by show _+1<=_;omega,as6,λv=>?_⟩;refine iB ?_;(have aH:¬i<s.length:=by simpa using hc);rw[mh,avw asZ,cR];exact aq.trans (aq.of_eq (as' (D.Q _ 1) (by simp[aN];rfl))) aq.mT
theorem aec(s:as8)(hs:s.length<1000000000):aU B 215 [.O s] (.bool (k0 s)):=by refine bA Tryz.func215 Tryz.ntmps215 λU=>?_;apply b2;refine f' ?_;refine nY ?_;refine aJ _ rfl ?_ ?_<;>intro hc;refine gm ?_;refine aq.of_eq (as' D.bool ?_);rw[k0,as_];by_cases h1:s.length<1;exact .inl h1;right;(have lW:¬(s.length:Int)<1:=by omega);simp[lW]at hc;omega;apply cr;(have h1:¬(s.length<1\/128<s.length):=axu);refine f' ?_;refine aJ _ rfl ?_ ?_<;>intro hc;refine gm ?_;exact aq.of_eq (as' D.bool (by rw[k0,as9 h1,as_ (by simpa using hc)]));apply cr;(have A:s≠[47]:=by simpa using hc);(have hT:k0 s=(cR 47 [] (gE s)).all Af:=by rw[k0,as9 h1,as9 A]);have kn:=Ir s;obtain⟨t',E2⟩:=s1 (c:=47) (gE s) [];(conv=>whnf);refine X.lL (α:=Unit) (λx=>[(0,.O (gE s))]) (λx=>[]) ?_ ?_;refine ck ?_;refine⟨s.getD 0 0,λ_=>⟨by omega,Ad s asZ⟩,?_⟩;(conv=>whnf);have q3:=Sr (s.getD 0 0) 47 as2;refine aJ _ rfl ?_ ?_<;>intro hc;refine m0 ?_;refine p5 ?_;(have hcs:gE s=(s.take (s.length:Int).toNat).drop (1:Int).toNat:=by(have Ag:s.getD 0 0=47:=by simpa using q3.symm.trans hc);rw[atE,ati,show(1:Int).toNat=1 from rfl];cases s with|nil=>simp at h1|cons b r=>simp at Ag;simp[gE,Ag]);exact⟨(),[],⟨aq.of_eq (as' D.O hcs.symm),ai⟩,rfl,ai⟩;refine ff ?_;(have hcs:gE s=s:=by(have Ag:s.getD 0 0≠47:=by simpa using q3.symm.trans hc);cases s with|nil=>rfl|cons b r=>simp at Ag;simp[gE,Ag]);exact⟨(),[],⟨aq.of_eq (as' D.O hcs.symm),ai⟩,rfl,ai⟩;rintro⟨⟩;refine ck ?_;refine⟨[.O (gE s),.int .u8 (47:UInt8).toNat],_,λ_=>aeb _ 47 asZ,ar,?_⟩;refine ns ?_;refine X.loop (α:={i:Nat // i<=(cR 47 [] (gE s)).length/\∀j (h:j<(cR 47 [] (gE s)).length),j<i->Af (cR 47 [] (gE s))[j]=true}) (λx=>[(3,.Q .none 1 (aN (cR 47 [] (gE s)))),(4,u x.1)]) (λ_=>[]) (λx=>(cR 47 [] (gE s)).length-x.1) ⟨0,by simp⟩ ar trivial ?_;rintro⟨i,hi,aw⟩;dsimp only;refine f' ?_;refine aJ _ rfl ?_ ?_<;>intro hc;apply cr;(have aH:i<(cR 47 [] (gE s)).length:=by simpa[aN]using hc);have dj:=E2 _ (ate aH);refine gK ?_;refine⟨λ_=>by simp[aN];omega,?_⟩;(conv=>whnf);refine⟨.O (cR 47 [] (gE s))[i],λ_=>BE _ aH,?_⟩;refine hE ?_;refine⟨λ_=>by simp[aN];omega,?_⟩;refine mY ?_;refine⟨.O (cR 47 [] (gE s))[i],λ_=>BE _ aH,?_⟩;refine ie ?_;refine hE ?_;refine⟨λ_=>by simp[aN];omega,?_⟩;refine mY ?_;refine⟨.O (cR 47 [] (gE s))[i],λ_=>BE _ aH,?_⟩;refine mY ?_;refine⟨[.O (cR 47 [] (gE s))[i]],_,λh=>M_ _ (by simp at dj;omega),ar,?_⟩;refine ie ?_;(conv=>whnf);have pk:=TY (cR 47 [] (gE s))[i];refine aJ _ rfl ?_ ?_<;>intro hc;refine gm ?_;exact aq.of_eq (as' D.bool (by rw[hT,TX aH (by simpa using pk.symm.trans hc)]));refine rP ?_;exact⟨⟨i+1,by omega,M9 (hi:=aH) (by simpa using pk.symm.trans hc) aw⟩,by show _-(i+1)<_-i;omega,ar,ai⟩;refine qT ?_;exact aq.of_eq (as' D.bool (by rw[hT,M8 (by simpa[aN]using hc) aw]))
theorem pq(a b:Bool):(bif a then true else b)=(a||b):=by cases a<;>rfl
theorem ju(a b:Bool):(bif a then b else false)=(a&&b):=by cases a<;>rfl
def hb(f:Nat->Int):Nat->Nat->Int
 |_,0=>0
 |i,k+1=>if f i=0 then hb f (i+1) k else f i
theorem pr{f:Nat->Int}{n:Nat}(h:i<n)(M:f i≠0):hb f i (n-i)=f i:=by obtain⟨k,Y⟩:∃k,n-i=k+1:=⟨n-i-1,by omega⟩;rw[Y,hb,as9 M]
theorem ps{f:Nat->Int}{n:Nat}(h:i<n)(M:f i=0):hb f i (n-i)=hb f (i+1) (n-(i+1)):=by obtain⟨k,Y⟩:∃k,n-i=k+1:=⟨n-i-1,by omega⟩;rw[Y,hb,as_ M,show n-(i+1)=k by omega]
theorem Ai{f:Nat->Int}{n:Nat}(h:¬i<n):hb f i (n-i)=0:=by rw[show n-i=0 by omega];rfl
def s2(n:aa)(l:Int):D:=.agg [.O n.name,u n.kind,.O n.d7,.O n.target,u n.cx,u n.n2,u n.n3,u n.n4,u n.n5,u n.n6,.Q .none 12 (n.J.map enc),.Q .none 2 (n.bN.map c6),u l]
def ua(n:aa)(l:Int):Bool:=(decide (n.kind<0)||decide (2<n.kind))||(l==1&&!(n.kind==0))
def vz(n:aa)(l:Int):Int:=if ua n l then 1 else 0
theorem aed(n:aa)(l:Int):aU B 127 [s2 n l] (u (vz n l)):=by refine bA Tryz.func127 Tryz.ntmps127 λU=>?_;refine go ?_;intro b;refine go ?_;refine aJ (ua n l) (by simp only[ua,<-pq,<-ju];rfl) ?_ ?_<;>intro hc;refine go ?_;exact dr (by rw[vz,hc];rfl);refine go ?_;exact dr (by rw[vz,hc];rfl)
def ub(n:aa)(l:Int):Bool:=(l==1&&!(n.name==[]))||(decide (1<l)&&!dQ n.name)
def vA(n:aa)(l:Int):Int:=if ub n l then 4 else 0
theorem aee(aW:dc B)(n:aa)(l:Int)(ax:n.name.length<1000000000):aU B 128 [s2 n l] (u (vA n l)):=by refine bA Tryz.func128 Tryz.ntmps128 λU=>?_;refine go ?_;intro b;refine go ?_;refine bp (yu aW _ ax) ?_;refine aJ (ub n l) (by simp only[ub,<-pq,<-ju];rfl) ?_ ?_<;>intro hc;refine go ?_;exact dr (by rw[vA,hc];rfl);refine go ?_;exact dr (by rw[vA,hc];rfl)
def uc(n:aa):Bool:=((!(n.kind==1)&&(!(n.d7==[])||decide (0<(n.bN.length:Int))))||(!(n.kind==2)&&!(n.target==[])))||(!(n.kind==0)&&decide (0<(n.J.length:Int)))
def vB(n:aa):Int:=if uc n then 1 else 0
theorem aef(n:aa)(l:Int):aU B 129 [s2 n l] (u (vB n)):=by refine bA Tryz.func129 Tryz.ntmps129 λU=>?_;refine go ?_;intro b;refine go ?_;intro cg;refine go ?_;refine aJ (uc n) ?_ (λhc=>?_) (λhc=>?_);simp only[uc,<-pq,<-ju];rw[show n.bN.length=(n.bN.map c6).length by simp,show n.J.length=(n.J.map enc).length by simp];rfl;refine go ?_;exact dr (by rw[vB,hc];rfl);refine go ?_;exact dr (by rw[vB,hc];rfl)
def ud(n:aa):Bool:=n.kind==2&&!k0 n.target
def vC(n:aa):Int:=if ud n then 4 else 0
theorem aeg(aW:dc B)(n:aa)(l:Int)(ax:n.target.length<1000000000):aU B 130 [s2 n l] (u (vC n)):=by refine bA Tryz.func130 Tryz.ntmps130 λU=>?_;refine go ?_;intro b;refine go ?_;refine bp (Is aW _ ax) ?_;refine aJ (ud n) (by simp only[ud,<-pq,<-ju];rfl) ?_ ?_<;>intro hc;refine go ?_;exact dr (by rw[vC,hc];rfl);refine go ?_;exact dr (by rw[vC,hc];rfl)
def s3(n a b:Int):Bool:=decide (a<=n)&&decide (n<=b)
theorem Cf(n a b:Int):aU B 195 [u n,u a,u b] (.bool (s3 n a b)):=by refine bA Tryz.func195 Tryz.ntmps195 λU=>?_;refine go ?_;exact aq.of_eq (as' D.bool (ju _ _))
def r8(n:aa):Bool:=((((!s3 n.cx 0 4095||!s3 n.n2 0 65535)||!s3 n.n3 0 65535)||!s3 n.n4 315532800 4102444799)||!s3 n.n5 (-1048576) 1048576)||!s3 n.n6 0 15
def vD(n:aa):Int:=if r8 n then 2 else 0
theorem aeh(n:aa)(l:Int):aU B 131 [s2 n l] (u (vD n)):=by refine bA Tryz.func131 Tryz.ntmps131 λU=>?_;refine go ?_;intro b;refine go ?_;intro cg;refine go ?_;refine bp (Cf _ _ _) ?_;refine bp (Cf _ _ _) ?_;refine bp (Cf _ _ _) ?_;refine bp (Cf _ _ _) ?_;refine bp (Cf _ _ _) ?_;refine bp (Cf _ _ _) ?_;refine aJ (r8 n) (by simp only[r8,<-pq];rfl) ?_ ?_<;>intro hc;refine go ?_;exact dr (by rw[vD,hc];rfl);refine go ?_;exact dr (by rw[vD,hc];rfl)
theorem aei(n:aa):aU B 216 [aE n] (.bool (!r8 n)):=by refine bA Tryz.func216 Tryz.ntmps216 λU=>?_;refine go ?_;intro b;refine go ?_;refine aq.of_eq (as' D.bool ?_);simp only[r8,s3,Bool.not_or,Bool.not_not,<-ju];simp only[ju,Bool.and_assoc]
theorem E5:∀a b:as8,Lib.compareBytes a b=0↔a=b
 |[],[]=>by simp[Lib.compareBytes]
 |[],_::_=>by simp[Lib.compareBytes]
 |_::_,[]=>by simp[Lib.compareBytes]
 |a::xs,b::aR=>by have aY:=E5 xs aR;simp only[Lib.compareBytes,avo];by_cases h1:a<b;rw[as_ h1];exact⟨λh=>by simp at h,λh=>by rw[h.1]at h1;exact absurd h1 (avR _)⟩;rw[as9 h1];by_cases A:b<a;rw[as_ A];exact⟨λh=>by simp at h,λh=>by rw[h.1]at A;exact absurd A (avR _)⟩;rw[as9 A,aY];have:a=b:=UInt8.le_antisymm (awb.1 A) (awb.1 h1);simp[this]
theorem E6:∀a b:as8,Lib.compareBytes a b=1↔Op.bytesLess b a=true
 |[],[]=>by simp[Lib.compareBytes,Op.bytesLess]
 |[],_::_=>by simp[Lib.compareBytes,Op.bytesLess]
 |_::_,[]=>by simp[Lib.compareBytes,Op.bytesLess]
 |a::xs,b::aR=>by have aY:=E6 xs aR;simp only[Lib.compareBytes,Op.bytesLess,auv,atd,atS,auM];by_cases h1:a<b;rw[as_ h1];refine⟨λh=>by simp at h,λh=>?_⟩;rcases h with h|⟨h,_⟩;exact absurd (UInt8.lt_trans h h1) (avR _);rw[h]at h1;exact absurd h1 (avR _);rw[as9 h1];by_cases A:b<a;rw[as_ A];simp[A];rw[as9 A,aY];have:b=a:=UInt8.le_antisymm (awb.1 h1) (awb.1 A);simp[this,avR]
theorem T1:∀a b:as8,Lib.compareBytes a b=-1\/Lib.compareBytes a b=0\/Lib.compareBytes a b=1
 |[],[]=>by simp[Lib.compareBytes]
 |[],_::_=>by simp[Lib.compareBytes]
 |_::_,[]=>by simp[Lib.compareBytes]
 |a::xs,b::aR=>by have aY:=T1 xs aR;simp only[Lib.compareBytes];split;simp;split;simp;exact aY
def qh(a b:as8):Int:=if a=b then 5 else if Op.bytesLess b a then 1 else 0
theorem T2(a b:as8):aU B 196 [.O a,.O b] (u (qh a b)):=by refine bA Tryz.func196 Tryz.ntmps196 λU=>?_;apply b2;refine p7 ?_;refine⟨_,_,λ_=>TN a b,ar,?_⟩;refine go ?_;refine aJ _ rfl ?_ ?_<;>intro hc;refine go ?_;exact dr (by rw[qh,as_ ((E5 a b).1 (by simpa using hc))]);refine go ?_;(have h0:a≠b:=λe=>by have:=(E5 a b).2 e;rw[this]at hc;simp at hc);refine go ?_;refine aJ _ rfl ?_ ?_<;>intro hc;refine go ?_;exact dr (by rw[qh,as9 h0,as_ ((E6 a b).1 (by simpa using hc))]);refine go ?_;exact dr (by rw[qh,as9 h0,as9];intro e;have:=(E6 a b).2 e;rw[this]at hc;simp at hc)
def gW(n:aa)(i:Nat):nu:=n.bN.getD i default
def qi(n:aa)(i:Nat):aa:=n.J.getD i default
theorem ue(n:aa)(h:i<n.bN.length):(n.bN.map c6)[i]?=some (c6 (gW n i)):=by simp[gW,List.getD,h]
theorem Cg(n:aa)(h:i<n.J.length):(n.J.map enc)[i]?=some (aE (qi n i)):=by rw[<-rQ];simp[qi,List.getD,h]
theorem w1(h:0<i):((i:Int)-1).toNat=i-1:=by omega
theorem T3(n:aa)(h:i<n.bN.length):(gW n i).name.length+(gW n i).target.length+2<=aB n:=by
 have h1:=H5 h;have A:=lU n;have:gW n i=n.bN[i]:=by simp[gW,List.getD,h]
 rw[this];omega
theorem E7(n:aa):2*n.bN.length+2<=aB n:=by have:=EC n.bN;have:=lU n;omega
def r9(n:aa)(l:Int):Bool:=((decide (16<l)||decide (262144<(n.d7.length:Int)))||decide (64<(n.J.length:Int)))||decide (4<(n.bN.length:Int))
def pt(n:aa)(i:Nat):Int:=if decide (262144<((gW n i).target.length:Int))then 7 else 0
def nz(n:aa)(l:Int):Int:=if r9 n l then 7 else hb (pt n) 0 n.bN.length
theorem aej(n:aa)(l:Int)(bH:aB n<1000000000):aU B 132 [s2 n l] (u (nz n l)):=by refine bA Tryz.func132 Tryz.ntmps132 λU=>?_;refine go ?_;intro b;refine go ?_;intro cg;refine go ?_;refine aJ (r9 n l) ?_ (λhc=>?_) (λhc=>?_);simp only[r9,<-pq,<-ju];rw[show n.bN.length=(n.bN.map c6).length by simp,show n.J.length=(n.J.map enc).length by simp];rfl;refine go ?_;exact dr (by rw[nz,hc];rfl);refine go ?_;(have fF:nz n l=hb (pt n) 0 (n.bN.length-0):=by rw[nz,hc];rfl);have eS:=E7 n;refine go ?_;refine X.loop (α:={i:Nat // i<=n.bN.length/\nz n l=hb (pt n) i (n.bN.length-i)}) (λx=>[(30,.Q .none 2 (n.bN.map c6)),(31,u (n.bN.map c6).length),(32,u x.1)]) (λ_=>[]) (λx=>n.bN.length-x.1) ⟨0,by omega,fF⟩ ar trivial ?_;rintro⟨i,hi,aw⟩;dsimp only;refine go ?_;refine aJ _ rfl ?_ ?_<;>intro hc;refine ff ?_;(have aH:i<n.bN.length:=by simpa using hc);refine vf ?_;refine⟨c6 (gW n i),λ_=>ue n aH,?_⟩;refine go ?_;intro eG;refine go ?_;refine aJ _ rfl ?_ ?_<;>intro hc;refine go ?_;(have M:pt n i=7:=by rw[pt,as_ hc]);exact dr (by rw[aw,pr aH (by rw[M];decide),M]);refine go ?_;exact⟨⟨i+1,by omega,by rw[aw,ps aH (by rw[pt,hc];rfl)]⟩,by show _-(i+1)<_-i;omega,ar,ai⟩;exact axA
theorem aek(n:aa)(l:Int)(bH:aB n<1000000000):aU B 217 [aE n,u l] (.bool (!(nz n l==0))):=by refine bA Tryz.func217 Tryz.ntmps217 λU=>?_;refine go ?_;intro b;refine go ?_;refine aJ (r9 n l) ?_ (λhc=>?_) (λhc=>?_);simp only[r9,<-pq,<-ju];rw[show n.bN.length=(n.bN.map c6).length by simp,show n.J.length=(n.J.map enc).length by simp];rfl;refine go ?_;exact aq.of_eq (as' D.bool (by rw[nz,hc];rfl));refine go ?_;(have fF:nz n l=hb (pt n) 0 (n.bN.length-0):=by rw[nz,hc];rfl);have eS:=E7 n;refine go ?_;refine X.loop (α:={i:Nat // i<=n.bN.length/\nz n l=hb (pt n) i (n.bN.length-i)}) (λx=>[(2,.box 2 b 0),(5,u x.1)]) (λ_=>[(2,.box b [.O n.name,u n.kind,.O n.d7,.O n.target,u n.cx,u n.n2,u n.n3,u n.n4,u n.n5,u n.n6,.Q .none 12 (n.J.map enc),.Q .none 2 (n.bN.map c6)])]) (λx=>n.bN.length-x.1) ⟨0,by omega,fF⟩ ar ⟨rfl,ai⟩ ?_;rintro⟨i,hi,aw⟩;dsimp only;refine go ?_;refine aJ _ rfl ?_ ?_<;>intro hc;refine ff ?_;(have aH:i<n.bN.length:=by simpa using hc);refine kx ?_;apply b2;refine mj ?_;refine⟨c6 (gW n i),λ_=>ue n aH,?_⟩;refine go ?_;refine aJ _ rfl ?_ ?_<;>intro hc;refine go ?_;(have M:pt n i=7:=by rw[pt,as_ hc]);exact aq.of_eq (as' D.bool (by rw[aw,pr aH (by rw[M];decide),M];rfl));refine go ?_;exact⟨⟨i+1,by omega,by rw[aw,ps aH (by rw[pt,hc];rfl)]⟩,by show _-(i+1)<_-i;omega,ar,⟨rfl,ai⟩⟩;refine go ?_;exact aq.of_eq (as' D.bool (by rw[aw,Ai (by simpa using hc)];rfl))
def pu(n:aa)(i:Nat):Int:=if dQ (gW n i).name then(if 0<i then qh (gW n (i-1)).name (gW n i).name else 0)else 4
def Ch(n:aa):Int:=hb (pu n) 0 n.bN.length
theorem ael(aW:dc B)(n:aa)(l:Int)(bH:aB n<1000000000):aU B 133 [s2 n l] (u (Ch n)):=by refine bA Tryz.func133 Tryz.ntmps133 λU=>?_;refine go ?_;intro b;refine go ?_;have eS:=E7 n;refine go ?_;refine X.loop (α:={i:Nat // i<=n.bN.length/\Ch n=hb (pu n) i (n.bN.length-i)}) (λx=>[(1,.box 1 b 0),(8,.Q .none 2 (n.bN.map c6)),(9,u (n.bN.map c6).length),(10,u x.1)]) (λ_=>[(1,.box b [.O n.name,u n.kind,.O n.d7,.O n.target,u n.cx,u n.n2,u n.n3,u n.n4,u n.n5,u n.n6,.Q .none 12 (n.J.map enc),.Q .none 2 (n.bN.map c6),u l])]) (λx=>n.bN.length-x.1) ⟨0,by omega,rfl⟩ ar ⟨rfl,ai⟩ ?_;rintro⟨i,hi,aw⟩;dsimp only;refine go ?_;refine aJ _ rfl ?_ ?_<;>intro hc;refine ff ?_;(have aH:i<n.bN.length:=by simpa using hc);have iX:=T3 n aH;refine vf ?_;refine⟨c6 (gW n i),λ_=>ue n aH,?_⟩;refine go ?_;intro eG;apply cB;refine f' ?_;refine eB ?_;refine⟨[.O (gW n i).name],_,λ_=>yu aW _ asZ,ar,?_⟩;refine aJ _ rfl ?_ ?_<;>intro hc;refine go ?_;(have M:pu n i=4:=by rw[pu,as9 (by simpa using hc)]);exact dr (by rw[aw,pr aH (by rw[M];decide),M]);refine go ?_;(have cD:dQ (gW n i).name=true:=by simpa using hc);refine go ?_;refine aJ _ rfl ?_ ?_<;>intro hc;refine go ?_;(have lX:0<i:=by simpa using hc);(have M:pu n i=qh (gW n (i-1)).name (gW n i).name:=by rw[pu,as_ cD,as_ lX]);refine X.u_ aM mixed as4 ?_;apply cB;refine lb ?_;refine mZ ?_;refine⟨c6 (gW n (i-1)),λ_=>by rw[w1 lX];exact ue n asZ,?_⟩;refine go ?_;refine bp (T2 _ _) ?_;refine aJ _ rfl ?_ ?_<;>intro hc;refine go ?_;exact dr (by rw[aw,pr aH (by rw[M];simpa using hc),M]);refine go ?_;exact⟨⟨i+1,by omega,by rw[aw,ps aH (by rw[M];simpa using hc)]⟩,by show _-(i+1)<_-i;omega,ar,⟨rfl,ai⟩⟩;refine go ?_;(have M:pu n i=0:=by rw[pu,as_ cD,as9 (by simpa using hc)]);exact⟨⟨i+1,by omega,by rw[aw,ps aH M]⟩,by show _-(i+1)<_-i;omega,ar,⟨rfl,ai⟩⟩;exact axA
def r_(n:aa)(i:Nat):Int:=qh (qi n (i-1)).name (qi n i).name
def yx(n:aa):Int:=hb (r_ n) 1 (n.J.length-1)
theorem aem(n:aa)(l:Int)(bH:aB n<1000000000):aU B 134 [s2 n l] (u (yx n)):=by refine bA Tryz.func134 Tryz.ntmps134 λU=>?_;refine go ?_;intro b;refine go ?_;have eS:=vn n;refine go ?_;refine X.loop (α:={i:Nat // 1<=i/\i<=n.J.length+1/\yx n=hb (r_ n) i (n.J.length-i)}) (λx=>[(1,.box 1 b 0),(3,u x.1)]) (λ_=>[(1,.box b [.O n.name,u n.kind,.O n.d7,.O n.target,u n.cx,u n.n2,u n.n3,u n.n4,u n.n5,u n.n6,.Q .none 12 (n.J.map enc),.Q .none 2 (n.bN.map c6),u l])]) (λx=>n.J.length+1-x.1) ⟨1,by omega,by omega,rfl⟩ ar ⟨rfl,ai⟩ ?_;rintro⟨i,n0,hi,aw⟩;dsimp only;refine go ?_;refine aJ _ rfl ?_ ?_<;>intro hc;refine ff ?_;(have aH:i<n.J.length:=by simpa using hc);refine kx ?_;refine oL ?_;apply cB;refine lb ?_;refine mZ ?_;refine⟨aE (qi n (i-1)),λ_=>by rw[w1 asZ];exact Cg n asZ,?_⟩;refine mj ?_;refine⟨aE (qi n i),λ_=>Cg n aH,?_⟩;refine go ?_;refine bp (T2 _ _) ?_;refine aJ _ rfl ?_ ?_<;>intro hc;refine go ?_;exact dr (by rw[aw,pr aH (by rw[r_];simpa using hc),r_]);refine go ?_;exact⟨⟨i+1,by omega,by omega,by rw[aw,ps aH (by rw[r_];simpa using hc)]⟩,by show _+1-(i+1)<_+1-i;omega,ar,⟨rfl,ai⟩⟩;exact axA
def eO(n:aa)(l:Int):Nat->Int
 |0=>vz n l
 |1=>vA n l
 |2=>vB n
 |3=>vC n
 |4=>vD n
 |5=>nz n l
 |6=>Ch n
 |_=>yx n
def one(n:aa)(l:Int):Int:=hb (eO n l) 0 8
theorem aen(aW:dc B)(n:aa)(l:Int)(bH:aB n+n.name.length<1000000000)(hi:i<8):aU B (127+i) [s2 n l] (u (eO n l i)):=by have au:=lU n;match i,hi with|0,_=>exact aed n l|1,_=>exact aee aW n l asZ|2,_=>exact aef n l|3,_=>exact aeg aW n l asZ|4,_=>exact aeh n l|5,_=>exact aej n l asZ|6,_=>exact ael aW n l asZ|7,_=>exact aem n l asZ
def Aj(n:aa)(l:Int):List D:=(List.range 8).map λi=>.fn (.func (127+i)) [s2 n l] []
theorem aeo(n:aa)(l:Int)(hi:i<8):(Aj n l)[i]?=some (.fn (.func (127+i)) [s2 n l] []):=by simp[Aj,hi]
def Nd(bE b9:Nat):ED (Int×as8):=⟨λs=>.box bE [u s.1],λs=>.box b9 [.O s.2]⟩
def gX(n:aa)(p:as8)(l:Int)(s:Int×as8):Bool×(Int×as8):=if one n l=0 then(true,(0,s.2))else(false,(one n l,p))
theorem aep(aW:dc B)(bE b9:Nat)(n:aa)(p:as8)(l:Int)(s:Int×as8)(bH:aB n+n.name.length<1000000000):cZ B 126 ([aE n,.O p,u l]++[.box 2000 bE 0,.box 2001 b9 0]) ((Nd bE b9).H s) λd aO=>d=.bool (gX n p l s).1/\aO=(Nd bE b9).H (gX n p l s).2:=by refine jO Tryz.func126 Tryz.ntmps126 λU=>?_;refine go ?_;intro b;refine go ?_;intro cg;refine go ?_;refine X.loop (α:={x:Nat×Int // x.1<=8/\(0<x.1->x.2=0)/\one n l=hb (eO n l) x.1 (8-x.1)}) (λx=>[(1,.O p),(3,.box 2000 bE 0),(4,.box 2001 b9 0),(31,.Q .dR 1 (Aj n l)),(32,u (Aj n l).length),(33,u x.1.1)]) (λx=>[(2000,.box bE [u x.1.2]),(2001,.box b9 [.O s.2])]) (λx=>8-x.1.1) ⟨(0,s.1),by omega,by simp,rfl⟩ ar ⟨rfl,bb⟩ ?_;rintro⟨⟨i,e⟩,hi,ao,aw⟩;dsimp only at hi ao aw⊢;refine go ?_;refine aJ _ rfl ?_ ?_<;>intro hc;refine ff ?_;(have aH:i<8:=by simp[Aj]at hc;omega);refine gK ?_;refine⟨λ_=>by simp[Aj];omega,?_⟩;refine go ?_;refine⟨.fn (.func (127+i)) [s2 n l] [],λ_=>aeo n l aH,?_⟩;refine go ?_;refine bp (aen aW n l bH aH) ?_;refine aJ _ rfl ?_ ?_<;>intro hc;refine i1 ?_;refine ck ?_;(have a6:eO n l i≠0:=by simpa using hc);(have h1:one n l=eO n l i:=by rw[aw,pr aH a6]);(have bM:gX n p l s=(false,(eO n l i,p)):=by rw[gX,as9 (by rw[h1];exact a6),h1]);refine X.gS [(8,.bool false)] [(2000,.box bE [u (eO n l i)]),(2001,.box b9 [.O p])] [(2000,2000),(2001,2001)] ⟨ar,rfl,bb⟩ ?_;refine go ?_;exact⟨_,E,by rw[bM];rfl,by rw[bM];rfl⟩;refine go ?_;(have h0:eO n l i=0:=by simpa using hc);exact⟨⟨(i+1,0),by omega,λ_=>rfl,by rw[aw,ps aH h0]⟩,by show 8-(i+1)<8-i;omega,ar,⟨as' (λV=>some (aI.box bE [u V])) h0,rfl,ai⟩⟩;refine sM ?_;(have fX:¬i<8:=by simp[Aj]at hc;omega);(have h1:one n l=0:=by rw[aw,Ai fX]);have pv:e=0:=ao asZ;subst pv;(have bM:gX n p l s=(true,(0,s.2)):=by rw[gX,as_ h1]);refine X.gS [(8,.bool true)] [(2000,.box bE [u 0]),(2001,.box b9 [.O s.2])] [(2000,2000),(2001,2001)] ⟨ar,rfl,bb⟩ ?_;refine go ?_;exact⟨_,E,by rw[bM];rfl,by rw[bM];rfl⟩
def s4(n:aa):as8×Int:=if(256:Int)<fH n then([],7)else((fG gX n [] 1 (0,[])).2.2,(fG gX n [] 1 (0,[])).2.1)
theorem aeq(aW:dc B)(n:aa)(bH:aB n+n.name.length<10000000):aU B 82 [aE n] (.bo [.O (s4 n).1,u (s4 n).2]):=by refine bA Tryz.func82 Tryz.ntmps82 λU=>?_;refine go ?_;intro b;refine go ?_;refine bp (adk n bH) ?_;refine aJ _ rfl ?_ ?_<;>intro hc;refine go ?_;exact⟨aq.of_eq (by rw[s4,as_ (by simpa using hc)];rfl),dr (by rw[s4,as_ (by simpa using hc)]),ai⟩;refine go ?_;intro b9;refine go ?_;intro bE;refine go ?_;refine .inr (af.call rfl [aE n,.O [],u 1,.fn (.func 126) [] [.box 2000 bE 0,.box 2001 b9 0]] [(2000,5),(2001,4)] (S' (Nd bE b9) gX 126 [.box 2000 bE 0,.box 2001 b9 0] (λn p l s F aj=>aep aW bE b9 n p l s asZ) _ n [] 1 (0,[]) (atX _) as0 asZ) rfl ⟨E,E,E,aq.fn trivial ⟨aq.box,aq.box,ai⟩,ai⟩ ?_);rintro d aO ⟨rfl,rfl⟩;refine⟨_,E,?_⟩;refine oL ?_;refine go ?_;exact⟨aq.of_eq (by rw[s4,as9 (by simpa using hc)];rfl),dr (by rw[s4,as9 (by simpa using hc)]),ai⟩
def valid(n:aa):Bool:=(s4 n).2==0
theorem Ak(aW:dc B)(n:aa)(bH:aB n+n.name.length<10000000):aU B 51 [aE n] (.bool (valid n)):=by refine bA Tryz.func51 Tryz.ntmps51 λU=>?_;refine go ?_;intro b;refine go ?_;refine bp (aeq aW n bH) ?_;exact E
def yy(n:aa):List D:=[.O n.name,u n.kind,.O n.d7,.O n.target,u n.cx,u n.n2,u n.n3,u n.n4,u n.n5,u n.n6,.Q .none 12 (n.J.map enc),.Q .none 2 (n.bN.map c6)]
theorem T4(n:aa)(l:Int):one n l=hb (eO n l) 0 (8-0):=rfl
theorem T5(n:aa):∀{k i:Nat},hb (pt n) i k≠0->hb (pt n) i k=7
 |0,i,h=>absurd rfl h
 |k+1,i,h=>by unfold hb at h⊢;split;rename_i h0;rw[as_ h0]at h;exact T5 n h;rename_i h0;unfold pt at h0⊢;split;rfl;rename_i h1;rw[as9 h1]at h0;exact absurd rfl h0
theorem aer(n:aa)(l:Int)(bH:aB n+n.name.length<10000000):aU B 149 [aE n,u l] (u (one n l)):=by refine bA Tryz.func149 Tryz.ntmps149 λU=>?_;refine ck ?_;intro b;have au:=lU n;have eR:=vn n;have eS:=E7 n;refine p8 ?_;refine iD ?_;refine ie ?_;apply g8;apply g8;refine iD ?_;refine nY ?_;refine tU ?_;refine aJ (ua n l) (by simp only[ua,<-pq,<-ju];rfl) ?_ ?_<;>intro hc;refine gm ?_;(have ae:eO n l 0=1:=by rw[eO,vz,hc];rfl);exact dr (by rw[T4,pr asZ (by rw[ae];decide),ae]);apply cr;(have hd:one n l=hb (eO n l) 1 (8-1):=by rw[T4,ps asZ (by rw[eO,vz,hc];rfl)]);refine f' ?_;refine iD ?_;refine ie ?_;apply g8;apply g8;refine iD ?_;refine mY ?_;refine⟨[.O n.name],_,λh=>M_ _ asZ,ar,?_⟩;refine nY ?_;refine tU ?_;refine aJ (ub n l) (by simp only[ub,<-pq,<-ju];rfl) ?_ ?_<;>intro hc;refine gm ?_;(have ae:eO n l 1=4:=by rw[eO,vA,hc];rfl);exact dr (by rw[hd,pr asZ (by rw[ae];decide),ae]);apply cr;(have mx:one n l=hb (eO n l) 2 (8-2):=by rw[hd,ps asZ (by rw[eO,vA,hc];rfl)]);refine p8 ?_;refine iD ?_;apply g8;apply g8;refine iD ?_;apply g8;refine nY ?_;refine tU ?_;refine iD ?_;apply g8;apply g8;refine iD ?_;refine nY ?_;refine tU ?_;refine iD ?_;apply g8;apply g8;refine iD ?_;apply g8;refine nY ?_;refine tU ?_;refine aJ (uc n) ?_ (λhc=>?_) (λhc=>?_);simp only[uc,<-pq,<-ju];rw[show n.bN.length=(n.bN.map c6).length by simp,show n.J.length=(n.J.map enc).length by simp];rfl;refine gm ?_;(have ae:eO n l 2=1:=by rw[eO,vB,hc];rfl);exact dr (by rw[mx,pr asZ (by rw[ae];decide),ae]);apply cr;(have pw:one n l=hb (eO n l) 3 (8-3):=by rw[mx,ps asZ (by rw[eO,vB,hc];rfl)]);refine p8 ?_;refine iD ?_;refine mY ?_;refine⟨[.O n.target],_,λh=>aec _ asZ,ar,?_⟩;refine ie ?_;refine aJ (ud n) (by simp only[ud,<-pq,<-ju];rfl) ?_ ?_<;>intro hc;refine gm ?_;(have ae:eO n l 3=4:=by rw[eO,vC,hc];rfl);exact dr (by rw[pw,pr asZ (by rw[ae];decide),ae]);apply cr;(have Iw:one n l=hb (eO n l) 4 (8-4):=by rw[pw,ps asZ (by rw[eO,vC,hc];rfl)]);refine f' ?_;refine eB ?_;refine⟨[aE n],_,λ_=>aei n,ar,?_⟩;refine aJ (r8 n) ((show _=D.bool (!(!r8 n))from rfl).trans (as' D.bool (Bool.not_not _))) ?_ ?_<;>intro hc;refine gm ?_;(have ae:eO n l 4=2:=by rw[eO,vD,hc];rfl);exact dr (by rw[Iw,pr asZ (by rw[ae];decide),ae]);apply cr;(have Nf:one n l=hb (eO n l) 5 (8-5):=by rw[Iw,ps asZ (by rw[eO,vD,hc];rfl)]);refine f' ?_;refine eB ?_;refine⟨[aE n,u l],_,λ_=>aek n l asZ,ar,?_⟩;refine aJ _ rfl ?_ ?_<;>intro hc;refine gm ?_;(have ae:eO n l 5=7:=by rw[eO];(have ob:nz n l≠0:=by simpa using hc);unfold nz at ob⊢;split;rfl;rename_i h;rw[as9 h]at ob;exact T5 n ob);exact dr (by rw[Nf,pr asZ (by rw[ae];decide),ae]);apply cr;(have E8:one n l=hb (eO n l) 6 (8-6):=by rw[Nf,ps asZ (by rw[eO];simpa using hc)]);refine ns ?_;refine X.loop (α:={i:Nat // i<=n.bN.length/\Ch n=hb (pu n) i (n.bN.length-i)}) (λx=>[(2,.box 2 b 0),(5,u x.1)]) (λ_=>[(2,.box b (yy n))]) (λx=>n.bN.length-x.1) ⟨0,by omega,rfl⟩ ar ⟨rfl,ai⟩ ?_;rintro⟨i,hi,aw⟩;dsimp only;refine p8 ?_;refine aJ _ rfl ?_ ?_<;>intro hc;refine ff ?_;(have aH:i<n.bN.length:=by simpa using hc);have iX:=T3 n aH;(have Ng:∀e,pu n i=e->e≠0->one n l=e:=λe ao h0=>by(have h1:eO n l 6=e:=by rw[eO,aw,pr aH (by rw[ao];exact h0),ao]);rw[E8,pr asZ (by rw[h1];exact h0),h1]);refine kx ?_;refine f' ?_;refine mj ?_;refine⟨c6 (gW n i),λ_=>ue n aH,?_⟩;(conv=>whnf);refine⟨[.O (gW n i).name],_,λ_=>M_ _ asZ,ar,?_⟩;refine aJ _ rfl ?_ ?_<;>intro hc;refine gm ?_;exact dr (Ng 4 (by rw[pu,as9 (by simpa using hc)]) as2).symm;apply cr;(have cD:dQ (gW n i).name=true:=by simpa using hc);refine Ef ?_;refine iD ?_;refine hE ?_;refine⟨λh=>by simp at h⊢;omega,?_⟩;refine hE ?_;refine⟨c6 (gW n i),λ_=>ue n aH,?_⟩;refine iD ?_;apply g8;refine g9 ?_;refine hE ?_;refine⟨λh=>by simp at h⊢;omega,?_⟩;refine hE ?_;refine⟨c6 (gW n (i-1)),λh=>by rw[w1 (by simpa using h)];exact ue n asZ,?_⟩;refine nY ?_;refine aJ _ rfl ?_ ?_<;>intro hc;refine gm ?_;(have A:0<i/\(gW n i).name=(gW n (i-1)).name:=axi);exact dr (Ng 5 (by rw[pu,as_ cD,as_ A.1,qh,as_ A.2.symm]) as2).symm;apply cr;(have a6:0<i->(gW n (i-1)).name≠(gW n i).name:=λh0 e=>by(have Nh:decide ((0:Int)<i)=true:=by simp;omega);rw[Nh,e]at hc;simp at hc);refine oL ?_;refine iD ?_;refine hE ?_;refine⟨λh=>by simp at h⊢;omega,?_⟩;refine hE ?_;refine⟨c6 (gW n i),λ_=>ue n aH,?_⟩;refine iD ?_;apply g8;refine g9 ?_;refine hE ?_;refine⟨λh=>by simp at h⊢;omega,?_⟩;refine hE ?_;refine⟨c6 (gW n (i-1)),λh=>by rw[w1 (by simpa using h)];exact ue n asZ,?_⟩;refine nY ?_;refine aJ _ rfl ?_ ?_<;>intro hc;refine gm ?_;(have A:0<i/\Op.bytesLess (gW n i).name (gW n (i-1)).name=true:=axi);exact dr (Ng 1 (by rw[pu,as_ cD,as_ A.1,qh,as9 (a6 A.1),as_ A.2]) as2).symm;refine rP ?_;(have M:pu n i=0:=by rw[pu,as_ cD];by_cases h0:0<i;(have Nh:decide ((0:Int)<i)=true:=by simp;omega);rw[Nh]at hc;rw[as_ h0,qh,as9 (a6 h0),as9 (by simpa using hc)];rw[as9 h0]);exact⟨⟨i+1,by omega,by rw[aw,ps aH M]⟩,by show _-(i+1)<_-i;omega,ar,⟨rfl,ai⟩⟩;refine X.exit ?_;apply ep;(have Ni:one n l=hb (eO n l) 7 (8-7):=by rw[E8,ps asZ (by rw[eO,aw,Ai (by simpa using hc)])]);apply b2;apply oK;refine X.loop (α:={i:Nat // 1<=i/\i<=n.J.length+1/\yx n=hb (r_ n) i (n.J.length-i)}) (λx=>[(2,.box 2 b 0),(6,u x.1)]) (λ_=>[(2,.box b (yy n))]) (λx=>n.J.length+1-x.1) ⟨1,by omega,by omega,rfl⟩ ar ⟨rfl,ai⟩ ?_;rintro⟨i,n0,hi,aw⟩;dsimp only;refine p8 ?_;refine aJ _ rfl ?_ ?_<;>intro hc;refine ff ?_;(have aH:i<n.J.length:=by simpa using hc);(have T6:∀e,r_ n i=e->e≠0->one n l=e:=λe ao h0=>by(have h1:eO n l 7=e:=by show yx n=e;rw[aw,pr aH (by rw[ao];exact h0),ao]);rw[Ni,pr asZ (by rw[h1];exact h0),h1]);refine kx ?_;refine Ef ?_;refine mj ?_;refine⟨aE (qi n i),λ_=>Cg n aH,?_⟩;apply cB;refine lb ?_;refine p5 ?_;refine⟨aE (qi n (i-1)),λ_=>by rw[w1 asZ];exact Cg n asZ,?_⟩;refine aJ _ rfl ?_ ?_<;>intro hc;refine gm ?_;exact dr (T6 5 (by rw[r_,qh,as_ (by have:=hc;simp at this;exact this.symm)]) as2).symm;apply cr;(have a6:(qi n (i-1)).name≠(qi n i).name:=λe=>by rw[e]at hc;simp at hc);refine oL ?_;refine mj ?_;refine⟨aE (qi n i),λ_=>Cg n aH,?_⟩;apply cB;refine lb ?_;refine p5 ?_;refine⟨aE (qi n (i-1)),λ_=>by rw[w1 asZ];exact Cg n asZ,?_⟩;refine aJ _ rfl ?_ ?_<;>intro hc;refine gm ?_;exact dr (T6 1 (by rw[r_,qh,as9 a6,as_ hc]) as2).symm;refine rP ?_;(have M:r_ n i=0:=by rw[r_,qh,as9 a6,as9 (by rw[hc];simp)]);exact⟨⟨i+1,by omega,by omega,by rw[aw,ps aH M]⟩,by show _+1-(i+1)<_+1-i;omega,ar,⟨rfl,ai⟩⟩;refine qT ?_;exact dr (by rw[Ni,ps asZ (by show yx n=0;rw[aw,Ai (by simpa using hc)])];rfl)
theorem T7:∀a b:List aa,eX (a++b)=eX a+eX b
 |[],b=>by simp[eX]
 |n::r,b=>by simp only[auh,eX];rw[T7 r b];omega
theorem aes{l:List aa}(h:i<l.length):eX (l.take (i+1))=eX (l.take i)+fH l[i]:=by rw[au',ata h,T7];simp[eX]
theorem Nj:∀(l:List aa) (i:Nat),eX (l.take i)<=eX l
 |[],i=>by simp[eX]
 |n::r,0=>by simp[eX]
 |n::r,i+1=>by simp only[auP,eX];have:=Nj r i;omega
theorem T8:∀(bC:Nat) (n:aa),aB n<bC->aB n<100000000->aU B 98 [aE n] (u (fH n)):=by refine λbC=>Nat.rec (λn h=>absurd h (auI _)) (λbC aY n hN F=>?_) bC;have eR:=vn n;have hcs:=EG n.J;have oe:=lU n;refine bA Tryz.func98 Tryz.ntmps98 λU=>?_;refine ck ?_;intro b;apply b2;refine ns ?_;refine X.loop (α:={i:Nat // i<=n.J.length}) (λx=>[(1,.box 1 b 0),(3,u ((1+eX (n.J.take x.1):Nat):Int)),(4,u x.1)]) (λ_=>[(1,.box b (yy n))]) (λx=>n.J.length-x.1) ⟨0,by omega⟩ ar ⟨rfl,ai⟩ ?_;rintro⟨i,hi⟩;dsimp only;refine p8 ?_;refine aJ _ rfl ?_ ?_<;>intro hc;refine ff ?_;(have aH:i<n.J.length:=by simpa using hc);have b5:=rY aH;have Ix:=Nj n.J i;have Bj:=BW n.J[i];refine kx ?_;apply kw;refine mj ?_;refine⟨aE n.J[i],λ_=>rZ aH,?_⟩;(conv=>whnf);refine⟨[aE n.J[i]],_,λ_=>aY _ asZ asZ,ar,?_⟩;refine g9 ?_;refine np ?_;exact⟨⟨i+1,by omega⟩,by show _-(i+1)<_-i;omega,⟨E,dr (by rw[aes aH];omega),E,ai⟩,⟨rfl,ai⟩⟩;refine qT ?_;exact dr (by rw[EF,atC (by simp at hc;omega)])
mutual
theorem Nk:∀(n:aa) (p:as8) (l:Int),fG gX n p l (0,[])=(true,(0,[]))\/((fG gX n p l (0,[])).1=false/\(fG gX n p l (0,[])).2.1≠0)
 |.mk a b c d e f g h i j ag cC,p,l=>by
  simp only[fG];unfold gX;split
  ·rename_i bq jm;split at jm
   ·cases jm
   rename_i h0;cases jm;exact .inr ⟨rfl,h0⟩
  rename_i bq jm;split at jm
  ·cases jm;exact T9 ag p l
  cases jm
theorem T9:∀(ag:List aa) (p:as8) (l:Int),kA gX ag p l (0,[])=(true,(0,[]))\/((kA gX ag p l (0,[])).1=false/\(kA gX ag p l (0,[])).2.1≠0)
 |[],p,l=>.inl rfl
 |k::r,p,l=>by
  simp only[kA];rcases Nk k (below p k.name (l+1)) (l+1)with h|⟨h1,A⟩
  ·rw[h];exact T9 r p l
  generalize fG gX k (below p k.name (l+1)) (l+1) (0,[])=r at h1 A;obtain⟨x,y⟩:=r;simp only at h1 A;subst h1;exact .inr ⟨rfl,A⟩
end
def q5(n:aa)(p:as8)(l:Int):as8×Int:=if(fG gX n p l (0,[])).1 then([],0)else((fG gX n p l (0,[])).2.2,(fG gX n p l (0,[])).2.1)
theorem aet:∀(bC:Nat) (n:aa) (p:as8) (l:Int),aB n<bC->p.length+aB n+l.toNat+n.name.length<10000000->1<=l->aU B 99 [aE n,.O p,u l] (.bo [.O (q5 n p l).1,u (q5 n p l).2]):=by refine λbC=>Nat.rec (λn p l h=>absurd h (auI _)) (λbC aY n p l hN F aj=>?_) bC;have eR:=vn n;refine bA Tryz.func99 Tryz.ntmps99 λU=>?_;refine ck ?_;intro b;refine f' ?_;refine eB ?_;refine⟨[aE n,u l],_,λ_=>aer n l asZ,ar,?_⟩;apply b2;refine aJ _ rfl ?_ ?_<;>intro hc;refine gm ?_;(have a6:one n l≠0:=by simpa using hc);(have cH:fG gX n p l (0,[])=(false,(one n l,p)):=by rw[H6,gX,as9 a6]);(have fF:q5 n p l=(p,one n l):=by rw[q5,cH];rfl);rw[fF];exact ar;apply cr;(have h0:one n l=0:=by simpa using hc);(have cH:fG gX n p l (0,[])=kA gX n.J p l (0,[]):=by rw[H6,gX,as_ h0]);refine ns ?_;refine X.loop (α:={i:Nat // i<=n.J.length/\fG gX n p l (0,[])=kA gX (n.J.drop i) p l (0,[])}) (λx=>[(1,.O p),(2,u l),(3,.box 3 b 0),(9,u x.1)]) (λ_=>[(3,.box b (yy n))]) (λx=>n.J.length-x.1) ⟨0,by omega,cH⟩ ar ⟨rfl,ai⟩ ?_;rintro⟨i,hi,aw⟩;dsimp only;refine p8 ?_;refine aJ _ rfl ?_ ?_<;>intro hc;refine ff ?_;(have aH:i<n.J.length:=by simpa using hc);have b5:=rY aH;have eA:=BU p n.J[i].name (l+1);have lh:=aue aH;have BV:=Nk n.J[i] (below p n.J[i].name (l+1)) (l+1);refine kx ?_;refine oL ?_;refine mj ?_;refine⟨aE n.J[i],λ_=>rZ aH,?_⟩;refine mj ?_;refine⟨aE n.J[i],λ_=>rZ aH,?_⟩;(conv=>whnf);refine⟨[.O p,.O n.J[i].name,u l],_,λ_=>S_ p _ l asZ aj,ar,?_⟩;refine lb ?_;refine⟨[aE n.J[i],.O (below p n.J[i].name (l+1)),u (l+1)],_,λ_=>aY n.J[i] (below p n.J[i].name (l+1)) (l+1) asZ asZ asZ,ar,?_⟩;apply b2;refine aJ _ rfl ?_ ?_<;>intro hc;refine gm ?_;(have a6:(q5 n.J[i] (below p n.J[i].name (l+1)) (l+1)).2≠0:=by simpa using hc);(have fF:q5 n p l=q5 n.J[i] (below p n.J[i].name (l+1)) (l+1):=by unfold q5 at a6⊢;rw[aw,lh,kA];rcases BV with h|⟨h1,A⟩;rw[h]at a6;exact absurd rfl a6;generalize fG gX n.J[i] (below p n.J[i].name (l+1)) (l+1) (0,[])=r at*;obtain⟨x,y⟩:=r;simp only at h1;subst h1;rfl);rw[fF];exact ar;refine rP ?_;(have h0:(q5 n.J[i] (below p n.J[i].name (l+1)) (l+1)).2=0:=by simpa using hc);(have Y:fG gX n.J[i] (below p n.J[i].name (l+1)) (l+1) (0,[])=(true,(0,[])):=by rcases BV with h|⟨h1,A⟩;exact h;unfold q5 at h0;rw[h1]at h0;exact absurd h0 A);exact⟨⟨i+1,by omega,by rw[aw,lh,kA,Y]⟩,by show _-(i+1)<_-i;omega,ar,⟨rfl,ai⟩⟩;refine qT ?_;(have fF:q5 n p l=([],0):=by rw[q5,aw,avw (by simp at hc;omega)];rfl);rw[fF];exact ar
theorem T_(n:aa):(if(256:Int)<fH n then([],7)else q5 n [] 1)=s4 n:=by unfold s4 q5;split;rfl;rcases Nk n [] 1 with h|⟨h1,A⟩;rw[h];rfl;rw[h1];rfl
theorem aeu(n:aa)(bH:aB n+n.name.length<2200000):aU B 72 [aE n] (.bo [.O (s4 n).1,u (s4 n).2]):=by refine bA Tryz.func72 Tryz.ntmps72 λU=>?_;refine ck ?_;intro b;refine f' ?_;refine eB ?_;refine⟨[aE n],_,λ_=>T8 _ n (atX _) asZ,ar,?_⟩;refine aJ _ rfl ?_ ?_<;>intro hc;refine gm ?_;rw[<-T_,as_ (by simpa using hc)];exact ar;apply cr;refine lc ?_;refine⟨[aE n,.O [],u 1],_,λ_=>aet _ n [] 1 (atX _) as0 asZ,ar,?_⟩;refine iB ?_;rw[<-T_,as9 (by simpa using hc)];exact ar
theorem T'(n:aa)(bH:aB n+n.name.length<2200000):aU B 67 [aE n] (.bool (valid n)):=by refine bA Tryz.func67 Tryz.ntmps67 λU=>?_;refine ck ?_;intro b;refine lc ?_;refine⟨[aE n],_,λ_=>aeu n bH,ar,?_⟩;refine gm ?_;exact E
end Go.bS.cj


namespace Go.bS.cj
open Go Go.Proofs
variable{B:World}
def eY(n:aa):Prop:=aB n+n.name.length<2200000
mutual
def yz:aa->Nat
 |.mk _ _ _ _ _ _ _ _ _ _ ag _=>qj ag+1
def qj:List aa->Nat
 |[]=>0
 |n::r=>max (yz n) (qj r)
end
theorem aev(n:aa):yz n=qj n.J+1:=by cases n;simp only[yz]
theorem Ua:∀a b:List aa,qj (a++b)=max (qj a) (qj b)
 |[],b=>by simp[qj]
 |n::r,b=>by simp only[auh,qj];rw[Ua r b];omega
variable{i:Nat}
theorem aew{l:List aa}(h:i<l.length):qj (l.take (i+1))=max (qj (l.take i)) (yz l[i]):=by rw[au',ata h,Ua];simp[qj]
mutual
theorem aex:∀n:aa,yz n<=aB n
 |.mk a b c d e f g h i j ag cC=>by have:=Nl ag;simp only[yz,aB];omega
theorem Nl:∀l:List aa,qj l<=eI l
 |[]=>by simp[qj,eI]
 |n::r=>by have:=aex n;have:=Nl r;simp only[qj,eI];omega
end
theorem aey:∀(bC:Nat) (n:aa),aB n<bC->aB n<100000000->aU B 100 [aE n] (u (yz n)):=by refine λbC=>Nat.rec (λn h=>absurd h (auI _)) (λbC aY n hN F=>?_) bC;have eR:=vn n;have hcs:=Nl n.J;have oe:=lU n;refine bA Tryz.func100 Tryz.ntmps100 λU=>?_;refine ck ?_;intro b;apply b2;refine ns ?_;refine X.loop (α:={i:Nat // i<=n.J.length}) (λx=>[(1,.box 1 b 0),(3,u (qj (n.J.take x.1):Nat)),(4,u x.1)]) (λ_=>[(1,.box b (yy n))]) (λx=>n.J.length-x.1) ⟨0,by omega⟩ ar ⟨rfl,ai⟩ ?_;rintro⟨i,hi⟩;dsimp only;refine p8 ?_;refine aJ _ rfl ?_ ?_<;>intro hc;refine ff ?_;(have aH:i<n.J.length:=by simpa using hc);have b5:=rY aH;refine kx ?_;apply kw;refine mj ?_;refine⟨aE n.J[i],λ_=>rZ aH,?_⟩;(conv=>whnf);refine⟨[aE n.J[i]],_,λ_=>aY _ asZ asZ,ar,?_⟩;refine np ?_;exact⟨⟨i+1,by omega⟩,by show _-(i+1)<_-i;omega,⟨E,dr (by rw[aew aH];split<;>omega),E,ai⟩,⟨rfl,ai⟩⟩;refine sM ?_;have mW:n.J.take i=n.J:=atC (by simp at hc;omega);refine .inl ⟨λ_=>by simp only[dg];rw[mW];omega,?_⟩;refine iB ?_;exact dr (by rw[aev,mW];omega)
def k1:List nu->Nat
 |[]=>0
 |s::r=>20+s.name.length+s.target.length+k1 r
mutual
def vE:aa->Nat
 |.mk a _ c d _ _ _ _ _ _ ag cC=>20+a.length+c.length+d.length+k1 cC+ln ag
def ln:List aa->Nat
 |[]=>0
 |n::r=>vE n+ln r
end
theorem aez(n:aa):vE n=20+n.name.length+n.d7.length+n.target.length+k1 n.bN+ln n.J:=by cases n;simp only[vE]
theorem Ub:∀l:List nu,k1 l<=10*lT l
 |[]=>by simp[k1,lT]
 |s::r=>by have:=Ub r;simp only[k1,lT];omega
mutual
theorem Uc:∀n:aa,vE n<=n.name.length+10*aB n
 |.mk a b c d e f g h i j ag cC=>by have:=Ud ag;have:=Ub cC;simp only[vE,aB];omega
theorem Ud:∀l:List aa,ln l<=10*eI l
 |[]=>by simp[ln,eI]
 |n::r=>by have:=Uc n;have:=Ud r;simp only[ln,eI];omega
end
theorem Ue:∀a b:List nu,k1 (a++b)=k1 a+k1 b
 |[],b=>by simp[k1]
 |n::r,b=>by simp only[auh,k1];rw[Ue r b];omega
theorem aeA(n:aa)(h:i<n.bN.length):k1 (n.bN.take (i+1))=k1 (n.bN.take i)+(20+(gW n i).name.length+(gW n i).target.length):=by rw[au',ata h,Ue];simp[k1,gW,List.getD,h]
theorem Uf:∀(l:List nu) (i:Nat),k1 (l.take i)<=k1 l
 |[],i=>by simp[k1]
 |n::r,0=>by simp[k1]
 |n::r,i+1=>by simp only[auP,k1];have:=Uf r i;omega
theorem Ug:∀a b:List aa,ln (a++b)=ln a+ln b
 |[],b=>by simp[ln]
 |n::r,b=>by simp only[auh,ln];rw[Ug r b];omega
theorem aeB{l:List aa}(h:i<l.length):ln (l.take (i+1))=ln (l.take i)+vE l[i]:=by rw[au',ata h,Ug];simp[ln]
theorem Uh:∀(l:List aa) (i:Nat),ln (l.take i)<=ln l
 |[],i=>by simp[ln]
 |n::r,0=>by simp[ln]
 |n::r,i+1=>by simp only[auP,ln];have:=Uh r i;omega
theorem aeC:∀(bC:Nat) (n:aa),aB n<bC->aB n+n.name.length<10000000->aU B 101 [aE n] (u (vE n)):=by refine λbC=>Nat.rec (λn h=>absurd h (auI _)) (λbC aY n hN F=>?_) bC;have eR:=vn n;have eS:=E7 n;have Ui:=Uc n;have aeD:=aez n;refine bA Tryz.func101 Tryz.ntmps101 λU=>?_;refine ck ?_;intro b;refine i1 ?_;refine g9 ?_;apply cB;refine g9 ?_;apply cB;refine g9 ?_;refine ns ?_;refine X.loop (α:={i:Nat // i<=n.bN.length}) (λx=>[(1,.box 1 b 0),(3,u ((20+n.name.length+n.d7.length+n.target.length+k1 (n.bN.take x.1):Nat):Int)),(4,u x.1)]) (λ_=>[(1,.box b (yy n))]) (λx=>n.bN.length-x.1) ⟨0,by omega⟩ ⟨E,dr (by simp[k1]),E,ai⟩ ⟨rfl,ai⟩ ?_;rintro⟨i,hi⟩;dsimp only;refine p8 ?_;refine aJ _ rfl ?_ ?_<;>intro hc;refine ff ?_;(have aH:i<n.bN.length:=by simpa using hc);have E9:=Uf n.bN (i+1);have cX:=aeA n aH;refine kx ?_;refine X.u_ aM mixed as4 ?_;refine g9 ?_;refine mj ?_;refine⟨c6 (gW n i),λ_=>ue n aH,?_⟩;refine g9 ?_;refine mj ?_;refine⟨c6 (gW n i),λ_=>ue n aH,?_⟩;refine g9 ?_;refine np ?_;exact⟨⟨i+1,by omega⟩,by show _-(i+1)<_-i;omega,⟨E,dr (by rw[cX];omega),E,ai⟩,⟨rfl,ai⟩⟩;refine wM ?_;have hC:n.bN.take i=n.bN:=atC (by simp at hc;omega);refine ns ?_;refine X.loop (α:={i:Nat // i<=n.J.length}) (λx=>[(1,.box 1 b 0),(3,u ((20+n.name.length+n.d7.length+n.target.length+k1 n.bN+ln (n.J.take x.1):Nat):Int)),(5,u x.1)]) (λ_=>[(1,.box b (yy n))]) (λx=>n.J.length-x.1) ⟨0,by omega⟩ ⟨E,dr (by rw[hC];simp[ln]),E,ai⟩ ⟨rfl,ai⟩ ?_;rintro⟨i,hi⟩;dsimp only;refine p8 ?_;refine aJ _ rfl ?_ ?_<;>intro hc;refine ff ?_;(have aH:i<n.J.length:=by simpa using hc);have b5:=rY aH;have E9:=Uh n.J (i+1);have cX:=aeB aH;refine kx ?_;apply kw;refine mj ?_;refine⟨aE n.J[i],λ_=>rZ aH,?_⟩;(conv=>whnf);refine⟨[aE n.J[i]],_,λ_=>aY _ asZ asZ,ar,?_⟩;refine g9 ?_;refine np ?_;exact⟨⟨i+1,by omega⟩,by show _-(i+1)<_-i;omega,⟨E,dr (by rw[cX];omega),E,ai⟩,⟨rfl,ai⟩⟩;refine qT ?_;exact dr (by rw[aeD,atC (by simp at hc;omega)])
def og(n:aa)(s:Int):Bool:=(decide ((fH n:Int)<=40)&&decide ((yz n:Int)<=20))&&decide ((vE n:Int)<=s)
theorem aeE(n:aa)(s:Int)(ax:eY n):aU B 73 [aE n,u s] (.bool (og n s)):=by refine bA Tryz.func73 Tryz.ntmps73 λU=>?_;refine ck ?_;intro b;refine lc ?_;unfold eY at ax;refine⟨[aE n],_,λ_=>T8 _ n (atX _) asZ,ar,?_⟩;apply cB;refine mY ?_;refine⟨[aE n],_,λh=>aey _ n (atX _) asZ,ar,?_⟩;refine ie ?_;apply cB;refine mY ?_;refine⟨[aE n],_,λh=>aeC _ n (atX _) asZ,ar,?_⟩;refine nY ?_;refine iB ?_;exact aq.of_eq (as' D.bool (by simp only[og,<-ju]))
def s5(n:aa)(q:as8):Int:=e2 (λk:aa=>k.name==q) n.J
theorem aeF(n:aa)(q:as8)(ax:eY n):aU B 69 [aE n,.O q] (u (s5 n q)):=by refine bA Tryz.func69 Tryz.ntmps69 λU=>?_;refine ck ?_;intro b;refine ns ?_;have eR:=vn n;unfold eY at ax;refine X.loop (α:={i:Nat // i<=n.J.length/\∀j (h:j<n.J.length),j<i->((n.J[j]).name==q)=false}) (λx=>[(1,.O q),(2,.box 2 b 0),(5,u x.1)]) (λ_=>[(2,.box b (yy n))]) (λx=>n.J.length-x.1) ⟨0,by simp⟩ ar ⟨rfl,ai⟩ ?_;rintro⟨i,hi,aw⟩;dsimp only;refine p8 ?_;refine aJ _ rfl ?_ ?_<;>intro hc;refine ff ?_;(have aH:i<n.J.length:=by simpa using hc);refine kx ?_;apply b2;refine mj ?_;refine⟨aE n.J[i],λ_=>rZ aH,?_⟩;refine aJ _ rfl ?_ ?_<;>intro hc;refine gm ?_;exact dr (zM (p:=λk:aa=>k.name==q) aH aw hc).symm;refine rP ?_;exact⟨⟨i+1,by omega,λj ad bi=>(avc.1 bi).elim (aw j ad) λe=>by subst e;exact hc⟩,by show _-(i+1)<_-i;omega,ar,⟨rfl,ai⟩⟩;refine qT ?_;exact axh
theorem E_:∀a:as8,Op.bytesLess a a=false
 |[]=>rfl
 |a::xs=>by simp[Op.bytesLess,E_ xs,avR]
theorem w2:∀a b:as8,Op.bytesLess a b=false->Op.bytesLess b a=false->a=b
 |[],[],_,_=>rfl
 |[],_::_,h,_=>by simp[Op.bytesLess]at h
 |_::_,[],_,h=>by simp[Op.bytesLess]at h
 |a::xs,b::a',h,bz=>by simp only[Op.bytesLess,auK,auQ,auN,atK]at h bz;have nT:a=b:=UInt8.le_antisymm (awb.1 bz.1) (awb.1 h.1);subst nT;rw[w2 xs a' (by rcases h.2 with h|h;exact absurd rfl h;exact h) (by rcases bz.2 with h|h;exact absurd rfl h;exact h)]
theorem Ci:∀a b c:as8,Op.bytesLess a b=true->Op.bytesLess b c=true->Op.bytesLess a c=true
 |_,[],_,h,_=>by cases bz:(‹as8›:as8)<;>simp_all [Op.bytesLess]
 |_,_::_,[],_,h=>by simp[Op.bytesLess]at h
 |[],_::_,_::_,_,_=>rfl
 |a::xs,b::a',c::zs,h,bz=>by simp only[Op.bytesLess,auv,atS,atd,auM]at h bz⊢;rcases h with h|⟨rfl,h⟩;rcases bz with bz|⟨rfl,bz⟩;exact .inl (UInt8.lt_trans h bz);exact .inl h;rcases bz with bz|⟨rfl,bz⟩;exact .inl bz;exact .inr ⟨rfl,Ci xs a' zs h bz⟩
theorem E'{a b:as8}(h:Op.bytesLess a b=true):Op.bytesLess b a=false:=by cases F:Op.bytesLess b a with|false=>rfl|true=>have:=Ci a b a h F;rw[E_]at this;cases this
theorem s6{a b:as8}(h:Op.bytesLess a b=true):a≠b:=λe=>by rw[e,E_]at h;cases h
def gM(l:List aa):Prop:=∀i,i+1<l.length->Op.bytesLess (l.getD i default).name (l.getD (i+1) default).name=true
theorem Uj{l:List aa}(h:gM l):∀{d i:Nat},i+d+1<l.length->Op.bytesLess (l.getD i default).name (l.getD (i+d+1) default).name=true
 |0,i,hi=>h i hi
 |d+1,i,hi=>Ci _ _ _ (Uj h (d:=d) (i:=i) asZ) (h (i+d+1) hi)
variable{j:Nat}
theorem aeG{l:List aa}(h:gM l)(d6:i<j)(ad:j<l.length):Op.bytesLess (l.getD i default).name (l.getD j default).name=true:=by have:=Uj h (d:=j-i-1) (i:=i) asZ;rwa [show i+(j-i-1)+1=j by omega]at this
end Go.bS.cj



namespace Go.bS.cj
open Go Go.Proofs
variable{B:World}
def j8(v:Int):Bool:=decide (0<=v)&&decide (v<4)
theorem Fa(v:Int):aU B 252 [u v] (.bool (j8 v)):=by refine bA Tryz.func252 Tryz.ntmps252 λU=>?_;apply b2;apply b2;refine ie ?_;refine iB ?_;exact aq.of_eq (as' D.bool (ju _ _))
def Uk(h v:Int):Bool:=qH .and .i64 (h.fdiv (2 ^ min v.toNat IntKind.i64.bits)) 1==1
def lo(v:Int)(n:aa)(l:Int):Bool :=
 if !j8 v||Uk n.n6 v then false else if(v==0&&n.kind==0)&&decide (8<l)then false else(!(n.kind==2)||v==2)||v==3
theorem Fb(v:Int)(n:aa)(l:Int):aU B 183 [u v,aE n,u l] (.bool (lo v n l)):=by refine bA Tryz.func183 Tryz.ntmps183 λU=>?_;refine ck ?_;intro b;refine p7 ?_;refine⟨[u v],_,λ_=>Fa v,ar,?_⟩;refine iD ?_;refine hE ?_;refine⟨λh=>by unfold j8 at h;simp at h;omega,?_⟩;refine nY ?_;refine aJ (!j8 v||Uk n.n6 v) (by simp only[<-pq];rfl) ?_ ?_<;>intro hc;refine gm ?_;exact aq.of_eq (as' D.bool (by rw[lo,as_ hc]));apply cr;have fc:=hc;refine f' ?_;refine iD ?_;refine ie ?_;refine ie ?_;refine aJ ((v==0&&n.kind==0)&&decide (8<l)) (by simp only[<-ju];rfl) ?_ ?_<;>intro hc;refine gm ?_;exact aq.of_eq (as' D.bool (by rw[lo,as9 (by rw[fc];simp),as_ hc]));apply cr;refine i1 ?_;refine ie ?_;refine ie ?_;refine iB ?_;refine aq.of_eq (as' D.bool ?_);rw[lo,as9 (by rw[fc];simp),as9 (by rw[hc];simp)];simp only[<-pq];rfl
theorem Ul(p n:as8)(Um:Bool)(h:p.length+n.length<1000000000):aU B 349 [.O p,.O n,.bool Um] (.O (if Um then n else p++[47]++n)):=by refine bA Tryz.func349 Tryz.ntmps349 λU=>?_;apply b2;refine f' ?_;refine aJ _ rfl ?_ ?_<;>intro hc;refine gm ?_;exact aq.of_eq (as' D.O (by rw[as_ hc]));apply cr;refine ck ?_;refine p5 ?_;refine nX ?_;refine iB ?_;exact aq.of_eq (as' D.O (by rw[as9 (by rw[hc];simp)]))
open Go.RowKit
theorem aeH(a b:ByteArray)(cO d0 mu w3 uf Fc Un Uo Up Uq Ur Us Ut Uu Uv Uw Ux Uy Uz UA UB UC:Value)(w:World):
  Calls Tryz.prog 351 #[.agg #[.string a,cO,d0,mu,w3,uf,Fc,Un,Uo,Up,Uq,Ur],.agg #[.string b,Us,Ut,Uu,Uv,Uw,Ux,Uy,Uz,UA,UB,UC]] w
   λe w'=>e=.returned (.int .i64 (Lib.compareBytes a.data.toList b.data.toList))/\∃q Nm,w'=Sort.grow (w.drewN q) Nm:=by
 go_enter Tryz.func351,Tryz.ntmps351
 go_wp2_with (first
  |(go_at_call 249;refine(Tryz.strings_Compare _ _ _).mono ?_;rintro e w' ⟨rfl,rfl⟩)
  |go_in)
 go_ret
 refine⟨rfl,0,#[.cells #[.string a,cO,d0,mu,w3,uf,Fc,Un,Uo,Up,Uq,Ur] 44,.cells #[.string b,Us,Ut,Uu,Uv,Uw,Ux,Uy,Uz,UA,UB,UC] 44],?_⟩;simp only[Sort.grow,World.drewN,World.alloc,avA];congr 1
theorem aeI(dX b o n cap i j:Nat)(x y:ByteArray)(w:World)(aqY:w.cell? ⟨dX,0,none⟩=some (.slice (some ⟨b,o,none⟩) n cap))(hi:i<n)(ad:j<n)
  (I:w.cell? ⟨b,o+i*12,none⟩=some (.string x)) (hy:w.cell? ⟨b,o+j*12,none⟩=some (.string y)) :
  Calls Tryz.prog 254 #[.int .i64 i,.int .i64 j,.pointer (some ⟨dX,0,none⟩)] w
   λe w'=>e=.returned (.int .i64 (Lib.compareBytes x.data.toList y.data.toList))/\∃q Nm,w'=Sort.grow (w.drewN q) Nm:=by
 go_enter Tryz.func254,Tryz.ntmps254
 go_wp2_with (first
  |(go_at_call 249;refine(Tryz.strings_Compare _ _ _).mono ?_;rintro e w' ⟨rfl,rfl⟩)
  |go_in)
 go_quiet ((go_at_call 249;refine Calls.quiet_of_same (Tryz.strings_Compare _ _ _)))
 go_wp2
 go_ret
 exact⟨rfl,_,#[],(Sort.grow_empty _).symm⟩
open Go.Sort Go.Lib
variable{α:Type}{b:Nat}
theorem Nn[Inhabited α](enc:α->Value)(w:World)(blk off n:Nat)(d:Array α)(os:Array Obj)(F:b<w.heap.size)(a6:b≠blk):(sortWorld enc w blk off n d os).heap[b]?=w.heap[b]?:=by simp only[sortWorld,Sort.grow,putRow,mapBlock,ahead];rw[av5 (by simpa using F),avB,as9 (Ne.symm a6)];rfl
theorem Iy[Inhabited α](enc:α->Value)(w:World)(blk off n:Nat)(d:Array α)(os:Array Obj){vs:Array Value}{e:TypeId}{ko:Nat×Nat}(F:w.heap[blk]?=some (.cells vs e ko)): (sortWorld enc w blk off n d os).heap[blk]?=some (.cells (putCells enc off d vs) e ko):=by have bi:=hM F;simp only[sortWorld,Sort.grow,putRow,mapBlock,ahead];rw[av5 (by simpa using bi),avB,as_ rfl];show Option.map _ w.heap[blk]?=_;rw[F];rfl
variable{ak:Value}
theorem No[Inhabited α](enc:α->Value)(w:World)(blk off n:Nat)(d:Array α)(os:Array Obj){o:Nat}(a6:b≠blk)(h:w.cell? ⟨b,o,none⟩=some ak):(sortWorld enc w blk off n d os).cell? ⟨b,o,none⟩=some ak:=by(have bi:b<w.heap.size:=by simp only[World.cell?]at h;rcases ats b w.heap.size with h1|h1;exact h1;rw[awm h1]at h;cases h);rw[<-h];simp only[World.cell?,Nn enc w blk off n d os bi a6]
theorem aeJ[Inhabited α](enc:α->Value)(w:World)(blk off n:Nat)(d:Array α)(os:Array Obj):w.heap.size<=(sortWorld enc w blk off n d os).heap.size:=by simp[sortWorld,Sort.grow,putRow,mapBlock,ahead]
theorem da.Iz[Inhabited α](enc:α->Value)(w:World)(C:Nat->Nat)(blk off n:Nat)(d:Array α)(os:Array Obj)(df:C blk=0):da (λx=>x=blk) w C (sortWorld enc w blk off n d os) C :=
 ⟨⟨aeJ ..,λ_ _=>atg _,λb o F ah=>by
   have a6:b≠blk:=λe=>by subst e;omega
   simp only[World.cell?,Nn enc w blk off n d os F a6]⟩,rfl,rfl,rfl,λb F a6=>⟨Nn enc w blk off n d os F a6,rfl⟩⟩
theorem Np(aX:α->as8)(x y:α):ltOf (λx y:α=>Lib.compareBytes (aX x) (aX y)) x y=Op.bytesLess (aX x) (aX y):=by unfold ltOf;show decide (Lib.compareBytes (aX x) (aX y)<0)=_;rcases T1 (aX x) (aX y)with h|h|h;rw[h];(cases F:Op.bytesLess (aX x) (aX y)with|true=>rfl|false =>(cases g6:Op.bytesLess (aX y) (aX x)with|true=>rw[(E6 (aX x) (aX y)).2 g6]at h;cases h|false=>have:=w2 _ _ F g6;rw[(E5 (aX x) (aX y)).2 this]at h;cases h));rw[h];have:=(E5 (aX x) (aX y)).1 h;rw[this,E_];rfl;rw[h];rw[E' ((E6 (aX x) (aX y)).1 h)];rfl
theorem UD(aX:α->as8):SWO (ltOf λx y:α=>Lib.compareBytes (aX x) (aX y)):=by have key:=Np aX;refine⟨λx=>by rw[key,E_],λx y V h1 A=>?_,λx y V h1 A=>?_⟩;rw[key]at*;exact Ci _ _ _ h1 A;rw[key]at*;cases F:Op.bytesLess (aX x) (aX V)with|false=>rfl|true =>(cases Z:Op.bytesLess (aX V) (aX y)with|true=>rw[Ci _ _ _ F Z]at h1;cases h1|false=>have:=w2 _ _ A Z;rw[this]at h1;rw[F]at h1;cases h1)
def encI(i:Nat):D:=u (i:Nat)
def IA(n:Nat)(x:Fin n):Value:=.int .i64 ((x.1:Nat):Int)
variable{dk dn:aI}
theorem IB{a:Nat}{o:aI}{s:Nat}(h:aK [(a,dk),(b,dn)] s=some o):(s=a/\o=dk)\/(s=b/\o=dn):=by simp only[aK]at h;cases h1:Nat.beq s a with|true=>rw[h1]at h;cases h;exact .inl ⟨atx h1,rfl⟩|false =>rw[h1]at h;(cases A:Nat.beq s b with|true=>rw[A]at h;cases h;exact .inr ⟨atx A,rfl⟩|false=>rw[A]at h;cases h)
theorem UE(v:Value)(Nq:D)(o:aI):cZ B 253 [.al v,Nq] (aK [(2001,.row v [] 1 3),(2000,o)]) λd aO=>d=.bo []/\aO=aK [(2001,.row v [] 1 3),(2000,o)]:=by refine⟨js Tryz.func253 rfl as3,λw C args Ft pX qQ hH ae=>?_⟩;obtain⟨aj,ae⟩:=ae;match args,aj with|[a0,gT],_ =>have h0:=(ae 0 _ a0 rfl rfl).gb;subst h0;obtain⟨a,cap,W,_⟩:kj w C a0 [] 1 3:=hH.ch 2001 _ rfl;subst W;refine(AnyF.slices_SortFunc_none Tryz.laysSlF0_f253 a cap gT w).mono ?_;rintro e w' ⟨rfl,rfl⟩;exact⟨.tuple #[],.bo [],C,_,rfl,⟨rfl,rfl⟩,.bo [] [] rfl (λi d v N _=>by simp at N),.refl _ _ _,⟨hH.ch,hH.inj,λs o b ah an=>.inl (hH.cN s o b ah an)⟩⟩
theorem UF(J:List aa)(ax:0<J.length)(hlen:J.length<1000000)(dX:Nat)(v:Value)(ds:List (Fin J.length))(ug:0<ds.length)(N:ds.length<1000000):
  cZ B 253 [.al v,.fn (.func 254) [] [.box 2000 dX 0]] (aK [(2001,.row v (ds.map λx=>encI x.1) 1 3),(2000,.box dX [.Q .none 12 (J.map enc)])]) λd aO =>
   d=.bo []/\∃kQ:List (Fin J.length),kQ.Perm ds/\(∀(i j:Nat) (hi:i<kQ.length) (ad:j<kQ.length),i<j->Op.bytesLess (J[kQ[j].1]).name (J[kQ[i].1]).name=false)/\
    aO=aK [(2001,.row v (kQ.map λx=>encI x.1) 1 3),(2000,.box dX [.Q .none 12 (J.map enc)])]:=by
 refine⟨js Tryz.func253 rfl as3,λw C args Ft pX qQ hH ae=>?_⟩;obtain⟨aj,ae⟩:=ae
 match args,aj with
 |[a0,gT],_ =>
  have h0:=(ae 0 _ a0 rfl rfl).gb;obtain⟨fJ,hl,h1,A,Z⟩:=(ae 1 _ gT rfl rfl).u2;subst h0;have Nr:fJ=[]:=atm A.1.symm;subst Nr
  have sL:hl=[.pointer (some ⟨dX,0,none⟩)]:=by
   obtain⟨UG,Z⟩:=Z
   match hl,UG with
   |[ak],_=>rw[(Z 0 _ ak rfl rfl).wu]
  subst sL;subst h1;have dM:kj w C a0 (ds.map λx=>encI x.1) 1 3:=hH.ch 2001 _ rfl;obtain⟨UH,aqZ,nS,IC,aq0⟩:ty w C (.box dX [.Q .none 12 (J.map enc)]):=hH.ch 2000 _ rfl
  obtain⟨ak,rfl⟩:∃ak,UH=[ak]:=by
   match UH,IC.1 with
   |[ak],_=>exact⟨ak,rfl⟩
  have an:=IC.2 0 _ ak rfl rfl;obtain⟨b,cap,vs,W,hc,hm,Y,F,fK,df,hcells⟩:=kj.pos dM (i:=0) (by simpa using ug);have hcap:0<cap:=by simp at hc;omega
  have d9:∀x∈ds.map (λx=>encI x.1),x.cells=[x]:=λx I=>by obtain⟨y,_,rfl⟩:=aty.1 I;rfl
  rw[rL d9]at hcells;have eR:0<(J.map enc).length:=by simpa using ax
  rcases an.kl with⟨ao,_⟩|⟨Fd,o,Ns,g,rfl,_,pW,_,_,sU,aeK,aeL,_,aeM⟩
  ·rw[ao]at eR;cases eR
  have UI:Fd≠b:=λe=>by rw[e]at aeK;omega
  have ID:dX≠b:=λe=>by
   subst e;exact hH.inj 2000 2001 _ _ dX as2 rfl rfl rfl ⟨_,cap,W,hcap⟩
  have gw:(J.map enc).length=J.length:=by simp
  have aeN:w.cell? ⟨dX,0,none⟩=some (.slice (some ⟨Fd,o,none⟩) J.length Ns):=by
   have:w.cell? ⟨dX,0,none⟩=some (.slice (some ⟨Fd,o,none⟩) (J.map enc).length Ns):=by simp only[World.cell?,nS];rfl
   rwa [gw]at this
  have Fe:∀i:Fin J.length,w.cell? ⟨Fd,o+i.1*12,none⟩=some (.string ⟨⟨(J[i.1]).name⟩⟩):=λi=>by
   have M:(b1 (J.map enc))[i.1*12+0]?=some (.O (J[i.1]).name):=by rw[wz sU (n7 i.2) asZ];rfl
   have aD:=aeL _ _ M;rw[(aeM _ _ M).kM]at aD;simpa using aD
  haveI:Inhabited (Fin J.length):=⟨⟨0,ax⟩⟩
  have h4:∀(l:List (Fin J.length)) (j:Nat) (ad:j<l.length),l.toArray[j]! = l[j]:=λl j ad=>by simp[ad]
  have Nt:∀args w,(callFunc 254 args).run Tryz.prog w=.ok (.enter 254 args) w:=λargs w=>by
   obtain⟨fn,iz,rH,mb⟩:=js Tryz.func254 rfl as3;have oP:fn.body.isNone=false:=by cases F:fn.body<;>simp[F]at rH⊢
   simp only[callFunc,Sem.run_bind,run_program,Result.andThen_ok,iz,mb,oP,auk,auU,Sem.run_pure]
  have Ff:=Tryz.slices_SortFunc (IA J.length) (λ_=>rfl) (λx y=>Lib.compareBytes (J[x.1]).name (J[y.1]).name) (UD λx:Fin J.length=>(J[x.1]).name) 254 #[.pointer (some ⟨dX,0,none⟩)] b 0 cap ds.toArray w
   Nt (λm os aeO aeP x y=>(aeI dX Fd o J.length Ns x.1 y.1 ⟨⟨(J[x.1]).name⟩⟩ ⟨⟨(J[y.1]).name⟩⟩ _ (No _ _ _ _ _ _ _ ID aeN) x.2 y.2
    (No _ _ _ _ _ _ _ UI (Fe x)) (No _ _ _ _ _ _ _ UI (Fe y))))
   (λj ad=>by
    have gk:j<ds.length:=by simpa using ad
    obtain⟨V,bc,cL,_⟩:=hcells j (encI ds[j].1) (by simp[gk]);refine⟨?_,by simp[World.frozen?,F]⟩;rw[h4 ds j gk];simp only[World.cell?,F,atT]
    simp[bc,cL.fu,IA]) (hM F) as0
  subst W;have hsz:(ds.map λx=>encI x.1).length=ds.toArray.size:=by simp
  have e_:∀(xs:List D),aI.ef (.row (.slice (some ⟨b,0,none⟩) (ds.map λx=>encI x.1).length cap) xs 1 3) b:=λxs=>⟨_,cap,rfl,hcap⟩;have uh:=hH.cN 2001 _ b rfl (e_ _);have aeQ:=hH.cN 2000 _ dX rfl rfl;rw[hsz]at e_⊢;refine Ff.mono ?_;rintro e w' ⟨rfl,d',m,os,aw,hs,rfl⟩;obtain⟨hd,_,pw⟩:=aw;have jN:d'.toList.length=ds.length:=by simpa using hd
  have a1:=da.Iz (IA J.length) w C b 0 m d' os df;refine⟨.tuple #[],.bo [],C,_,rfl,⟨rfl,d'.toList,?_,?_,rfl⟩,.bo [] [] rfl (λi d v N _=>by simp at N),?_,⟨λs o ah=>?_,λs bq o bL x a6 h1 A an cW=>?_,λs o x ah an=>?_⟩⟩
  ·have bY:(d'.extract 0 ds.toArray.size).toList=d'.toList:=by rw[<-hd];simp
   have b':(ds.toArray.extract 0 ds.toArray.size).toList=ds:=by simp
   rw[bY,b']at pw;exact pw
  ·intro i j hi ad d6;have eV:=hs i j (atq _) d6 (by rw[<-hd];simpa using ad);rw[Np λx:Fin J.length=>(J[x.1]).name]at eV;have g1:d'[j]! = d'.toList[j]:=by rw[getElem!_pos d' j (by simpa using ad)];simp
   have fx:d'[i]! = d'.toList[i]:=by rw[getElem!_pos d' i (by simpa using hi)];simp
   rw[g1,fx]at eV;exact eV
  ·exact⟨a1.ext,a1.os,a1.tape,a1.output,λx I bM=>a1.iv x I λe=>by subst e;exact bM uh⟩
  ·rcases IB ah with⟨rfl,rfl⟩|⟨rfl,rfl⟩
   ·have UJ:∀x∈d'.toList.map (λx=>encI x.1),x.cells=[x]:=λx I=>by obtain⟨y,_,rfl⟩:=aty.1 I;rfl
    refine⟨some ⟨b,0,none⟩,cap,by simp[hd],by simp only[atb]at hc⊢;omega,hm,λx I=>by rw[UJ x I];rfl,λdF gc=>⟨b,by cases gc;rfl,atY (hM F) a1.ext.size⟩,
     λ_=>⟨b,_,rfl,Iy _ _ _ _ _ _ _ F,ax4,df,λj d N=>?_⟩⟩
    rw[rL UJ]at N;have ad:j<d'.size:=by have:=e9 N;simpa using this
    have Al:j<vs.size:=by have:=hd;simp at this fK hc;omega
    have Fg:d=encI d'[j].1:=by simp[ad]at N;exact N.symm
    subst Fg;refine⟨IA J.length d'[j],?_,.int _ _,rfl⟩;simp only[putCells,av1,auH Al,auD,atq,true_and,atT,ad,aum,Nat.sub_zero];rw[getElem!_pos d' j ad]
   exact(hH.ch 2000 _ rfl).iv a1.ext λx I=>a1.iv x (by cases I;exact hM nS) (by cases I;exact ID)
  ·rcases IB h1 with⟨rfl,rfl⟩|⟨rfl,rfl⟩<;>rcases IB A with⟨rfl,rfl⟩|⟨rfl,rfl⟩
   ·exact a6 rfl
   ·obtain⟨hX,u',fX,_⟩:=an;have:=pc fX;subst this
    exact ID cW.symm
   ·obtain⟨hX,u',fX,_⟩:=cW;have:=pc fX;subst this
    exact ID an.symm
   exact a6 rfl
  rcases IB ah with⟨rfl,rfl⟩|⟨rfl,rfl⟩
  ·obtain⟨hX,u',fX,_⟩:=an;have:=pc fX;subst this
   exact .inl uh
  cases an;exact .inl aeQ
def w4(L:List Int):List Int:=L.mergeSort λx y=>decide (x<=y)
theorem IE{a:Nat}{o:aI}{s:Nat}(h:aK [(a,dk)] s=some o):s=a/\o=dk:=aw3
theorem Nu(L:List Int):∀x∈bn L,x.cells=[x]:=λx I=>ax9
variable{Ft:Nat->Prop}{w:World}{C:Nat->Nat}{cap:Nat}
theorem UK{L ap:List Int}(hH:l8 Ft w C (aK [(2000,.row (.slice (some ⟨b,0,none⟩) L.length cap) (bn L) 1 3)]))(h0:0<L.length)(fY:ap.length=L.length)(q:Nat)(os:Array Obj)(m:Nat)(hm:m<=L.length):
  da Ft w C (sortWorld (Value.int .i64) w b 0 q ap.toArray os) C/\l8 (λx=>Ft x\/w.heap.size<=x) (sortWorld (Value.int .i64) w b 0 q ap.toArray os) C (aK [(2000,.row (.slice (some ⟨b,0,none⟩) m cap) (bn (ap.take m)) 1 3)]):=by
 have eS:∀ap:List Int,(bn ap).length=ap.length:=λap=>by simp[bn]
 have dM:kj w C (.slice (some ⟨b,0,none⟩) L.length cap) (bn L) 1 3:=hH.ch 2000 _ rfl;obtain⟨eo,hY,vs,dL,hc,By,Y,F,fK,df,hcells⟩:=kj.pos dM (i:=0) (by rw[eS];omega);simp only[Value.slice.injEq,atQ,Addr.mk.injEq]at dL;obtain⟨⟨rfl,_⟩,_,rfl⟩:=dL;rw[eS]at hc;have uh:=hH.cN 2000 _ b rfl ⟨_,cap,rfl,by omega⟩;have a1:=da.Iz (Value.int .i64) w C b 0 q ap.toArray os df;have gw:(ap.take m).length=m:=by rw[atv];omega
 refine⟨⟨a1.ext,a1.os,a1.tape,a1.output,λx I bM=>a1.iv x I λe=>by subst e;exact bM uh⟩,⟨λs mV ah=>?_,λs bq mV aq1 x a6 h1 A an cW=>?_,λs mV x ah an=>?_⟩⟩
 ·obtain⟨rfl,rfl⟩:=IE ah
  refine⟨some ⟨b,0,none⟩,cap,by rw[eS,gw],by rw[eS,gw];omega,By,λx I=>by rw[Nu _ x I];rfl,λdF gc=>⟨b,by cases gc;rfl,atY (hM F) a1.ext.size⟩,
   λ_=>⟨b,_,rfl,Iy _ _ _ _ _ _ _ F,ax4,df,λj d N=>?_⟩⟩
  rw[Go.bS.rL (Nu _)]at N;have ad:j<m:=by have:=e9 N;rwa [eS,gw]at this
  have Nv:j<ap.length:=asZ
  have Al:j<vs.size:=by simp at fK;omega
  have Fg:d=.int .i64 ap[j]:=by simp[bn,ad,Nv]at N;exact N.symm
  subst Fg;refine⟨.int .i64 ap[j],?_,.int _ _,rfl⟩;simp only[putCells,av1,auH Al,auD];rw[as_ ⟨atq _,by simpa using Nv⟩,Nat.sub_zero,getElem!_pos ap.toArray j (by simpa using Nv)];rfl
 ·obtain⟨rfl,_⟩:=IE h1;obtain⟨rfl,_⟩:=IE A;exact a6 rfl
 obtain⟨rfl,rfl⟩:=IE ah;obtain⟨hX,u',fX,_⟩:=an;have:=pc fX;subst this
 exact .inl uh
theorem UL{a:Option Addr}{L:List Int}(hH:l8 Ft w C (aK [(2000,.row (.slice a L.length cap) (bn L) 1 3)]))(h0:0<L.length):
  ∃b,a=some ⟨b,0,none⟩/\b<w.heap.size/\L.length<=cap/\Holds (Value.int .i64) w b 0 L.toArray:=by
 have eS:∀ap:List Int,(bn ap).length=ap.length:=λap=>by simp[bn]
 have dM:kj w C (.slice a L.length cap) (bn L) 1 3:=hH.ch 2000 _ rfl;obtain⟨b,hY,vs,dL,hc,By,Y,F,fK,df,hcells⟩:=kj.pos dM (i:=0) (by rw[eS];omega);simp only[Value.slice.injEq]at dL;obtain⟨rfl,_,rfl⟩:=dL;rw[eS]at hc;rw[Go.bS.rL (Nu _)]at hcells;refine⟨b,rfl,hM F,hc,λj ad=>?_⟩;have gk:j<L.length:=by simpa using ad
 obtain⟨V,bc,cL,_⟩:=hcells j (u L[j]) (by simp[bn,gk]);refine⟨?_,by simp[World.frozen?,F]⟩;have aV:L.toArray[j]! = L[j]:=by simp[gk]
 rw[aV];simp only[World.cell?,F,atT];simp[bc,cL.fu]
theorem Fh(L:List Int):(w4 L).length=L.length:=av0 _
theorem aeR(L:List Int)(a:Option Addr)(n cap:Nat)(ax:n=L.length)(aj:L.length<1000000): cZ B 49 [.al (.slice a n cap)] (aK [(2000,.row (.slice a n cap) (bn L) 1 3)]) λd aO=>d=.bo []/\aO=aK [(2000,.row (.slice a n cap) (bn (w4 L)) 1 3)]:=by subst ax;refine⟨js Tryz.func49 rfl as3,λw C args Ft pX qQ hH ae=>?_⟩;obtain⟨nA,ae⟩:=ae;match args,nA with|[a0],_ =>have h1:=(ae 0 _ a0 rfl rfl).gb;subst h1;rcases at1 L.length with h0|h0;have aW:L=[]:=atm h0;subst aW;refine(Tryz.slices_Sort_int_none a cap w).mono ?_;rintro e w' ⟨rfl,rfl⟩;refine⟨.tuple #[],.bo [],C,_,rfl,⟨rfl,rfl⟩,.bo [] [] rfl (λi d v N _=>by simp at N),.refl _ _ _,?_⟩;rw[show w4 []=[] by simp[w4]];exact⟨hH.ch,hH.inj,λs mV x ah an=>.inl (hH.cN s mV x ah an)⟩;obtain⟨b,rfl,F,hc,cG⟩:=UL hH h0;refine(Tryz.slices_Sort_int b 0 cap L w cG F asZ).mono ?_;rintro e w' ⟨rfl,q,os,rfl⟩;obtain⟨h1,A⟩:=UK hH h0 (Fh L) q os L.length (atg _);rw[atC (by rw[Fh];exact atg _)]at A;exact⟨.tuple #[],.bo [],C,_,rfl,⟨rfl,rfl⟩,.bo [] [] rfl (λi d v N _=>by simp at N),h1,A⟩
theorem aeS(L:List Int):(Lib.compact L).length<=L.length:=by rw[Lib.compact,Lib.compactUpTo,atb];have:=atN (Lib.keeps L.toArray) (List.range L.length);simpa using this
theorem aeT(L:List Int)(a:Option Addr)(n cap:Nat)(ax:n=L.length)(aj:L.length<1000000): cZ B 50 [.al (.slice a n cap)] (aK [(2000,.row (.slice a n cap) (bn L) 1 3)]) λd aO=>∃m,m=(Lib.compact L).length/\d=.al (.slice a m cap)/\aO=aK [(2000,.row (.slice a m cap) (bn (Lib.compact L)) 1 3)]:=by subst ax;refine⟨js Tryz.func50 rfl as3,λw C args Ft pX qQ hH ae=>?_⟩;obtain⟨nA,ae⟩:=ae;match args,nA with|[a0],_ =>have h1:=(ae 0 _ a0 rfl rfl).gb;subst h1;rcases at1 L.length with h0|h0;have aW:L=[]:=atm h0;subst aW;refine(Tryz.slices_Compact_int_empty a cap w).mono ?_;rintro e w' ⟨rfl,rfl⟩;refine⟨_,_,C,_,rfl,⟨_,rfl,rfl,rfl⟩,.al _,.refl _ _ _,?_⟩;exact⟨hH.ch,hH.inj,λs mV x ah an=>.inl (hH.cN s mV x ah an)⟩;obtain⟨b,rfl,F,hc,cG⟩:=UL hH h0;refine(Tryz.slices_Compact_int b 0 cap L w cG asZ hc).mono ?_;rintro e w' ⟨rfl,q,rfl⟩;have kn:=aeS L;obtain⟨h1,A⟩:=UK (ap:=Lib.compact L++List.replicate (L.length-(Lib.compact L).length) 0) hH h0 as0 q #[] (Lib.compact L).length kn;rw[List.take_left'  rfl]at A;(have bY:sortWorld (Value.int .i64) w b 0 q (Lib.compact L++List.replicate (L.length-(Lib.compact L).length) 0).toArray #[]=putRow (Value.int .i64) (Sort.ahead w q) b 0 (Lib.compact L++List.replicate (L.length-(Lib.compact L).length) 0).toArray:=by rw[sortWorld,grow_empty]);rw[bY]at h1 A;exact⟨_,_,C,_,rfl,⟨_,rfl,rfl,rfl⟩,.al _,h1,A⟩
theorem UM(cC:List nu)(h:cC.length<1000000000):aU B 86 [.Q .none 2 (cC.map c6)] (.Q .none 2 (cC.map c6)):=by refine bA Tryz.func86 Tryz.ntmps86 λU=>?_;apply b2;apply nW;refine X.D6 aM ?_;(conv=>whnf);refine .inr (af.L8 (bD:=147) aM rfl rfl rfl λiF pf=>?_);refine aJ _ rfl ?_ ?_<;>intro hc;refine gm ?_;have pU:=pf hc;rw[pU];exact aq.nil;apply cr;refine ck ?_;refine pg ?_;refine⟨by show(0+(cC.map c6).length)*32<=_;simp;omega,by show 0+(cC.map c6).length<=_;simp;omega,as6,λv=>?_⟩;refine iB ?_;exact aq.trans (aq.of_eq (as' (D.Q _ 2) (auw _))) aq.mT
def ui(dp:List aa)(vs:Array Value)(p:Fin dp.length):List Value:=.string ⟨⟨(dp[p.1]).name⟩⟩::(List.range 11).map λc=>vs.getD (p.1*12+(c+1)) undef
theorem UN(dp:List aa)(vs:Array Value)(p:Fin dp.length):(ui dp vs p).length=12:=rfl
theorem aeU(n:aa):(aE n).cells.length=12:=rfl
theorem Nw{dp:List aa}{vs:Array Value}(h:∀(j:Nat) d,(b1 (dp.map aE))[j]?=some d->∃ak,vs[j]?=some ak/\bh w C d ak/\ak.oneCell'=true)(p:Fin dp.length){c:Nat}(hc:c<12): ∃d ak,(aE dp[p.1]).cells[c]?=some d/\vs[p.1*12+c]?=some ak/\bh w C d ak/\ak.oneCell'=true/\(ui dp vs p)[c]?=some ak:=by(have Y:∀x∈dp.map aE,x.cells.length=12:=λx I=>ax9);(have I:(dp.map aE)[p.1]?=some (aE dp[p.1]):=by simp);obtain⟨d,N⟩:=lI (l:=(aE dp[p.1]).cells) (i:=c) (by rw[aeU];exact hc);obtain⟨ak,h1,A,Z⟩:=h (p.1*12+c) d (by rw[wz Y I hc];exact N);refine⟨d,ak,N,h1,A,Z,?_⟩;cases c with|zero =>(have:d=.O (dp[p.1]).name:=by cases N;rfl);subst this;rw[A.kM];rfl|succ c =>simp only[ui,List.getElem?_cons_succ,atA,List.getElem?_range (show c<11 by omega),auD];simp[auV,h1]
theorem aeV(dp:List aa)(ax:0<dp.length)(hlen:dp.length<1000000)(v:Value):
  cZ B 350 [.al v,.fn (.func 351) [] []] (aK [(2001,.row v (dp.map aE) 12 44)]) λd aO =>
   d=.bo []/\∃Am:List aa,Am.Perm dp/\(∀(i j:Nat) (hi:i<Am.length) (ad:j<Am.length),i<j->Op.bytesLess (Am[j]).name (Am[i]).name=false)/\aO=aK [(2001,.row v (Am.map aE) 12 44)]:=by
 refine⟨js Tryz.func350 rfl as3,λw C args Ft pX qQ hH ae=>?_⟩;obtain⟨aj,ae⟩:=ae
 match args,aj with
 |[a0,gT],_ =>
  have h0:=(ae 0 _ a0 rfl rfl).gb;obtain⟨fJ,hl,h1,A,Z⟩:=(ae 1 _ gT rfl rfl).u2;subst h0;have Nr:fJ=[]:=atm A.1.symm;have sL:hl=[]:=atm Z.1.symm;subst Nr sL h1;have dM:kj w C a0 (dp.map aE) 12 44:=hH.ch 2001 _ rfl;obtain⟨b,cap,vs,W,hc,hm,Y,F,fK,df,hcells⟩:=kj.pos dM (i:=0) (by simpa using ax);have hcap:0<cap:=by simp at hc;omega
  haveI:Inhabited (Fin dp.length):=⟨⟨0,ax⟩⟩
  have Nt:∀args w,(callFunc 351 args).run Tryz.prog w=.ok (.enter 351 args) w:=λargs w=>by
   obtain⟨fn,iz,rH,mb⟩:=js Tryz.func351 rfl as3;have oP:fn.body.isNone=false:=by cases F:fn.body<;>simp[F]at rH⊢
   simp only[callFunc,Sem.run_bind,run_program,Result.andThen_ok,iz,mb,oP,auk,auU,Sem.run_pure]
  have jN:(Array.ofFn (n:=dp.length) id).size=dp.length:=by simp
  have aeW:∀(p:Nat) (aw:p<dp.length),(Array.ofFn (n:=dp.length) id)[p]! = ⟨p,aw⟩:=λp aw=>by
   rw[getElem!_pos _ p (by simpa using aw)];simp
  have UO:∀(d:Array (Fin dp.length)) (j:Nat),j<d.size*12->(flatK (ui dp vs) 12 d)[j]! = ((ui dp vs d[j/12]!)[j%12]!):=λd j ad=>get_flatK _ _ _ _ ad
  have Ff:=AnyQ.slices_SortFunc Tryz.laysSlF0_f350 12 (λw=>by kernel_rfl) (λw=>by kernel_rfl) (ui dp vs) (UN dp vs) (λp ak an=>by
    obtain⟨c,Nx⟩:=atz.1 an;have aeX:c<12:=by have:=e9 Nx;rwa [UN]at this
    obtain⟨d,aeY,_,_,_,hF,sO⟩:=Nw hcells p aeX
    rw[sO]at Nx;cases Nx;exact hF)
   (λx y=>Lib.compareBytes (dp[x.1]).name (dp[y.1]).name) (UD λx:Fin dp.length=>(dp[x.1]).name) 351 #[] b 0 cap (Array.ofFn (n:=dp.length) id) w Nt
   (λm os aeO aeP x y=>aeH ⟨⟨(dp[x.1]).name⟩⟩ ⟨⟨(dp[y.1]).name⟩⟩ _ _ _ _ _ _ _ _ _ _ _ _ _ _ _ _ _ _ _ _ _ _ _)
   (λj ad=>by
    rw[size_flatK,jN]at ad;have aw:j/12<dp.length:=asZ
    obtain⟨d,ak,_,cL,_,_,sO⟩:=Nw hcells ⟨j/12,aw⟩ (c:=j%12) asZ;have gk:j/12*12+j%12=j:=asZ
    rw[gk]at cL;refine⟨?_,by simp[World.frozen?,F]⟩;rw[UO _ j (by rw[jN];exact ad),aeW _ aw];simp only[World.cell?,F,atT,id];rw[cL];congr 1
    simp[sO,List.getElem!_eq_getElem?_getD]) (hM F) (by rw[jN];omega)
  subst W;have hsz:(dp.map aE).length=(Array.ofFn (n:=dp.length) id).size:=by simp
  have e_:∀(xs:List D),aI.ef (.row (.slice (some ⟨b,0,none⟩) (dp.map aE).length cap) xs 12 44) b:=λxs=>⟨_,cap,rfl,hcap⟩;have uh:=hH.cN 2001 _ b rfl (e_ _);rw[hsz]at e_⊢;refine Ff.mono ?_;rintro e w' ⟨rfl,d',m,os,aw,hs,rfl⟩;obtain⟨hd,_,pw⟩:=aw;have aeZ:d'.size=dp.length:=by rw[hd,jN]
  have a1:da (λx=>x=b) w C (sortWorldK (ui dp vs) 12 w b 0 m d' os) C:=da.Iz id w C b 0 m (flatK (ui dp vs) 12 d') os df;have ae0:(sortWorldK (ui dp vs) 12 w b 0 m d' os).heap[b]?=some (.cells (putCells id 0 (flatK (ui dp vs) 12 d') vs) 44 (0,0)):=Iy id w b 0 m (flatK (ui dp vs) 12 d') os F
  have IF:∀{s o} (l:aI),aK [(2001,l)] s=some o->s=2001/\o=l:=λ{s o} l h=>by
   simp only[aK]at h
   cases h1:Nat.beq s 2001 with
   |true=>rw[h1]at h;cases h;exact⟨atx h1,rfl⟩
   |false=>rw[h1]at h;cases h
  have ae1:d'.toList.Perm (List.finRange dp.length):=by
   have bY:(d'.extract 0 (Array.ofFn (n:=dp.length) id).size).toList=d'.toList:=by rw[<-hd];simp
   have b':((Array.ofFn (n:=dp.length) id).extract 0 (Array.ofFn (n:=dp.length) id).size).toList=List.finRange dp.length:=by
    simp only[Array.extract_size,Array.toList_ofFn];rfl
   rw[bY,b']at pw;exact pw
  have ae2:(List.finRange dp.length).map (λp=>dp[p.1])=dp:=by
   apply auu;intro j;by_cases ad:j<dp.length
   ·simp[ad]
   simp[atj (Nat.le_of_not_lt ad)];omega
  refine⟨.tuple #[],.bo [],C,_,rfl,⟨rfl,d'.toList.map (λp=>dp[p.1]),?_,?_,rfl⟩,.bo [] [] rfl (λi d v N _=>by simp at N),?_,⟨λs o ah=>?_,λs bq o bL x a6 h1 A an cW=>?_,λs o x ah an=>?_⟩⟩
  ·have:=ae1.map λp=>dp[p.1]
   rwa [ae2]at this
  ·intro i j hi ad d6;have lQ:i<d'.size:=by simpa using hi
   have gk:j<d'.size:=by simpa using ad
   have eV:=hs i j (atq _) d6 (by rw[<-hd];exact gk);rw[Np λx:Fin dp.length=>(dp[x.1]).name]at eV;rw[getElem!_pos d' j gk,getElem!_pos d' i lQ]at eV;simpa using eV
  ·exact⟨a1.ext,a1.os,a1.tape,a1.output,λx I bM=>a1.iv x I λe=>by subst e;exact bM uh⟩
  ·obtain⟨rfl,rfl⟩:=IF _ ah;have fD:∀x∈(d'.toList.map (λp=>dp[p.1])).map aE,x.cells.length=12:=λx I=>by obtain⟨y,_,rfl⟩:=aty.1 I;rfl
   refine⟨some ⟨b,0,none⟩,cap,by simp[aeZ],by simp at hc⊢;omega,hm,fD,λdF gc=>⟨b,by cases gc;rfl,atY (hM F) a1.ext.size⟩,
    λ_=>⟨b,_,rfl,ae0,ax4,df,λj d N=>?_⟩⟩
   have ad:j<d'.size*12:=by have:=e9 N;rw[pN fD]at this;simpa using this
   have G:j/12<d'.size:=asZ
   have Al:j<vs.size:=by rw[fK];simp at hc;omega
   have I:((d'.toList.map (λp=>dp[p.1])).map aE)[j/12]?=some (aE dp[(d'[j/12]).1]):=by simp[G]
   have UP:j/12*12+j%12=j:=asZ
   have r3:=wz fD I (j:=j%12) asZ;rw[UP,N]at r3;obtain⟨d2,ak,bc,cL,eV,fX,hF⟩:=Nw hcells d'[j/12] (c:=j%12) asZ;rw[bc]at r3;cases r3
   refine⟨ak,?_,eV.ext a1.ext,fX⟩;simp only[putCells,av1,auH Al,auD,atq,true_and,atT,size_flatK,ad,aum,Nat.sub_zero,id];rw[UO d' j ad,getElem!_pos d' _ G];simp[hF,List.getElem!_eq_getElem?_getD]
  ·obtain⟨rfl,rfl⟩:=IF _ h1;obtain⟨rfl,rfl⟩:=IF _ A;exact a6 rfl
  obtain⟨rfl,rfl⟩:=IF _ ah;obtain⟨hX,u',fX,_⟩:=an;have:=pc fX;subst this
  exact .inl uh
variable{i j:Nat}
theorem r'{l:List aa}(h:gM l)(d6:i<j)(ad:j<l.length):Op.bytesLess (l[i]' asZ).name (l[j]).name=true:=by have:=aeG h d6 ad;simpa[List.getD,ad,show i<l.length by omega]using this
theorem ae3{l:List aa}(h:gM l):l.Pairwise λa b=>Op.bytesLess b.name a.name=false :=
 aup.2 λi j hi ad d6=>E' (r' h d6 ad)
theorem Ny{l i7:List aa}(h:gM l)(aw:i7.Perm l)(hs:∀(i j:Nat) (hi:i<i7.length) (ad:j<i7.length),i<j->Op.bytesLess (i7[j]).name (i7[i]).name=false):i7=l:=by refine avG (le:=λa b=>Op.bytesLess b.name a.name=false) (λa b ha F h1 A=>?_) (aup.2 λi j hi ad d6=>hs i j hi ad d6) (ae3 h) aw;have mb:=w2 _ _ A h1;obtain⟨i,hi,rfl⟩:=atP.1 (aw.subset ha);obtain⟨j,ad,rfl⟩:=atP.1 F;rcases avD i j with e|e|e;exact absurd mb (s6 (r' h e ad));subst e;rfl;exact absurd mb.symm (s6 (r' h e hi))
variable{J:List aa}
theorem ae4(h:gM J){l:List (Fin J.length)}(aw:l.Perm (List.finRange J.length))(hs:∀(i j:Nat) (hi:i<l.length) (ad:j<l.length),i<j->Op.bytesLess (J[l[j].1]).name (J[l[i].1]).name=false):l=List.finRange J.length:=by refine avG (le:=λa b=>Op.bytesLess (J[b.1]).name (J[a.1]).name=false) (λa b ha F h1 A=>?_) (aup.2 λi j hi ad d6=>hs i j hi ad d6) ((List.pairwise_lt_finRange _).imp λ{a b} nT=>E' (r' h nT b.2)) aw;have mb:=w2 _ _ A h1;rcases avD a.1 b.1 with e|e|e;exact absurd mb (s6 (r' h e b.2));exact Fin.ext e;exact absurd mb.symm (s6 (r' h e a.2))
def eh(n:Nat):List D:=(List.range n).map λi=>u (i:Nat)
theorem Nz(n:Nat):(List.finRange n).map (λx=>encI x.1)=eh n:=by apply auu;intro j;by_cases ad:j<n;simp[eh,encI,ad];rw[atj as0,atj (by simp[eh];omega)]
theorem UQ(J:List aa)(h:gM J)(hlen:J.length<1000000)(dX:Nat)(v:Value): cZ B 253 [.al v,.fn (.func 254) [] [.box 2000 dX 0]] (aK [(2001,.row v (eh J.length) 1 3),(2000,.box dX [.Q .none 12 (J.map enc)])]) λd aO => d=.bo []/\aO=aK [(2001,.row v (eh J.length) 1 3),(2000,.box dX [.Q .none 12 (J.map enc)])]:=by by_cases h0:0<J.length;have hc:=UF (B:=B) J h0 hlen dX v (List.finRange J.length) (by simpa using h0) (by simpa using hlen);rw[Nz]at hc;refine hc.mono ?_;rintro d aO ⟨rfl,kQ,aw,hs,rfl⟩;rw[ae4 h aw hs,Nz];exact⟨rfl,rfl⟩;(have ax:J.length=0:=by omega);rw[ax];exact UE v _ _
variable{f:FuncId}{ds:List D}{a7:D->bF->Prop}{k:Nat}
theorem _root_.Go.bS.c7.UR{H:bF}{s:Nat}{o:aI}(h:H s=some o)(hc:cZ B f ds (aK [(k,o)]) a7):cZ B f ds (gC H [(k,s)]) a7:=aw1
theorem ae5:∀(l:List Int),l.length<=3->l.Pairwise (·<=·)->(Lib.compact l).Pairwise (·<·)/\∀x,x∈Lib.compact l↔x∈l
 |[],_,_=>by simp[Lib.compact,Lib.compactUpTo]
 |[a],_,_=>by simp[Lib.compact,Lib.compactUpTo,Lib.keeps,auO]
 |[a,b],_,h=>by simp at h;by_cases h1:a=b;subst h1;simp[Lib.compact,Lib.compactUpTo,Lib.keeps,auO];have:¬b=a:=λe=>h1 e.symm;simp[Lib.compact,Lib.compactUpTo,Lib.keeps,auO,aui,h1,this];omega
 |[a,b,c],_,h=>by simp at h;by_cases h1:b=a<;>by_cases A:c=b;subst h1;subst A;simp[Lib.compact,Lib.compactUpTo,Lib.keeps,auO,aui];subst h1;simp[Lib.compact,Lib.compactUpTo,Lib.keeps,auO,aui,A];omega;subst A;simp[Lib.compact,Lib.compactUpTo,Lib.keeps,auO,aui,h1];omega;simp[Lib.compact,Lib.compactUpTo,Lib.keeps,auO,aui,h1,A];omega
 |_::_::_::_::_,h,_=>by simp at h
theorem ae6{a b:List Int}(ha:a.Pairwise (·<·))(F:b.Pairwise (·<·))(h:∀x,x∈a↔x∈b):a=b:=by
 have IG:a.Nodup:=ha.imp λh=>by omega
 have iF:b.Nodup:=F.imp λh=>by omega
 exact avG (le:=λx y:Int=>x<y) (λx y _ _ h1 A=>by omega) ha F ((List.perm_ext_iff_of_nodup IG iF).2 h)
theorem ae7(l:List Int):(w4 l).Pairwise (·<=·):=by have:=avN (le:=λx y:Int=>decide (x<=y)) (λx y V h1 A=>by simp only[atS]at*;omega) (λx y=>by simp only[auv,atS];omega) l;exact this.imp λh=>by simpa using h
theorem ae8(l:List Int)(x:Int):x∈w4 l↔x∈l:=(av_ l _).mem_iff
def qk(S L:Int):List Int:=[S+256,L-256,L]
def Cj(S L k:Int):Bool:=bif decide (S<=k)then decide (k<=L)else false
def ql(S L:Int)(i:Nat):List Int:=((qk S L).take i).filter (Cj S L)
theorem US(S L:Int)(i:Nat):(ql S L i).length<=3:=by have h1:=atN (Cj S L) ((qk S L).take i);rw[atv]at h1;have:(qk S L).length=3:=rfl;have A:(ql S L i).length<=_:=h1;omega
theorem ae9(S L:Int)(h:i<(qk S L).length):ql S L (i+1)=ql S L i++(if Cj S L ((qk S L)[i]'h)=true then[(qk S L)[i]'h]else[]):=by rw[ql,atc h,auy,<-ql,aui,List.filter_nil]
theorem ae_(S L:Int)(n:Nat):(Cd S L n).Pairwise (·<·):=by rw[Cd];refine List.Pairwise.sublist List.filter_sublist ?_;rw[au2];exact(List.pairwise_lt_range).imp λh=>by omega
theorem ae'{S C:Int}(h:yv S C=true):Lib.compact (w4 (ql S (S+C-1) 3))=yw S C:=by obtain⟨h1,A,Z,aD⟩:=Nb.1 h;obtain⟨bc,cL⟩:=ae5 (w4 (ql S (S+C-1) 3)) (by rw[Fh];exact US _ _ _) (ae7 _);rw[yw,as_ h];refine ae6 bc (ae_ _ _ _) λx=>?_;rw[cL,ae8,ql,Cd,at2,at2,aty];(have Y:Cj S (S+C-1) x=true↔S<=x/\x<=S+C-1:=by unfold Cj;cases eV:decide (S<=x)<;>simp at eV<;>simp<;>omega);(have hc:Iv S (S+C-1) x=true↔x=S+256\/x=S+C-1-256\/x=S+C-1:=by unfold Iv;cases eV:x==S+256<;>cases fX:x==S+C-1-256<;>simp at eV fX<;>simp<;>omega);rw[Y,hc];(have hm:x∈(qk S (S+C-1)).take 3↔x=S+256\/x=S+C-1-256\/x=S+C-1:=by simp[qk]);rw[hm];constructor;rintro⟨eV,fX,hF⟩;exact⟨⟨(x-S).toNat,auJ.2 asZ,by omega⟩,eV⟩;rintro⟨⟨j,ad,rfl⟩,eV⟩;have:=auJ.1 ad;exact⟨eV,by omega,by omega⟩
def NA(S C:Int):Bool:=bif (bif (bif decide (S<0)then true else decide (C<1))then true else decide (4096<S))then true else decide (4096-S<C)
theorem UT(S C:Int):NA S C=!yv S C:=by unfold NA yv;cases h1:decide (S<0)<;>cases A:decide (C<1)<;>cases Z:decide (4096<S)<;>cases aD:decide (4096-S<C)<;>simp at h1 A Z aD<;>simp<;>omega
theorem afa(S C:Int):aU B 16 [vx (S,C),.bool false] (.Q .none 1 (bn (yw S C))):=by refine bA Tryz.func16 Tryz.ntmps16 λU=>?_;refine ck ?_;intro cg;refine p8 ?_;refine iD ?_;refine ie ?_;refine iD ?_;refine ie ?_;refine iD ?_;refine iD ?_;refine mY ?_;refine .inl ⟨λh=>by simp only[dg];revert h;cases h1:decide (S<0)<;>cases A:decide (C<1)<;>cases Z:decide (4096<S)<;>simp<;>simp at h1 A Z<;>omega,?_⟩;refine go ?_;refine aJ (NA S C) rfl ?_ ?_<;>intro hc;refine go ?_;(have h:¬yv S C=true:=by rw[UT]at hc;simpa using hc);rw[yw,as9 h];exact aq.nil;apply cr;(have h:yv S C=true:=by rw[UT]at hc;simpa using hc);obtain⟨h1,A,Z,aD⟩:=Nb.1 h;apply b2;(conv=>whnf);refine c1 ?_;apply b2;(conv=>whnf);refine c1 ?_;refine X.lL (α:=Unit) (λx=>[(2,.box 2 cg 0),(5,u (S+C-1)),(6,.Q .none 1 (bn (qk S (S+C-1))))]) (λx=>[(2,.box cg [u S,u C])]) ?_ ?_;apply b2;refine aJ false rfl ?_ ?_<;>intro hc;cases hc;refine go ?_;exact⟨(),[(2,2)],⟨E,E,aq.jl _,ai⟩,rfl,bb⟩;rintro⟨⟩;apply b2;refine p7 ?_;refine X.p2 1000 1 3 ?_;refine go ?_;refine X.ec (α:={i:Nat // i<=3}×Option Addr×Nat×Nat) (λx=>[(2,.box 2 cg 0),(5,u (S+C-1)),(7,.al (.slice x.2.1 x.2.2.1 x.2.2.2)),(47,.Q .none 1 (bn (qk S (S+C-1)))),(48,u 3),(49,u x.1.1)]) (λx=>[(2,.box cg [u S,u C]),(1000,.row (.slice x.2.1 x.2.2.1 x.2.2.2) (bn (ql S (S+C-1) x.1.1)) 1 3)]) (λx=>3-x.1.1) (⟨0,by omega⟩,none,0,0) [(2,2),(1000,1000)] ⟨⟨E,E,aq.qR,E,E,E,ai⟩,rfl,bb⟩ ?_;rintro⟨⟨i,hi⟩,bQ,cx,cap⟩;dsimp only at hi⊢;have gB:=US S (S+C-1) i;have Ck:(qk S (S+C-1)).length=3:=rfl;refine go ?_;refine aJ (decide ((i:Int)<3)) rfl ?_ ?_<;>intro hc;refine go ?_;(have aH:i<3:=by have:=atw hc;omega);have IH:i<(qk S (S+C-1)).length:=aH;have cX:=ae9 S (S+C-1) IH;(have h4:(bn (qk S (S+C-1)))[i]?=some (.int .i64 ((qk S (S+C-1))[i]'(IH))):=by rw[bn,atA,ata IH];rfl);generalize(qk S (S+C-1))[i]'(IH)=hJ at*;generalize aq2:ql S (S+C-1) i=NB at*;(have fr:(bn NB).length=NB.length:=by simp[bn]);refine go ?_;refine⟨λ_=>by simp[bn];omega,?_⟩;refine go ?_;refine⟨u hJ,λ_=>by rw[atE];exact h4,?_⟩;refine go ?_;refine aJ (Cj S (S+C-1) hJ) rfl ?_ ?_<;>intro hc;refine go ?_;refine .inr (af.oJ aM 1000 rfl rfl rfl as6 rfl rfl rfl (avq) (by show(_+1)*8<=_;omega) (by show _+1<=_;omega) λII jv IJ=>?_);refine go ?_;rw[as_ hc]at cX;(have ao:bn NB++[u hJ]=bn (ql S (S+C-1) (i+1)):=by rw[cX];simp[bn]);exact⟨(⟨i+1,by omega⟩,II,jv,IJ),[(2,2),(1000,65)],by show 3-(i+1)<3-i;omega,ar,rfl,rfl,rfl,rfl,as' (λV=>some (aI.row (.slice II jv IJ) V 1 3)) ao,ai⟩;refine go ?_;rw[as9 (by rw[hc];decide),aua]at cX;exact⟨(⟨i+1,by omega⟩,bQ,cx,cap),[(2,2),(1000,1000)],by show 3-(i+1)<3-i;omega,ar,rfl,rfl,rfl,rfl,as' (λV=>some (aI.row (.slice bQ cx cap) (bn V) 1 3)) cX.symm,ai⟩;(have cd:i=3:=by have:=atl hc;omega);subst cd;refine X.BY 1000 rfl λa3 aq3 W pk x5=>?_;simp only[Value.slice.injEq]at W;obtain⟨rfl,sH,rfl⟩:=W;(have Fi:cx=(ql S (S+C-1) 3).length:=by rw[sH];simp[bn]);refine go ?_;refine .inr (af.call rfl [.al (.slice bQ cx cap)] [(2000,1000)] (c7.UR rfl (aeR (ql S (S+C-1) 3) bQ cx cap Fi asZ)) rfl ar ?_);rintro d aO ⟨rfl,rfl⟩;refine⟨_,E,?_⟩;refine qU ?_;refine .inr (af.call rfl [.al (.slice bQ cx cap)] [(2000,1000)] (c7.UR rfl (aeT (w4 (ql S (S+C-1) 3)) bQ cx cap (by rw[Fh];exact Fi) (by rw[Fh];omega))) rfl ar ?_);rintro d aO ⟨m,hm,rfl,rfl⟩;rw[ae' h];refine rO ?_;refine X.fb [(4,.al (.slice bQ m cap))] [(1000,.row (.slice bQ m cap) (bn (yw S C)) 1 3)] [(1000,1000)] ⟨ar,rfl,bb⟩ ?_;refine X.vm 1000 4 rfl ?_;refine go ?_;exact E
theorem UU(m:fg)(S C:Int):aU B 39 [hP m,vx (S,C)] (.Q .none 1 (bn (r7 m S C))):=by refine bA Tryz.func39 Tryz.ntmps39 λU=>?_;refine go ?_;intro cg;refine go ?_;intro eG;refine go ?_;refine bp (r4 m.fO 3 as2) ?_;refine aJ (!kC m.fO 3) rfl ?_ ?_<;>intro hc;refine go ?_;rw[r7,as9 (by simpa using hc)];exact aq.nil;refine go ?_;refine bp (afa S C) ?_;rw[r7,as_ (by simpa using hc)];exact E
structure cE where
 path:as8
 start:Int
 len:Int
def a_(f:cE):D:=.agg [.O f.path,u f.start,u f.len]
structure qm where
 S:Int
 C:Int
 iS:Int
 iC:Int
 kind:Int
 opn:Bool
 uS:Int
 uC:Int
 recg:Int
 w5:Int
 pC:Int
 qn:List Int
 commit:Int
 spS:Int
 spC:Int
 files:List cE
def jU(l:qm):D:=.agg [u l.S,u l.C,u l.iS,u l.iC,u l.kind,.bool l.opn,u l.uS,u l.uC,u l.recg,u l.w5,u l.pC,.Q .none 1 (bn l.qn),u l.commit,u l.spS,u l.spC,.Q .none 3 (l.files.map a_)]
theorem NC{l:List cE}(h:i<l.length):(l.map a_)[((i:Int)).toNat]?=some (a_ l[i]):=by simp[h]
theorem UV{l:List Int}(h:i<l.length):(bn l)[((i:Int)).toNat]?=some (.int .i64 l[i]):=by simp[bn,h]
theorem afb(m:fg)(S C:Int):(r7 m S C).length<=C.toNat:=by unfold r7;split;unfold yw;split;exact ad' _ _ _;simp;simp
theorem afc{m:fg}{S C b:Int}(h:b∈r7 m S C):S<=b/\b<=8192:=by unfold r7 at h;split at h;unfold yw at h;split at h;rename_i h1 A;obtain⟨Z,aD,bc,cL⟩:=Nb.1 A;rw[Cd,at2,aty]at h;obtain⟨⟨j,ad,rfl⟩,_⟩:=h;have:=auJ.1 ad;omega;cases h;cases h
end Go.bS.cj

namespace Go.bS.cj
open Go Go.Proofs Go.RowKit Go.ChangeShapes Go.Deep Go.WideShapes Go.ChangeAt
open YtfnpcdbnoggloaaGreatDoor (Rows.uptoBulk Rows.uptoBulkAll)
variable{H:Type}{ex:TypeId×Value->H}{bl:World}
abbrev he(d:DataW H):Nat:=YtfnpcdbnoggloaaGreatDoor.Rows.uptoBulk d
abbrev An(d:List (DataW H)):Nat:=YtfnpcdbnoggloaaGreatDoor.Rows.uptoBulkAll d
theorem UW{α:Type}{m:α->Nat}{c:Nat}:∀{l:List α} {ds:List (DataW H)},ds.length=l.length->(∀(i:Nat) a y,l[i]?=some a->ds[i]?=some y->m a<=c*he y)->(l.map m).sum<=c*An ds
 |[],[],_,_=>by simp
 |a::l,y::ds,aj,h=>by have h1:=h 0 a y rfl rfl;have A:=UW (l:=l) (ds:=ds) (by simpa using aj) λi a y Z aD=>h (i+1) a y (by simpa using Z) (by simpa using aD);(have Z:c*An (y::ds)=c*he y+c*An ds:=by simp only[An,he,YtfnpcdbnoggloaaGreatDoor.Rows.uptoBulkAll,Nat.mul_add]);rw[Z,atG,awo];omega
variable{α:Type}
theorem IK{m:α->Nat}{c:Nat}{l:List α}{d:DataW H}(h:Sm (λa y=>m a<=c*he y) l d):(l.map m).sum<=c*he d:=by rcases h with⟨rfl,rfl⟩|⟨ds,p3,rfl,aj,aV⟩;simp;have:=UW aj aV;(have Z:c*he (.slice ds p3)=c*An ds+c*An p3+c*1:=by simp only[An,he,YtfnpcdbnoggloaaGreatDoor.Rows.uptoBulk,Nat.mul_add]);rw[Z];omega
theorem UX:∀l:List nu,lT l=(l.map λs=>2+s.name.length+s.target.length).sum
 |[]=>rfl
 |s::r=>by simp only[lT,atG,awo,UX r]
theorem UY:∀l:List aa,eI l=(l.map λn=>2*n.name.length+2+aB n).sum
 |[]=>by simp[eI]
 |s::r=>by simp only[eI,atG,awo,UY r]
theorem afd(n:Nat):e0 ex Tryz.prog bl n 147 c6 (λs d=>2+s.name.length+s.target.length<=1*he d):=by intro aA x h;obtain⟨xs,m,rfl,I,kn,hL,M⟩:=Ed Tryz.underlying147 as4 as4 h;match aA,kn,xs,hL with|[h6,ev],_,[nB,oh],_ =>obtain⟨gL,gg,lO,_⟩:=e0.O (enc:=ex) (bl:=bl) (n:=m) Tryz.underlying9 [h6] nB (M 0 _ h6 nB rfl rfl rfl);obtain⟨eW,kD,bY,_⟩:=e0.O (enc:=ex) (bl:=bl) (n:=m) Tryz.underlying9 [ev] oh (M 1 _ ev oh rfl rfl rfl);refine⟨⟨gL,eW⟩,.cons gg.head (.cons kD.head (.nil _ _)),?_⟩;rw[I];simp only[atG,auT,lO,bY,he,YtfnpcdbnoggloaaGreatDoor.Rows.uptoBulk,YtfnpcdbnoggloaaGreatDoor.Rows.uptoBulkAll];omega
theorem UZ:∀(bC n:Nat),n<bC->e0 ex Tryz.prog bl n 44 enc (λs d=>2*s.name.length+2+aB s<=2*he d)
 |0,n,ax=>absurd ax (auI _)
 |bC+1,n,ax=>by intro aA x h;obtain⟨xs,m,rfl,I,kn,hL,M⟩:=Ed Tryz.underlying44 as4 as4 h;match aA,kn,xs,hL with|[h6,ev,dC,l1,oi,px,sa,sb,vF,vG,my,vH],_,[nB,oh,qo,s7,uj,uk,Fj,Fk,U0,U1,U2,U3],_ =>obtain⟨gL,gg,lO,_⟩:=e0.O (enc:=ex) (bl:=bl) (n:=m) Tryz.underlying9 [h6] nB (M 0 _ h6 nB rfl rfl rfl);obtain⟨eW,kD,bY,_⟩:=e0.int (enc:=ex) (bl:=bl) (n:=m) Tryz.underlying3 [ev] oh (M 1 _ ev oh rfl rfl rfl);obtain⟨gl,lp,b',_⟩:=e0.O (enc:=ex) (bl:=bl) (n:=m) Tryz.underlying9 [dC] qo (M 2 _ dC qo rfl rfl rfl);obtain⟨h7,m_,kq,_⟩:=e0.O (enc:=ex) (bl:=bl) (n:=m) Tryz.underlying9 [l1] s7 (M 3 _ l1 s7 rfl rfl rfl);obtain⟨Ao,oS,zQ,_⟩:=e0.int (enc:=ex) (bl:=bl) (n:=m) Tryz.underlying3 [oi] uj (M 4 _ oi uj rfl rfl rfl);obtain⟨Ap,vI,BI,_⟩:=e0.int (enc:=ex) (bl:=bl) (n:=m) Tryz.underlying3 [px] uk (M 5 _ px uk rfl rfl rfl);obtain⟨Fl,Cl,Ek,_⟩:=e0.int (enc:=ex) (bl:=bl) (n:=m) Tryz.underlying3 [sa] Fj (M 6 _ sa Fj rfl rfl rfl);obtain⟨Fm,Cm,Fo,_⟩:=e0.int (enc:=ex) (bl:=bl) (n:=m) Tryz.underlying3 [sb] Fk (M 7 _ sb Fk rfl rfl rfl);obtain⟨ND,afe,aff,_⟩:=e0.int (enc:=ex) (bl:=bl) (n:=m) Tryz.underlying3 [vF] U0 (M 8 _ vF U0 rfl rfl rfl);obtain⟨NE,afg,afh,_⟩:=e0.int (enc:=ex) (bl:=bl) (n:=m) Tryz.underlying3 [vG] U1 (M 9 _ vG U1 rfl rfl rfl);obtain⟨ag,afi,afj⟩:=e0.slice (enc:=ex) (bl:=bl) (iY:=m) Tryz.underlying41 (k:=12) (f:=enc) as4 asZ (λa=>by rw[rQ];exact⟨rfl,rfl⟩) (λwG tW=>UZ bC wG asZ) [my] U2 (M 10 _ my U2 rfl rfl rfl);obtain⟨cC,afk,TL⟩:=e0.slice (enc:=ex) (bl:=bl) (iY:=m) Tryz.underlying42 (k:=2) (f:=c6) as4 asZ (λa=>⟨rfl,rfl⟩) (λwG _=>afd wG) [vH] U3 (M 11 _ vH U3 rfl rfl rfl);refine⟨⟨gL,eW,gl,h7,Ao,Ap,Fl,Fm,ND,NE,ag,cC⟩,?_,?_⟩;rw[rQ];exact .cons gg.head (.cons kD.head (.cons lp.head (.cons m_.head (.cons oS.head (.cons vI.head (.cons Cl.head (.cons Cm.head (.cons afe.head (.cons afg.head (.cons afi.head (.cons afk.head (.nil _ _))))))))))));have sO:=IK afj;have rT:=IK TL;rw[<-UY]at sO;rw[<-UX]at rT;rw[I];dsimp only;rw[lU];simp only[atG,auT,lO,bY,b',kq,zQ,BI,Ek,Fo,aff,afh,he,YtfnpcdbnoggloaaGreatDoor.Rows.uptoBulk,YtfnpcdbnoggloaaGreatDoor.Rows.uptoBulkAll]at sO rT⊢;omega
variable{v:Value}
theorem U4{d:DataW H}{p:List MemPlace}{base:Nat}(W:Value.okWide Tryz.prog bl .any base 44 v)(h:DataW.Trod ex Tryz.prog bl 0 (λ_=>true) true 44 v d p): ∃n:aa,bh bl (tR bl) (aE n) v/\2*n.name.length+2+aB n<=2*he d:=by obtain⟨iY,M⟩:=h;obtain⟨aA,rfl,_⟩:=okWide_struct Tryz.underlying44 W;obtain⟨n,ae,aV⟩:=UZ (ex:=ex) (bl:=bl) _ iY (atX _) _ _ M;rw[rQ]at ae;obtain⟨l⟩:=aA;exact⟨n,.agg _ _ ae.1 ae.2,aV⟩
variable{ds:List D}
theorem U5{f:Nat}{args:Array Value}(h:mO Tryz.prog bl f ds (.bool true))(ae:db bl (tR bl) ds args.toList): Calls Tryz.prog f args bl λe w'=>e=.returned (.bool true)/\Below bl.heap.size bl w':=by obtain⟨l⟩:=args;refine(h.2 bl (tR bl) l (Below.refl _ _) ae).mono ?_;rintro e w' ⟨v,aQ,rfl,W,hs⟩;rw[W.hW];exact⟨rfl,pP.step (Below.refl _ _) hs λ_ h=>h.elim⟩
theorem afl:laidOutB Tryz.prog=true:=by kernel_rfl
theorem NF{h5:World}(F:Below bl.heap.size bl h5){p3:Nat->Bool}:∀{Cn:List TypeId} {vs:List Value} {ds:List (DataW H)} {bT:List MemPlace},(∀t∈Cn,Tryz.prog.readableRec t=true/\t<Tryz.prog.types.size)->DataW.TrodAll ex Tryz.prog bl 0 (λ_=>true) true Cn vs ds bT->(∀x∈bT,x.block<bl.heap.size)->(∀x∈bT,p3 x.block=true)->DataW.TrodAll ex Tryz.prog h5 0 p3 true Cn vs ds bT
 |[],[],[],_,_,h,_,_=>h
 |t::Cn,v::vs,d::ds,_,au,⟨p,q,h1,A,e⟩,bi,mh=>by subst e;exact⟨p,q,acn afl (au t atk).1 (au t atk).2 h1 F (λx I=>bi x (by simp[I])) p3 (λx I=>mh x (by simp[I])),NF F (λt h=>au t (ato _ h)) A (λx I=>bi x (by simp[I])) (λx I=>mh x (by simp[I])),rfl⟩
def NG:List (String×DataW Unit):=YtfnpcdbnoggloaaGreatDoor.Rows.layoutSpansRow.laid
theorem U6(aW:laidMetH Tryz.prog NG bl)(hA:bl.ShapedOpen Tryz.prog):dc bl:=by have NH:laidMet Tryz.prog NG bl:=aW;refine⟨utf8Tabs_of_reads (ρ:=Tryz.lays260_ren) Tryz.lays260 ⟨by kernel_rfl,by kernel_rfl,by kernel_rfl,by kernel_rfl,by kernel_rfl,by kernel_rfl,by kernel_rfl⟩ (Lib.laidMet.reads NH (.tail _ (.tail _ (.tail _ (.tail _ (.head _)))))) (Lib.laidMet.reads NH (.tail _ (.tail _ (.tail _ (.head _))))),?_,?_⟩;obtain⟨h1,_⟩:=hA;obtain⟨aA,hcs,hsz,dM⟩:=h1 0 #[.int .i64 0] 3 as3 as4;obtain⟨Cn,Ui,_,ga⟩:=dM as4;(have afm:Cn=[3]:=by(have:Tryz.prog.cellTypes Tryz.prog.depth 3=some [3]:=by kernel_rfl);exact at3 (Ui.symm.trans this));subst afm;have h0:aA[0]?=some (aA[0]'(by rw[hsz];decide)):=auH _;obtain⟨ak,an,cD⟩:=ga 0 _ h0;(have cW:ak=3:=by simpa using an.symm);subst cW;(have hc:bl.cell? ⟨0,0,none⟩=some (aA[0]'(by rw[hsz];decide)):=by simp only[World.cell?,hcs];simpa using h0);generalize aA[0]'(by rw[hsz];decide)=v at cD hc;unfold Cell.ok at cD;rw[Tryz.underlying3]at cD;(cases v with|int k n=>obtain⟨rfl,_⟩:=cD;exact⟨n,hc⟩|_=>exact cD.elim);exact Lib.tabIs_of_head (rest:=_) (g:=3) (t:=423) (e:=190) (n:=20) as4 as4 as4 as4 as4 as4 NH.tail.tail
structure afn where
 name:as8
 set:as8
 oc:as8
 od:as8
 kY:as8
 Ca:Int
 Cb:Int
 fh:Int
def afo(v:afn):D:=.agg [.O v.name,.O v.set,.O v.oc,.O v.od,.O v.kY,.int .i64 v.Ca,.int .i64 v.Cb,.int .i64 v.fh]
theorem U7(d:DataW H):1<=he d:=by cases d with|lit l=>cases l<;>simp[he,YtfnpcdbnoggloaaGreatDoor.Rows.uptoBulk]|_=>simp[he,YtfnpcdbnoggloaaGreatDoor.Rows.uptoBulk]
theorem afp(n:Nat):e0 ex Tryz.prog bl n 140 pp (λ_ d=>2<=1*he d):=by intro aA x h;obtain⟨xs,m,rfl,I,kn,hL,M⟩:=Ed Tryz.underlying140 as4 as4 h;match aA,kn,xs,hL with|[h6,ev,dC,l1,oi,px],_,[nB,oh,qo,s7,uj,uk],_ =>obtain⟨gL,gg,_⟩:=e0.O (enc:=ex) (bl:=bl) (n:=m) Tryz.underlying9 [h6] nB (M 0 _ h6 nB rfl rfl rfl);obtain⟨eW,kD,_⟩:=e0.int (enc:=ex) (bl:=bl) (n:=m) Tryz.underlying3 [ev] oh (M 1 _ ev oh rfl rfl rfl);obtain⟨gl,lp,_⟩:=e0.int (enc:=ex) (bl:=bl) (n:=m) Tryz.underlying3 [dC] qo (M 2 _ dC qo rfl rfl rfl);obtain⟨h7,m_,_⟩:=e0.int (enc:=ex) (bl:=bl) (n:=m) Tryz.underlying3 [l1] s7 (M 3 _ l1 s7 rfl rfl rfl);obtain⟨Ao,oS,_⟩:=e0.int (enc:=ex) (bl:=bl) (n:=m) Tryz.underlying3 [oi] uj (M 4 _ oi uj rfl rfl rfl);obtain⟨Ap,vI,_⟩:=e0.bool (enc:=ex) (bl:=bl) (n:=m) Tryz.underlying4 [px] uk (M 5 _ px uk rfl rfl rfl);refine⟨⟨gL,eW,gl,h7,Ao,Ap⟩,.cons gg.head (.cons kD.head (.cons lp.head (.cons m_.head (.cons oS.head (.cons vI.head (.nil _ _)))))),?_⟩;rw[I];simp only[he,YtfnpcdbnoggloaaGreatDoor.Rows.uptoBulk,atG,YtfnpcdbnoggloaaGreatDoor.Rows.uptoBulkAll];have bc:=U7 nB.1;simp only[he]at bc;omega
theorem afq(n:Nat):e0 ex Tryz.prog bl n 31 afo (λv d=>v.name.length+v.set.length+v.oc.length+v.od.length+v.kY.length<=he d):=by intro aA x h;obtain⟨xs,m,rfl,I,kn,hL,M⟩:=Ed Tryz.underlying31 as4 as4 h;match aA,kn,xs,hL with|[h6,ev,dC,l1,oi,px,sa,sb],_,[nB,oh,qo,s7,uj,uk,Fj,Fk],_ =>obtain⟨gL,gg,lO,_⟩:=e0.O (enc:=ex) (bl:=bl) (n:=m) Tryz.underlying9 [h6] nB (M 0 _ h6 nB rfl rfl rfl);obtain⟨eW,kD,bY,_⟩:=e0.O (enc:=ex) (bl:=bl) (n:=m) Tryz.underlying9 [ev] oh (M 1 _ ev oh rfl rfl rfl);obtain⟨gl,lp,b',_⟩:=e0.O (enc:=ex) (bl:=bl) (n:=m) Tryz.underlying9 [dC] qo (M 2 _ dC qo rfl rfl rfl);obtain⟨h7,m_,kq,_⟩:=e0.O (enc:=ex) (bl:=bl) (n:=m) Tryz.underlying9 [l1] s7 (M 3 _ l1 s7 rfl rfl rfl);obtain⟨Ao,oS,zQ,_⟩:=e0.O (enc:=ex) (bl:=bl) (n:=m) Tryz.underlying9 [oi] uj (M 4 _ oi uj rfl rfl rfl);obtain⟨Ap,vI,BI,_⟩:=e0.int (enc:=ex) (bl:=bl) (n:=m) Tryz.underlying3 [px] uk (M 5 _ px uk rfl rfl rfl);obtain⟨Fl,Cl,Ek,_⟩:=e0.int (enc:=ex) (bl:=bl) (n:=m) Tryz.underlying3 [sa] Fj (M 6 _ sa Fj rfl rfl rfl);obtain⟨Fm,Cm,Fo,_⟩:=e0.int (enc:=ex) (bl:=bl) (n:=m) Tryz.underlying3 [sb] Fk (M 7 _ sb Fk rfl rfl rfl);refine⟨⟨gL,eW,gl,h7,Ao,Ap,Fl,Fm⟩,.cons gg.head (.cons kD.head (.cons lp.head (.cons m_.head (.cons oS.head (.cons vI.head (.cons Cl.head (.cons Cm.head (.nil _ _)))))))),?_⟩;rw[I];simp only[atG,auT,lO,bY,b',kq,zQ,BI,Ek,Fo,he,YtfnpcdbnoggloaaGreatDoor.Rows.uptoBulk,YtfnpcdbnoggloaaGreatDoor.Rows.uptoBulkAll];omega
theorem afr(n:Nat):e0 ex Tryz.prog bl n 34 hP (λm d=>m.name.length+m.set.length+m.oc.length+m.od.length+m.kY.length<=he d/\2*m.gh.length<=he d):=by intro aA x h;obtain⟨xs,m,rfl,rfl,aj,hL,M⟩:=DataW.trod_struct Tryz.underlying34 h;(have df:Tryz.prog.cellsOf 34=13:=by kernel_rfl);(have afs:Tryz.prog.cellsOf 31=8:=by kernel_rfl);(have g3:Tryz.prog.cellsOf 3=1:=by kernel_rfl);(have aft:Tryz.prog.cellsOf 32=1:=by kernel_rfl);(have g4:Tryz.prog.cellsOf 4=1:=by kernel_rfl);match aA,aj.trans df,xs,hL with|[h6,ev,dC,l1,oi,px,sa,sb,vF,vG,my,vH,Aq],_,[nB,oh,qo,s7,uj,uk],_ =>have h0:DataW.trod ex Tryz.prog bl 0 (λ_=>true) true m 31 (List.take (Tryz.prog.cellsOf 31) (List.drop 0 [h6,ev,dC,l1,oi,px,sa,sb,vF,vG,my,vH,Aq]))=some nB:=M 0 _ rfl;have h1:DataW.trod ex Tryz.prog bl 0 (λ_=>true) true m 3 (List.take (Tryz.prog.cellsOf 3) (List.drop 8 [h6,ev,dC,l1,oi,px,sa,sb,vF,vG,my,vH,Aq]))=some oh:=M 1 _ rfl;have A:DataW.trod ex Tryz.prog bl 0 (λ_=>true) true m 3 (List.take (Tryz.prog.cellsOf 3) (List.drop 9 [h6,ev,dC,l1,oi,px,sa,sb,vF,vG,my,vH,Aq]))=some qo:=M 2 _ rfl;have Z:DataW.trod ex Tryz.prog bl 0 (λ_=>true) true m 32 (List.take (Tryz.prog.cellsOf 32) (List.drop 10 [h6,ev,dC,l1,oi,px,sa,sb,vF,vG,my,vH,Aq]))=some s7:=M 3 _ rfl;have aD:DataW.trod ex Tryz.prog bl 0 (λ_=>true) true m 3 (List.take (Tryz.prog.cellsOf 3) (List.drop 11 [h6,ev,dC,l1,oi,px,sa,sb,vF,vG,my,vH,Aq]))=some uj:=M 4 _ rfl;have bc:DataW.trod ex Tryz.prog bl 0 (λ_=>true) true m 4 (List.take (Tryz.prog.cellsOf 4) (List.drop 12 [h6,ev,dC,l1,oi,px,sa,sb,vF,vG,my,vH,Aq]))=some uk:=M 5 _ rfl;rw[afs]at h0;rw[g3]at h1 A aD;rw[aft]at Z;rw[g4]at bc;obtain⟨⟨gL,eW,gl,h7,Ao,Ap,Fl,Fm⟩,gg,lO⟩:=afq m [h6,ev,dC,l1,oi,px,sa,sb] nB h0;obtain⟨ND,kD,bY,_⟩:=e0.int (enc:=ex) (bl:=bl) (n:=m) Tryz.underlying3 [vF] oh h1;obtain⟨NE,lp,b',_⟩:=e0.int (enc:=ex) (bl:=bl) (n:=m) Tryz.underlying3 [vG] qo A;obtain⟨aR,m_,kq⟩:=e0.slice (enc:=ex) (bl:=bl) (iY:=m) Tryz.underlying32 (k:=6) (f:=pp) as4 asZ (λa=>⟨rfl,rfl⟩) (λwG _=>afp wG) [my] s7 Z;obtain⟨afu,oS,zQ,_⟩:=e0.int (enc:=ex) (bl:=bl) (n:=m) Tryz.underlying3 [vH] uj aD;obtain⟨afv,vI,BI⟩:=e0.bool (enc:=ex) (bl:=bl) (n:=m) Tryz.underlying4 [Aq] uk bc;refine⟨⟨gL,eW,gl,h7,Ao,Ap,Fl,Fm,ND,NE,aR,afu,afv⟩,db.append gg (.cons kD.head (.cons lp.head (.cons m_.head (.cons oS.head (.cons vI.head (.nil _ _)))))),?_⟩;have F:=IK (m:=λ_=>2) kq;simp only[List.map_const',List.sum_replicate_nat,Nat.one_mul]at F;simp only[atG,auT,he,YtfnpcdbnoggloaaGreatDoor.Rows.uptoBulk,YtfnpcdbnoggloaaGreatDoor.Rows.uptoBulkAll]at lO F⊢;constructor<;>omega
theorem U8{d:DataW H}{p:List MemPlace}{base:Nat}(W:Value.okWide Tryz.prog bl .any base 34 v)(h:DataW.Trod ex Tryz.prog bl 0 (λ_=>true) true 34 v d p): ∃m:fg,bh bl (tR bl) (hP m) v/\m.name.length+m.set.length+m.oc.length+m.od.length+m.kY.length<=he d/\2*m.gh.length<=he d:=by obtain⟨iY,M⟩:=h;obtain⟨aA,rfl,_⟩:=okWide_struct Tryz.underlying34 W;obtain⟨m,ae,aV⟩:=afr (ex:=ex) (bl:=bl) iY _ _ M;obtain⟨l⟩:=aA;exact⟨m,.agg _ _ ae.1 ae.2,aV⟩
theorem afw{k:Int}(h:(Lit.int .i64 k).wf=true):k<=9223372036854775807:=by simp[Lit.wf,IntKind.wrap,IntKind.bits,IntKind.signed]at h;omega
def qI:Int:=9223372036854775807
theorem afx(n:Nat):e0 ex Tryz.prog bl n 53 a_ (λf d=>f.len<=qI/\2<=1*he d):=by intro aA x h;obtain⟨xs,m,rfl,I,kn,hL,M⟩:=Ed Tryz.underlying53 as4 as4 h;match aA,kn,xs,hL with|[h6,ev,dC],_,[nB,oh,qo],_ =>obtain⟨gL,gg,lO,_⟩:=e0.O (enc:=ex) (bl:=bl) (n:=m) Tryz.underlying9 [h6] nB (M 0 _ h6 nB rfl rfl rfl);obtain⟨eW,kD,bY,NI⟩:=e0.int (enc:=ex) (bl:=bl) (n:=m) Tryz.underlying3 [ev] oh (M 1 _ ev oh rfl rfl rfl);obtain⟨gl,lp,b',gN⟩:=e0.int (enc:=ex) (bl:=bl) (n:=m) Tryz.underlying3 [dC] qo (M 2 _ dC qo rfl rfl rfl);refine⟨⟨gL,eW,gl⟩,.cons gg.head (.cons kD.head (.cons lp.head (.nil _ _))),afw gN,?_⟩;rw[I];have:=U7 nB.1;simp only[he,YtfnpcdbnoggloaaGreatDoor.Rows.uptoBulk,atG,YtfnpcdbnoggloaaGreatDoor.Rows.uptoBulkAll]at*;omega
theorem U9{d:DataW H}{p:List MemPlace}{base:Nat}(W:Value.okWide Tryz.prog bl .any base 27 v)(h:DataW.Trod ex Tryz.prog bl 0 (λ_=>true) true 27 v d p): ∃l:List cE,bh bl (tR bl) (.Q .none 3 (l.map a_)) v/\2*l.length<=he d/\∀g∈l,g.len<=qI:=by obtain⟨iY,M⟩:=h;obtain⟨a,n,c,rfl⟩:=okWide_slice Tryz.underlying27 W;obtain⟨l,ae,aV⟩:=e0.slice (enc:=ex) (bl:=bl) (iY:=iY) (f:=a_) (k:=3) Tryz.underlying27 as4 asZ (λa=>⟨rfl,rfl⟩) (λm _=>afx m) _ _ M;have F:=IK (m:=λ_=>2) (c:=1) (by rcases aV with h|⟨ds,p3,h1,A,Z⟩;exact .inl h;exact .inr ⟨ds,p3,h1,A,λi a y aD bc=>(Z i a y aD bc).2⟩);simp only[List.map_const',List.sum_replicate_nat,Nat.one_mul]at F;refine⟨l,ae.head,by omega,λg U_=>?_⟩;rcases aV with⟨rfl,_⟩|⟨ds,p3,h1,A,Z⟩;cases U_;obtain⟨i,hi,rfl⟩:=atP.1 U_;exact(Z i l[i] (ds[i]' asZ) (ata hi) (ata _)).1
theorem own:ownKnob Tryz.prog.godebug=none:=by kernel_rfl
noncomputable def Fp(os:Os):World :=
 let w0:=World.holding Tryz.prog os ⟨#[],#[],[]⟩
 let put (h:Array Obj) (g:Nat) (aA:Array Value):Array Obj:=h.modify g fun
  |.cells _ t frozen=>.cells aA t frozen
  |o=>o
 let h1:=put w0.heap 1 (Lib.firstTab.map λV=>Value.int .u8 V).toArray
 let A:=put h1 2 ((List.range 16).flatMap λi=>[Value.int .u8 (Lib.accLo i),Value.int .u8 (Lib.accHi i)]).toArray
 let Z:=put A 3 (Lib.pow10Tab.map λV=>Value.int .u64 V).toArray
 let aD:=put Z 4 ([0,1,28,2,29,14,24,3,30,22,20,15,25,17,4,8,31,27,13,23,21,19,16,7,26,12,18,6,11,5,10,9].map λV=>Value.int .u8 V).toArray
 let bc:=put aD 5 ([0,1,56,2,57,49,28,3,61,58,42,50,38,29,17,4,62,47,59,36,45,43,51,22,53,39,33,30,24,18,12,5,63,55,48,27,60,41,37,16,46,35,44,21,52,32,23,11,54,26,40,15,34,20,31,10,25,14,19,9,13,8,7,6].map λV=>Value.int .u8 V).toArray
 {w0 with heap:=bc}
theorem U'(os:Os)(args:Array Value):laidMet Tryz.prog NG ((Fp os).forCall (λ_ _=>0) ⟨#[],args,[]⟩).memory :=
 laidMet_of_run' 8 as4 as4
variable{B:World}
def Fq(c:Int):List Int:=[IntKind.wrap .u8 (c.fdiv (2 ^ min (8:Int).toNat IntKind.i64.bits)),IntKind.wrap .u8 c]
def sc(l:List Int):List Int:=l.flatMap Fq
theorem afy(l:List Int):∀x∈sc l,0<=x/\x<=255:=λx I=>by
 obtain⟨c,_,h⟩:=au8.1 I;have e:∀m,IntKind.wrap .u8 m=m%256:=λm=>by simp[IntKind.wrap,IntKind.bits,IntKind.signed]
 simp only[Fq,atu,avI,av2,e]at h;rcases h with rfl|rfl<;>omega
theorem Va(l:List Int):(sc l).length=2*l.length:=by unfold sc;induction l with|nil=>rfl|cons x r aY=>rw[auc,atf,aY,ath];simp only[Fq,ath,atD];omega
theorem afz(l:List Int)(c:Int):sc (l++[c])=sc l++Fq c:=by simp[sc]
def fj(s:as8):as8:=if(chars s).2=0 then(sc (chars s).1).map oR else[]
theorem Vb{s:as8}:(chars s).1.length<=s.length/\(chars s).1.length<=65536:=by unfold chars;split;simp;cases hc:jt s with|none=>simp|some l=>have:=B8 s.length s (atg _) l hc;simp only;omega
theorem afA(s:as8):(fj s).length<=2*s.length/\(fj s).length<=131072:=by have:=@Vb s;unfold fj;split;rw[atb,Va];omega;simp
theorem afB(aW:dc B)(s:as8)(hs:s.length<1000000):aU B 184 [.O s] (.bo [.O (fj s),u (chars s).2]):=by have afC:=M3 (B:=B) aW s asZ;have kn:=@Vb s;unfold fj;generalize(chars s).1=l at*;generalize(chars s).2=e at*;have fr:(fI .i64 l).length=l.length:=atb _;refine fn Tryz.func184 Tryz.ntmps184 λU=>?_;refine go ?_;refine bp afC ?_;refine cb (t:=!(e==0)) ?_ ?_<;>intro hc;rw[as9 (by simpa using hc)];refine go ?_;exact ar;rw[as_ (by simpa using hc)];refine go ?_;rw[fr,show(2:Int)*(l.length:Nat)=((2*l.length:Nat):Int) by omega];refine .inr (af.L6 aM (n:=2*l.length) (cO:=.i64) (d0:=.i64) rfl rfl rfl rfl rfl rfl (by show 1*(2*l.length)<=_;omega) asZ λw0=>?_);(conv=>whnf);refine go ?_;rw[fr];refine fZ (λx:Nat×Value=>x.1<=l.length) [21,22] [] (λx=>[(6,.Q (.own 20 x.2) 1 ((sc (l.take x.1)).map (D.int .u8))),(23,u x.1)]) (λx=>[(20,.own x.2 ((sc (l.take x.1)).map (D.int .u8)).length 1 5)]) (λx=>l.length-x.1) (0,w0) (atq _) [(20,20)] ?_;rintro⟨k,w⟩ Y;dsimp only at Y⊢;refine go ?_;refine cb (t:=decide ((k:Int)<(l.length:Nat))) ?_ ?_<;>intro bs;(·(have eR:k<l.length:=by have:=atw bs;omega);(have h2:(fI .i64 l)[k]?=some (.int .i64 l[k]):=by simp[fI,eR]);(have E9:l.take (k+1)=l.take k++[l[k]]:=by rw[atc eR]);(have hlen:(sc (l.take k)).length=2*k:=by rw[Va,atv];omega);generalize l[k]=c at*;refine go ?_;refine⟨u c,λ_=>h2,?_⟩;(conv=>whnf);apply cB;(conv=>whnf);refine zX ?_;(conv=>whnf);refine X.S6 aM (by rfl) ?_;(conv=>whnf);(iterate 3 (refine And.intro rfl ?_;(conv=>whnf);refine zX ?_;(conv=>whnf)));refine And.intro (λ_=>by decide) ?_;(conv=>whnf);refine And.intro rfl ?_;(conv=>whnf);refine zX ?_;(conv=>whnf);refine .inr ?_;(conv=>whnf);refine And.intro rfl ?_;(conv=>whnf);refine zX ?_;(conv=>whnf);refine And.intro rfl ?_;(conv=>whnf);refine zX ?_;(conv=>whnf);refine .inr ?_;(conv=>whnf);refine go ?_;intro gN;(conv=>whnf);refine go ?_;(have sK:(sc (l.take k)).map (D.int .u8)++(Fq c).map (D.int .u8)=(sc (l.take (k+1))).map (D.int .u8):=by rw[E9,afz,atO]);refine eK (k+1,gN) [(20,34)] (by dsimp only;omega) (A:=⟨⟨E,E,aq.j6 sK,E,ai⟩,rfl,rfl,ky (by rw[<-sK,atf];rfl),ai⟩));(have f_:k=l.length:=by have:=atl bs;omega);subst f_;refine X.exit ?_;(conv=>whnf);refine go ?_;rw[ati];refine .inr (af.vb aM (aR:=(sc l).map oR) (tg:=.own 20 w) rfl rfl rfl rfl rfl rfl (as' (D.Q _ 1) (yr _ (afy l))) ?_);(conv=>whnf);refine go ?_;exact⟨E,dr (by simp at hc;omega),ai⟩
def j9(n:Int):Int:=(n+2048-1).tdiv 2048
def k2(n:Int):Int:=if n<=1872 then 0 else j9 n
def yA(n:Int):Int:=if(bif decide (n<0)then true else decide (4096<n))=true then 0 else(n+8-1).tdiv 8*8
def NJ(n:Int):Int:=(n+3).tdiv 4*4
def afD(n:Int):Bool:=bif decide (0<=n)then decide (n<4294967296)else false
def Ar(n:Int):Bool:=bif decide (0<=n)then decide (n<=3)else false
theorem afE(n:Int)(h0:0<=n)(h1:n<1000000000000):aU B 314 [u n] (u (j9 n)):=by refine bA Tryz.func314 Tryz.ntmps314 λU=>?_;exact awX
theorem Vc(n:Int)(h0:0<=n)(h1:n<1000000000000):aU B 271 [u n] (u (k2 n)):=by refine bA Tryz.func271 Tryz.ntmps271 λU=>?_;refine go ?_;refine aJ _ rfl ?_ ?_<;>intro hc;refine go ?_;rw[k2,as_ (by simpa using hc)];exact E;refine go ?_;refine bp (afE n h0 h1) ?_;rw[k2,as9 (by simpa using hc)];exact E
theorem afF(n:Int):aU B 272 [u n] (u (yA n)):=by refine bA Tryz.func272 Tryz.ntmps272 λU=>?_;refine go ?_;refine aJ _ rfl ?_ ?_<;>intro hc;refine go ?_;rw[yA,as_ hc];exact E;apply cr;have bs:=hc;rw[yA,as9 (by rw[bs];decide)];(have h0:0<=n/\n<=4096:=by revert hc;cases h:decide (n<0)<;>simp at h⊢<;>omega);apply b2;refine vg ?_;refine⟨λ_=>by omega,?_⟩;refine go ?_;have G:(n+8-1).tdiv 8=(n+8-1)/8:=atp asZ;refine go ?_;exact E
theorem afG(n:Int)(h0:0<=n)(h1:n<1000000000000):aU B 313 [u n] (u (NJ n)):=by refine bA Tryz.func313 Tryz.ntmps313 λU=>?_;apply b2;apply b2;refine lb ?_;refine⟨λ_=>by omega,?_⟩;refine go ?_;have G:(n+3).tdiv 4=(n+3)/4:=atp asZ;refine go ?_;exact E
theorem Vd(n:Int):aU B 354 [u n] (.bool (afD n)):=by refine bA Tryz.func354 Tryz.ntmps354 λU=>?_;refine go ?_;exact E
theorem afH(n:Int):aU B 139 [u n] (.bool (Ar n)):=by refine bA Tryz.func139 Tryz.ntmps139 λU=>?_;refine go ?_;exact E
def w6(l:List Int):Int:=(l.drop 1).foldl (λm x=>if x>m then x else m) (l.headD 0)
variable{i:Nat}
theorem afI{l:List Int}(h:0<i)(hi:i<l.length):w6 (l.take (i+1))=if l[i]>w6 (l.take i)then l[i]else w6 (l.take i):=by
 rw[w6,w6,atc hi,avs (by rw[atv];omega),auf]
 have e:(l.take i++[l[i]]).headD 0=(l.take i).headD 0:=by
  cases l with
  |nil=>simp at hi
  |cons a r=>cases i with
   |zero=>omega
   |succ i=>rfl
 rw[e];rfl
theorem afJ(l:List Int)(h0:0<l.length)(aj:l.length<1000000000):aU B 352 [.Q .none 1 (fI .i64 l)] (u (w6 l)):=by refine bA Tryz.func352 Tryz.ntmps352 λU=>?_;refine ck ?_;refine X.lL (α:=Unit) (λx=>[(0,.Q .none 1 (fI .i64 l))]) (λx=>[]) ?_ ?_;refine go ?_;refine aJ _ rfl ?_ ?_<;>intro hc;exfalso;simp[fI]at hc;omega;refine go ?_;exact⟨(),[],ar,rfl,ai⟩;rintro⟨⟩;refine go ?_;refine⟨λ_=>by simp[fI];omega,?_⟩;refine go ?_;refine⟨u l[0],λ_=>by simp[fI,h0],?_⟩;refine go ?_;refine X.loop (α:={i:Nat // 1<=i/\i<=l.length}) (λx=>[(0,.Q .none 1 (fI .i64 l)),(3,u (w6 (l.take x.1))),(4,u x.1)]) (λ_=>[]) (λx=>l.length-x.1) ⟨1,by omega⟩ ⟨E,aq.of_eq (as' (D.int .i64) (by cases l with|nil=>simp at h0|cons a r=>rfl)),E,ai⟩ trivial ?_;rintro⟨i,n0,hi⟩;dsimp only at hi n0⊢;refine go ?_;refine aJ (decide ((i:Int)<((fI .i64 l).length:Nat))) rfl ?_ ?_<;>intro hc;apply cr;refine kx ?_;(have aH:i<l.length:=by simpa[fI]using hc);refine m0 ?_;refine⟨λ_=>by simp[fI];omega,?_⟩;refine go ?_;refine⟨u l[i],λ_=>by simp[fI,aH],?_⟩;refine go ?_;exact⟨⟨i+1,by omega,aH⟩,axV,⟨E,aq.of_eq (as' (D.int .i64) (afI n0 aH).symm),E,ai⟩,ai⟩;refine go ?_;(have cd:i=l.length:=by simp[fI]at hc;omega);subst cd;refine go ?_;rw[ati];exact E
def vJ(size:Nat)(c:Int)(k:Nat):Int:=IntKind.wrap .u8 (c.fdiv (2 ^ min (8*((size:Int)-1-(k:Int))).toNat IntKind.i64.bits))
def q6(size:Nat)(l:List Int):List Int:=(8*(size:Int))::l.flatMap λc=>(List.range size).map (vJ size c)
def Co(size:Nat)(l:List Int):as8:=(q6 size l).map oR
theorem afK{size:Nat}{l:List Int}(h:i<l.length):q6 size (l.take (i+1))=q6 size (l.take i)++(List.range size).map (vJ size l[i]):=by rw[q6,q6,atc h,au1];simp
theorem afL(f:Nat->Int)(k:Nat):(List.range (k+1)).map f=(List.range k).map f++[f k]:=by rw[auO,atO];rfl
theorem NK(n:Int):0<=IntKind.wrap .u8 n/\IntKind.wrap .u8 n<=255:=by unfold IntKind.wrap;dsimp only[IntKind.bits,IntKind.signed];simp only[Bool.false_and,auk,auU];omega
theorem afM{size:Nat}(hs:size=1\/size=2)(l:List Int):∀n∈q6 size l,0<=n/\n<=255:=λn ax=>by
 simp only[q6,atu,au8,aty]at ax;rcases ax with rfl|⟨c,_,k,_,rfl⟩
 ·omega
 exact NK _
theorem Ve(size:Nat):∀l:List Int,(l.flatMap λc=>(List.range size).map (vJ size c)).length=l.length*size
 |[]=>by simp
 |c::r=>by rw[auc,atf,Ve size r,atb,List.length_range,ath,avj];omega
theorem Vf(size:Nat)(l:List Int):(q6 size l).length=l.length*size+1:=by rw[q6,ath,Ve]
theorem afN(size:Nat)(l:List Int):(Co size l).length=l.length*size+1:=by rw[Co,atb,Vf]
abbrev yB(l:List Int):List D:=l.map (D.int .u8)
theorem Vg(l:List Int)(size:Nat)(hs:size=1\/size=2)(aj:l.length<1000000):aU B 353 [.Q .none 1 (fI .i64 l),u (size:Nat)] (.O (Co size l)):=by refine bA Tryz.func353 Tryz.ntmps353 λU=>?_;apply b2;apply b2;(conv=>whnf);refine c1 ?_;refine p7 ?_;refine X.own 5 1000 1 5 rfl (λw=>?_);refine go ?_;refine X.ec (α:={i:Nat // i<=l.length}×Value) (λx=>[(1,u (size:Nat)),(5,.Q (.own 1000 x.2) 1 (yB (q6 size (l.take x.1.1)))),(13,.Q .none 1 (fI .i64 l)),(14,u ((fI .i64 l).length:Nat)),(15,u x.1.1)]) (λx=>[(1000,.own x.2 (yB (q6 size (l.take x.1.1))).length 1 5)]) (λx=>l.length-x.1.1) (⟨0,by omega⟩,w) [(1000,1000)] ⟨ar,rfl,bb⟩ ?_;rintro⟨⟨i,hi⟩,w⟩;dsimp only at hi⊢;refine go ?_;refine aJ (decide ((i:Int)<((fI .i64 l).length:Nat))) rfl ?_ ?_<;>intro hc;apply cr;(have aH:i<l.length:=by simpa[fI]using hc);have cX:=afK (size:=size) aH;(have mW:(q6 size (l.take i)).length<=i*size+1:=by rw[Vf,atv,avQ hi];omega);(have RR:i*size<=2*i:=by rcases hs with rfl|rfl<;>omega);generalize q6 size (l.take i)=L at*;refine gK ?_;refine⟨λ_=>by simp[fI];omega,?_⟩;refine go ?_;refine⟨u l[i],λ_=>by simp[fI,aH],?_⟩;refine go ?_;refine X.ec (α:={k:Nat // k<=size}×Value) (λx=>[(1,u (size:Nat)),(5,.Q (.own 1000 x.2) 1 (yB (L++(List.range x.1.1).map (vJ size l[i])))),(7,u l[i]),(13,.Q .none 1 (fI .i64 l)),(14,u ((fI .i64 l).length:Nat)),(15,u i),(19,u (size:Nat)),(20,u x.1.1)]) (λx=>[(1000,.own x.2 (yB (L++(List.range x.1.1).map (vJ size l[i]))).length 1 5)]) (λx=>size-x.1.1) (⟨0,by omega⟩,w) [(1000,1000)] ⟨⟨E,aq.j6 as1,E,E,E,E,E,E,ai⟩,rfl,rfl,ky as1,ai⟩ ?_;rintro⟨⟨k,Y⟩,w⟩;dsimp only at Y⊢;refine go ?_;refine aJ (decide ((k:Int)<(size:Nat))) rfl ?_ ?_<;>intro bs;apply cr;(have iy:k<size:=by simpa using bs);have yC:=afL (vJ size l[i]) k;(have Vh:(L++(List.range k).map (vJ size l[i])).length<=2*i+1+k:=by simp;omega);generalize fY:L++(List.range k).map (vJ size l[i])=ap at*;(have Vi:L++(List.range (k+1)).map (vJ size l[i])=ap++[vJ size l[i] k]:=by rw[yC,<-atL,fY]);refine kx ?_;apply b2;apply kw;refine g9 ?_;refine vg ?_;refine⟨λ_=>by omega,?_⟩;refine go ?_;refine .inr ?_;(conv=>whnf);refine nr ?_;refine⟨by simp only[yB,atb,ath,atD];omega,by simp only[yB,atb,ath,atD];omega,as6,λgN=>?_⟩;refine go ?_;exact⟨(⟨k+1,iy⟩,gN),[(1000,33)],by show size-(k+1)<size-k;omega,⟨E,aq.j6 (by rw[Vi,yB,yB,atO];rfl),E,E,E,E,E,E,ai⟩,rfl,rfl,ky (by rw[Vi];simp),ai⟩;refine go ?_;(have f_:k=size:=by simp at bs;omega);subst f_;refine go ?_;exact⟨(⟨i+1,aH⟩,w),[(1000,1000)],axV,⟨E,aq.j6 (by rw[cX]),E,E,E,ai⟩,rfl,rfl,ky (by rw[cX]),ai⟩;refine go ?_;(have cd:i=l.length:=by simp[fI]at hc;omega);subst cd;rw[ati];refine go ?_;refine .inr (af.vb aM (aR:=Co size l) (tg:=.own 1000 w) rfl rfl rfl rfl rfl rfl (as' (D.Q (.own 1000 w) 1) (yr (q6 size l) (afM hs l))) ?_);refine go ?_;exact E
def s8(s:as8):as8×Int :=
 if(65536:Int)<(s.length:Nat)then([],7)else if(chars s).2≠0 then([],3)else if(chars s).1=[]then([],0)else if w6 (chars s).1<=255 then(Co 1 (chars s).1,0)else(Co 2 (chars s).1,0)
theorem Vj(s:as8):(chars s).1.length<=65536:=by unfold chars;split;simp;split;rename_i l h;have:=(B8 s.length s (atg _) l h).1;simp only;omega;simp
theorem Vk(aW:dc B)(s:as8)(hs:s.length<1000000000):aU B 311 [.O s] (.bo [.O (s8 s).1,u (s8 s).2]):=by refine bA Tryz.func311 Tryz.ntmps311 λU=>?_;refine go ?_;refine aJ (decide ((65536:Int)<(s.length:Nat))) rfl ?_ ?_<;>intro hc;refine go ?_;rw[s8,as_ (by simpa using hc)];exact ar;refine go ?_;(have h1:¬(65536:Int)<(s.length:Nat):=by simpa using hc);rw[s8,as9 h1];have kn:=Vj s;refine go ?_;refine bp (M3 aW s hs) ?_;refine aJ ((chars s).2 !=0) rfl ?_ ?_<;>intro hc;refine go ?_;rw[as_ (by simpa using hc)];exact ar;refine go ?_;(have A:¬(chars s).2≠0:=by simpa using hc);rw[as9 A];generalize(chars s).1=l at*;refine go ?_;refine aJ ((((fI .i64 l).length:Nat):Int)==0) rfl ?_ ?_<;>intro hc;refine go ?_;rw[as_ (by simpa[fI]using hc)];exact ar;refine go ?_;(have Z:¬l=[]:=by simpa[fI]using hc);rw[as9 Z];have sd:0<l.length:=auq.2 Z;refine go ?_;refine bp (afJ l sd asZ) ?_;refine aJ (decide (w6 l<=255)) rfl ?_ ?_<;>intro hc;refine go ?_;refine bp (Vg l 1 (.inl rfl) asZ) ?_;rw[as_ (by simpa using hc)];exact ar;refine go ?_;refine bp (Vg l 2 (.inr rfl) asZ) ?_;rw[as9 (by simpa using hc)];exact ar
def Vl(s:as8)(bd dq:Bool):D:=.agg [.O s,.bool false,.bool bd,.bool false,.bool dq,.bool false,u 0,u 0,u 0]
def vK(s:as8)(bd dq:Bool):as8×Bool :=
 if dq=true then([],bif bd then s==[]else false)else((s8 s).1,bif (bif (s8 s).2==0 then !(s==[])else false)then decide ((((s8 s).1.length:Nat):Int)<=255)else false)
theorem afO(aW:dc B)(s:as8)(bd dq:Bool)(hs:s.length<1000000000):aU B 312 [Vl s bd dq] (.bo [.O (vK s bd dq).1,.bool (vK s bd dq).2]):=by refine bA Tryz.func312 Tryz.ntmps312 λU=>?_;refine go ?_;intro dB;refine go ?_;refine bp (Vd 0) ?_;refine⟨[u 0],_,λh=>Vd 0,ar,?_⟩;refine ie ?_;refine aJ false rfl ?_ ?_<;>intro hc;cases hc;refine go ?_;refine aJ dq rfl ?_ ?_<;>intro hc;refine oL ?_;refine go ?_;rw[vK,as_ hc];exact ar;refine go ?_;refine bp (Vk aW s hs) ?_;rw[vK,as9 (by rw[hc];decide)];exact ar
def ul(s:as8)(bd dq:Bool):Int×Int:=if(vK s bd dq).2=true then(NJ (38+((vK s bd dq).1.length:Nat)),0)else(0,1)
theorem NL(s:as8):(s8 s).1.length<=131073:=by have:=Vj s;unfold s8;split;simp;split;simp;split;simp;split<;>simp only[afN]<;>omega
theorem Vm(s:as8)(bd dq:Bool):(vK s bd dq).1.length<=131073:=by have:=NL s;unfold vK;split;simp;exact this
theorem Vn(aW:dc B)(s:as8)(bd dq:Bool)(hs:s.length<1000000000):aU B 270 [Vl s bd dq] (.bo [u (ul s bd dq).1,u (ul s bd dq).2]):=by refine bA Tryz.func270 Tryz.ntmps270 λU=>?_;refine go ?_;intro dB;refine go ?_;refine bp (afO aW s bd dq hs) ?_;refine aJ (!(vK s bd dq).2) rfl ?_ ?_<;>intro hc;refine go ?_;rw[ul,as9 (by simpa using hc)];exact ar;apply cr;have dm:=Vm s bd dq;apply b2;refine lb ?_;refine⟨[u (38+((vK s bd dq).1.length:Nat))],_,λ_=>afG _ asZ asZ,ar,?_⟩;refine iB ?_;rw[ul,as_ (by simpa using hc)];exact ar
def iH(y:Int):Bool:=bif y.tmod 400==0 then true else(bif y.tmod 4==0 then y.tmod 100 !=0 else false)
def nC(y:Int):Int:=if iH y=true then 366 else 365
def Cp(m:Int):Int:=([31,28,31,30,31,30,31,31,30,31,30,31]:List Int).getD (m-1).toNat 31
def nD(y m:Int):Int:=if(bif m==2 then iH y else false)=true then 29 else Cp m
def IL(t:Int):Bool:=bif decide (315532800<=t)then decide (t<=4102444799)else false
def IM(V:Int):Bool:=bif decide (-1440<=V)then decide (V<=1440)else false
def NM(V:Int):Bool:=bif (bif V.tmod 15==0 then decide (-720<=V)else false)then decide (V<=780)else false
theorem Vo(y:Int):aU B 274 [u y] (.bool (iH y)):=by refine bA Tryz.func274 Tryz.ntmps274 λU=>?_;refine ph ?_;refine⟨λ_=>by omega,?_⟩;refine mY ?_;refine⟨λh=>by omega,?_⟩;apply g8;refine hE ?_;refine⟨λh=>by omega,?_⟩;refine go ?_;exact E
theorem Vp(y:Int):aU B 222 [u y] (u (nC y)):=by refine bA Tryz.func222 Tryz.ntmps222 λU=>?_;refine go ?_;refine bp (Vo y) ?_;refine aJ _ rfl ?_ ?_<;>intro hc;refine go ?_;rw[nC,as_ hc];exact E;refine go ?_;rw[nC,as9 (by rw[hc];decide)];exact E
theorem afP(m:Int)(h1:1<=m)(A:m<=12):([D.int .i64 31,D.int .i64 28,D.int .i64 31,D.int .i64 30,D.int .i64 31,D.int .i64 30,D.int .i64 31,D.int .i64 31,D.int .i64 30,D.int .i64 31,D.int .i64 30,D.int .i64 31])[0+(m-1).toNat*1]?=some (.int .i64 (Cp m)):=by(have hm:(m-1).toNat<12:=by omega);unfold Cp;rw[atT,avW];generalize(m-1).toNat=k at*;match k,hm with|0,_=>rfl|1,_=>rfl|2,_=>rfl|3,_=>rfl|4,_=>rfl|5,_=>rfl|6,_=>rfl|7,_=>rfl|8,_=>rfl|9,_=>rfl|10,_=>rfl|11,_=>rfl
theorem Vq(y m:Int)(h1:1<=m)(A:m<=12):aU B 223 [u y,u m] (u (nD y m)):=by refine bA Tryz.func223 Tryz.ntmps223 λU=>?_;apply b2;apply ep;refine X.Mc aM ?_;apply tT;refine af.ac6 rfl rfl rfl as7 rfl rfl rfl rfl rfl rfl rfl rfl rfl rfl rfl rfl ?_;apply d_;refine go ?_;intro cJ;apply d_;refine go ?_;refine bp (Vo y) ?_;refine aJ (bif m==2 then iH y else false) rfl ?_ ?_<;>intro hc;refine go ?_;rw[nD,as_ hc];exact E;apply cr;refine nt ?_;apply d_;refine lb ?_;refine⟨rfl,ai,.inr (af.ac7 rfl rfl rfl rfl asZ asZ ?_)⟩;(conv=>whnf);refine⟨rfl,ai,.inr (af.ac8 aM rfl rfl rfl rfl (afP m h1 A) ?_)⟩;apply d_;refine go ?_;rw[nD,as9 (by rw[hc];decide)];exact E
theorem afQ(t:Int):aU B 220 [u t] (.bool (IL t)):=by refine bA Tryz.func220 Tryz.ntmps220 λU=>?_;refine go ?_;exact E
theorem afR(t:Int):aU B 221 [u t] (.bool (IM t)):=by refine bA Tryz.func221 Tryz.ntmps221 λU=>?_;refine go ?_;exact E
theorem afS(t:Int):aU B 157 [u t] (.bool (NM t)):=by refine bA Tryz.func157 Tryz.ntmps157 λU=>?_;refine ph ?_;refine⟨λ_=>by omega,?_⟩;refine go ?_;exact E
theorem Vr(y:Int):365<=nC y/\nC y<=366:=by unfold nC;split<;>omega
theorem afT(y m:Int)(h1:1<=m)(A:m<=12):28<=nD y m/\nD y m<=31:=by unfold nD Cp;split;omega;(have hm:(m-1).toNat<12:=by omega);generalize(m-1).toNat=k at*;match k,hm with|0,_=>decide|1,_=>decide|2,_=>decide|3,_=>decide|4,_=>decide|5,_=>decide|6,_=>decide|7,_=>decide|8,_=>decide|9,_=>decide|10,_=>decide|11,_=>decide
def s9(y m:Int):Int:=([0,31,59,90,120,151,181,212,243,273,304,334]:List Int).getD (m-1).toNat 0+(if(decide (2<m)&&iH y)=true then 1 else 0)
theorem afU(y m:Int)(h1:1<=m)(A:m<12):s9 y (m+1)=s9 y m+nD y m:=by obtain⟨k,Y,rfl⟩:∃k:Nat,k<11/\m=(k:Int)+1:=⟨(m-1).toNat,by omega,by omega⟩;unfold s9 nD Cp;match k,Y with|0,_=>cases iH y<;>decide|1,_=>cases iH y<;>decide|2,_=>cases iH y<;>decide|3,_=>cases iH y<;>decide|4,_=>cases iH y<;>decide|5,_=>cases iH y<;>decide|6,_=>cases iH y<;>decide|7,_=>cases iH y<;>decide|8,_=>cases iH y<;>decide|9,_=>cases iH y<;>decide|10,_=>cases iH y<;>decide
theorem afV(y m:Int)(h1:1<=m)(A:m<=12):0<=s9 y m:=by obtain⟨k,Y,rfl⟩:∃k:Nat,k<12/\m=(k:Int)+1:=⟨(m-1).toNat,by omega,by omega⟩;unfold s9;match k,Y with|0,_=>cases iH y<;>decide|1,_=>cases iH y<;>decide|2,_=>cases iH y<;>decide|3,_=>cases iH y<;>decide|4,_=>cases iH y<;>decide|5,_=>cases iH y<;>decide|6,_=>cases iH y<;>decide|7,_=>cases iH y<;>decide|8,_=>cases iH y<;>decide|9,_=>cases iH y<;>decide|10,_=>cases iH y<;>decide|11,_=>cases iH y<;>decide
theorem afW(y:Int):s9 y 12+nD y 12=nC y:=by unfold s9 nD Cp nC;cases iH y<;>decide
def Cq(d y:Int):Int×Int:=if h:nC y<=d then Cq (d-nC y) (y+1)else(d,y)
termination_by d.toNat
decreasing_by have:=Vr y;omega
def w7(n:Nat)(y d m:Int):Int×Int:=match n with
 |0=>(d,m)
 |n+1=>if nD y m<=d then w7 n y (d-nD y m) (m+1)else(d,m)
theorem afX{n:Nat}{y d m:Int}(h:¬nD y m<=d):w7 n y d m=(d,m):=by cases n with|zero=>rfl|succ n=>rw[w7,as9 h]
def Vs(y:Int)(b:Int×Int)(er:Int):List Int:=[y,b.2,b.1+1,er.tdiv 3600,(er.tdiv 60).tmod 60,er.tmod 60]
def Vt(a:Int×Int)(er:Int):List Int:=Vs a.2 (w7 12 a.2 a.1 1) er
def EM(D er:Int):List Int:=Vt (Cq D 1970) er
def Vu(t V:Int):List Int:=EM ((t+60*V).tdiv 86400) ((t+60*V).tmod 86400)
def yD(t V:Int):Bool:=!(bif !IL t then true else !IM V)
def oT(t V:Int):List Int:=if yD t V=true then Vu t V else[0,0,0,0,0,0]
def Vv(l:List Int):D:=.agg (l.map (D.int .i64))
theorem afY(t V:Int):aU B 156 [u t,u V] (.bo [Vv (oT t V),u (if yD t V=true then 0 else 2)]):=by
 refine bA Tryz.func156 Tryz.ntmps156 λU=>?_;refine go ?_;intro cT;refine go ?_;refine bp (afQ t) ?_;refine bp (afR V) ?_;refine aJ (bif !IL t then true else !IM V) rfl ?_ ?_<;>intro hc
 ·refine go ?_;have hs:¬yD t V=true:=by unfold yD;rw[hc];decide
  rw[oT,as9 hs,as9 hs];refine go ?_;exact ar
 have hs:yD t V=true:=by unfold yD;rw[hc];rfl
 have ae:315532800<=t/\t<=4102444799/\-1440<=V/\V<=1440:=by
  revert hc;unfold IL IM
  cases h1:decide (315532800<=t)<;>cases A:decide (t<=4102444799)<;>cases Z:decide (-1440<=V)<;>cases aD:decide (V<=1440)<;>simp at h1 A Z aD⊢<;>omega
 rw[oT,as_ hs,as_ hs,Vu];have NN:(t+60*V).tdiv 86400=(t+60*V)/86400:=atp asZ;have NO:(t+60*V).tmod 86400=(t+60*V)%86400:=aur asZ;apply cr;apply b2;refine g9 ?_;refine g9 ?_;refine ck ?_;refine⟨λ_=>by omega,?_⟩;refine lb ?_;refine⟨λ_=>by omega,?_⟩;(conv=>whnf);generalize s_:(t+60*V).tdiv 86400=yE at*;generalize m5:(t+60*V).tmod 86400=er at*;have afZ:0<=yE/\yE<60000:=asZ
 have aq4:0<=er/\er<86400:=asZ
 have IN:er.tdiv 3600=er/3600:=atp asZ;have aq5:er.tdiv 60=er/60:=atp asZ;refine ck ?_;refine⟨λ_=>by omega,?_⟩;refine lb ?_;refine⟨λ_=>by omega,?_⟩;refine lb ?_;refine⟨λ_=>by omega,?_⟩;(conv=>whnf);refine⟨λ_=>by omega,?_⟩;refine go ?_;intro iI;refine go ?_;unfold EM;generalize ES:Cq yE 1970=NP at*;generalize df:Vt NP er=af0 at*;refine go ?_
 refine X.ec (α:={p:Int×Int // Cq p.1 p.2=NP/\0<=p.1/\p.1<=yE/\1970<=p.2/\p.2<=1970+(yE-p.1)}) (λx=>[(4,.box 4 cT 0),(7,u x.1.1),(9,.box 9 iI 0)])
  (λx=>[(4,.box cT [u 0,u 0,u 0,u 0,u 0,u 0]),(9,.box iI [u x.1.2,u 1,u 0,u (er.tdiv 3600),u ((er.tdiv 60).tmod 60),u (er.tmod 60)])]) (λx=>x.1.1.toNat) ⟨(yE,1970),ES,afZ.1,at5 _,at5 _,by omega⟩ [(4,4),(9,9)]
  ⟨ar,rfl,bb⟩ ?_
 rintro⟨⟨d,y⟩,hy,ug,EX,Ey,NQ⟩;dsimp only at hy ug EX Ey NQ⊢;have aq6:=Vr y;refine go ?_;refine bp (Vp y) ?_;refine aJ (decide (nC y<=d)) rfl ?_ ?_<;>intro bs
 ·refine go ?_;have dS:nC y<=d:=by simpa using bs
  refine go ?_;refine bp (Vp y) ?_;exact⟨⟨(d-nC y,y+1),by rw[<-hy];conv=>{rhs;rw[Cq,auX dS]},by show 0<=d-nC y;omega,by show d-nC y<=yE;omega,by show 1970<=y+1;omega,by show y+1<=1970+(yE-(d-nC y));omega⟩,[(4,4),(9,9)],by show(d-nC y).toNat<d.toNat;omega,ar,rfl,bb⟩
 have af1:NP=(d,y):=by rw[<-hy,Cq,awd (by simpa using bs)]
 have bi : d < nC y := by have : ¬nC y<=d := by simpa using bs
                          omega
 refine go ?_
 refine X.ec (α:={p:Int×Int×Nat // w7 p.2.2 y p.1 p.2.1=w7 12 y d 1/\0<=p.1/\1<=p.2.1/\p.2.1<=12/\p.1+s9 y p.2.1=d/\(p.2.2:Int)+p.2.1=13}) (λx=>[(4,.box 4 cT 0),(7,u x.1.1),(9,.box 9 iI 0)])
  (λx=>[(4,.box cT [u 0,u 0,u 0,u 0,u 0,u 0]),(9,.box iI [u y,u x.1.2.1,u 0,u (er.tdiv 3600),u ((er.tdiv 60).tmod 60),u (er.tmod 60)])]) (λx=>x.1.1.toNat) ⟨(d,1,12),rfl,ug,by show(1:Int)<=1;decide,by show(1:Int)<=12;decide,by show d+s9 y 1=d;rw[show s9 y 1=0 from by unfold s9;cases iH y<;>decide];omega,by show((12:Nat):Int)+1=13;decide⟩ [(4,4),(9,9)]
  ⟨ar,rfl,bb⟩ ?_
 rintro⟨⟨e,m,n⟩,hm,pv,lm,s0,l',m'⟩;dsimp only at hm pv lm s0 l' m'⊢;have aq7:=afT y m lm s0;have Fr:=afV y m lm s0;refine go ?_;refine bp (Vq y m lm s0) ?_;refine aJ (decide (nD y m<=e)) rfl ?_ ?_<;>intro dx
 ·refine go ?_;have dS:nD y m<=e:=by simpa using dx
  have af2:m<12:=by
   rcases Int.lt_or_le m 12 with h|h
   ·exact h
   have:m=12:=asZ
   subst this;have:=afW y;omega
  obtain⟨n,rfl⟩:∃k,n=k+1:=⟨n-1,by omega⟩;refine go ?_;refine bp (Vq y m lm s0) ?_;exact⟨⟨(e-nD y m,m+1,n),by rw[<-hm];conv=>{rhs;rw[w7,as_ dS]},by show 0<=e-nD y m;omega,by show 1<=m+1;omega,by show m+1<=12;omega,by show e-nD y m+s9 y (m+1)=d;rw[afU y m lm af2];omega,by show(n:Int)+(m+1)=13;omega⟩,[(4,4),(9,9)],by show(e-nD y m).toNat<e.toNat;omega,ar,rfl,bb⟩
 have af3:w7 12 y d 1=(e,m):=by rw[<-hm];exact afX (by simpa using dx)
 have af4:af0=[y,m,e+1,er.tdiv 3600,(er.tdiv 60).tmod 60,er.tmod 60]:=by rw[<-df,af1];show Vs y (w7 12 y d 1) er=_;rw[af3];rfl
 subst af4;have vL:e<1000000:=asZ
 refine go ?_;exact ar
def Fs(t V:Int):Bool:=yD t V&&NM V
def Cr(t V:Int):List Int:=[IntKind.wrap .u8 (IntKind.wrap .i64 ((oT t V).getD 0 0-1900)),IntKind.wrap .u8 ((oT t V).getD 1 0),IntKind.wrap .u8 ((oT t V).getD 2 0),IntKind.wrap .u8 ((oT t V).getD 3 0),IntKind.wrap .u8 ((oT t V).getD 4 0),IntKind.wrap .u8 ((oT t V).getD 5 0),IntKind.wrap .u8 (IntKind.wrap .i8 (IntKind.wrap .i64 (V.tdiv 15)))]
def vM(t V:Int):as8×Int:=if Fs t V=true then((Cr t V).map oR,0)else([],2)
theorem af5(t V:Int):∀n∈Cr t V,0<=n/\n<=255:=λn ax=>by
 simp only[Cr,atu,avI,av2]at ax;rcases ax with rfl|rfl|rfl|rfl|rfl|rfl|rfl<;>exact NK _
theorem af6(t V:Int):Vv (oT t V)=.agg [u ((oT t V).getD 0 0),u ((oT t V).getD 1 0),u ((oT t V).getD 2 0),u ((oT t V).getD 3 0),u ((oT t V).getD 4 0),u ((oT t V).getD 5 0)]:=by unfold oT;split<;>rfl
theorem Vw(t V:Int):aU B 108 [u t,u V] (.bo [.O (vM t V).1,u (vM t V).2]):=by refine bA Tryz.func108 Tryz.ntmps108 λU=>?_;refine ph ?_;refine⟨[u t,u V],_,λ_=>afY t V,ar,?_⟩;rw[af6];refine go ?_;intro dY;refine go ?_;refine bp (afS V) ?_;refine aJ (!Fs t V) (as' D.bool (by unfold Fs;cases yD t V<;>cases NM V<;>rfl)) ?_ ?_<;>intro hc;refine go ?_;(have hs:¬Fs t V=true:=by simpa using hc);rw[vM,as9 hs];exact ar;apply cr;refine vd ?_;apply mi;refine eB ?_;refine .inr ?_;refine nZ ?_;refine .inr ?_;apply mi;apply cB;refine nZ ?_;refine .inr ?_;apply mi;apply cB;refine nZ ?_;refine .inr ?_;apply mi;apply cB;refine nZ ?_;refine .inr ?_;apply mi;apply cB;refine nZ ?_;refine .inr ?_;apply mi;apply cB;refine nZ ?_;refine .inr ?_;(conv=>whnf);refine⟨λ_=>by omega,?_⟩;refine go ?_;refine x7 ?_;refine x7 ?_;refine x7 ?_;refine .inr (af.vb aM (aR:=(Cr t V).map oR) (tg:=.dR) rfl rfl rfl rfl rfl rfl (as' (D.Q .dR 1) (yr (Cr t V) (af5 t V))) ?_);refine go ?_;(have hs:Fs t V=true:=by simpa using hc);rw[vM,as_ hs];exact ar
theorem Vx(t V:Int):(vM t V).1.length<=7:=by unfold vM Cr;split<;>simp
def q7(n:aa)(o:f1):Int:=if(!valid n)=true then 1 else if(32:Int)<((o.gh.map pp).length:Nat)then 7 else(vM 315619200 o.c4).2
theorem af7(aW:dc B)(n:aa)(o:f1)(bH:aB n+n.name.length<10000000):aU B 75 [aE n,r6 o] (u (q7 n o)):=by refine bA Tryz.func75 Tryz.ntmps75 λU=>?_;refine go ?_;intro cg;refine go ?_;intro eG;refine go ?_;refine bp (Ak aW n bH) ?_;refine aJ (!valid n) rfl ?_ ?_<;>intro hc;refine go ?_;rw[q7,as_ hc];exact E;refine go ?_;rw[q7,as9 (by rw[hc];decide)];refine go ?_;refine aJ (decide ((32:Int)<((o.gh.map pp).length:Nat))) rfl ?_ ?_<;>intro hc;refine go ?_;rw[as_ (by simpa using hc)];exact E;refine go ?_;rw[as9 (by simpa using hc)];refine go ?_;refine bp (Vw 315619200 o.c4) ?_;exact E
theorem af8:aU B 320 [u 4] (.bool true):=by refine bA Tryz.func320 Tryz.ntmps320 λU=>?_;apply b2;apply b2;refine ie ?_;refine ie ?_;refine iB ?_;exact E
theorem af9(n:Int)(h0:0<=n)(h1:n<4294967296):aU B 321 [u n,u 4] (.bool true):=by
 refine bA Tryz.func321 Tryz.ntmps321 λU=>?_;apply b2;apply b2;apply g8;refine hE ?_;refine .inl ⟨λh=>by simp[dg],?_⟩;refine mY ?_;refine⟨λh=>by omega,?_⟩;apply g8;refine nY ?_;refine tU ?_;refine iB ?_;have e:IntKind.i64.wrap (2 ^ min 32 IntKind.i64.bits)=4294967296:=by decide
 have bY:decide (0<=n)=true:=aug h0;have b':decide (n<4294967296)=true:=aug h1;refine aq.of_eq (as' D.bool ?_);simp[e,bY,b',h0,h1]
theorem af_:aU B 323 [u 4] (.fn (.func 361) [] []):=by refine bA Tryz.func323 Tryz.ntmps323 λU=>?_;apply b2;refine gm ?_;exact E
theorem af'(i:Int):aU B 361 [u i] (u i):=by refine bA Tryz.func361 Tryz.ntmps361 λU=>?_;apply b2;refine gm ?_;exact E
theorem aga:aU B 324 [u 4] (.fn (.func 362) [] [.a8 1 [u 4] 0 0]):=by refine bA Tryz.func324 Tryz.ntmps324 λU=>?_;refine ck ?_;intro b;(conv=>whnf);refine X.BF 1 1 (u 4) rfl rfl rfl rfl ?_;refine gm ?_;exact E
theorem agb(i:Int)(h0:0<=i)(h1:i<=3):aU B 362 [u i,.a8 1 [u 4] 0 0] (u (3-i)):=by refine bA Tryz.func362 Tryz.ntmps362 λU=>?_;apply b2;apply b2;refine x6 (u 4) ?_;refine g9 ?_;refine g9 ?_;refine iB ?_;exact dr asZ
def agc(n:Int)(k:Nat):Int:=IntKind.wrap .u8 (n.fdiv (2 ^ min (8*(k:Int)).toNat IntKind.i64.bits))
def vN(n:Int)(iJ:Nat->Nat):Nat->List Int
 |0=>[0,0,0,0]
 |k+1=>(vN n iJ k).set (iJ k) (agc n k)
theorem NR(n:Int)(iJ:Nat->Nat):∀k,(vN n iJ k).length=4
 |0=>rfl
 |k+1=>by simp only[vN,auG];exact NR n iJ k
theorem agd(m:Int):0<=IntKind.wrap .u8 m/\IntKind.wrap .u8 m<=255:=by
 have e:IntKind.wrap .u8 m=m%256:=by simp[IntKind.wrap,IntKind.bits,IntKind.signed]
 rw[e];omega
theorem Vy(n:Int)(iJ:Nat->Nat):∀k,∀x∈vN n iJ k,0<=x/\x<=255
 |0,x,h=>by simp[vN]at h;omega
 |k+1,x,h=>by rcases avn h with h|h;exact Vy n iJ k x h;subst h;exact agd _
def Cs(n:Int)(iJ:Nat->Nat):as8:=(vN n iJ 4).map oR
theorem Vz(n:Int)(iJ:Nat->Nat):(Cs n iJ).length=4:=by simp[Cs,NR]
theorem VA(n:Int)(b7:Nat)(ct:List D)(iJ:Nat->Nat)(aw:∀k,k<4->iJ k<4/\aU B b7 ([u (k:Nat)]++ct) (u (iJ k:Nat))):aU B 322 [u n,u 4,.fn (.func b7) [] ct] (.O (Cs n iJ)):=by refine bA Tryz.func322 Tryz.ntmps322 λU=>?_;refine go ?_;refine .inr (af.x4 aM (n:=4) rfl rfl rfl rfl rfl rfl rfl as2 as2 λgO=>?_);refine go ?_;refine X.ec (α:={k:Nat // k<=4}) (λx=>[(0,u n),(1,u 4),(2,.fn (.func b7) [] ct),(7,.al gO),(11,u 4),(12,u (x.1:Nat))]) (λx=>[(10,.row gO ((vN n iJ x.1).map (D.int .u8)) 1 5)]) (λx=>4-x.1) ⟨0,by omega⟩ [(10,10)] ⟨ar,rfl,bb⟩ ?_;rintro⟨k,Y⟩;refine go ?_;refine aJ (decide ((k:Int)<4)) rfl ?_ ?_<;>intro hc;apply cr;(have As:k<4:=by have:=atw hc;omega);have Ah:=NR n iJ k;refine gK ?_;refine X.zI aM 9 mixed as4 ?_;refine go ?_;refine⟨[u (k:Nat)]++ct,_,λ_=>(aw k As).2,dK.refl _,?_⟩;refine lb ?_;refine⟨λ_=>by omega,?_⟩;refine go ?_;refine x7 ?_;refine .inr (af.ej aM 10 rfl rfl rfl rfl rfl rfl rfl asZ (by simp[Ah];have:=(aw k As).1;omega) ?_);refine go ?_;refine .inr (af.mg aM 10 (i:=iJ k) (by simp;rfl) rfl rfl rfl (by simp[Ah];exact(aw k As).1) rfl ?_);refine go ?_;exact⟨⟨k+1,by omega⟩,[(10,10)],by show 4-(k+1)<4-k;omega,ar,rfl,rfl,as' (λV=>some (aI.row gO V 1 5)) (by simp only[vN,awy];rfl),ai⟩;refine wM ?_;(have As:k=4:=by have:=atl hc;omega);subst As;refine X.fb [(7,.al gO)] [(10,.row gO ((vN n iJ 4).map (D.int .u8)) 1 5)] [(10,10)] ⟨ar,rfl,bb⟩ ?_;refine X.vm 10 7 rfl ?_;refine go ?_;refine .inr (af.vb aM (aR:=Cs n iJ) (tg:=.none) rfl rfl rfl rfl rfl rfl (as' (D.Q .none 1) (yr (vN n iJ 4) (Vy n iJ 4))) ?_);refine go ?_;exact E
def Ct(n:Int):as8:=Cs n (λk=>k)++Cs n (λk=>3-k)
theorem IO(n:Int):(Ct n).length=8:=by simp[Ct,Vz]
theorem age(n:Int)(h0:0<=n)(h1:n<4294967296):aU B 278 [u n,u 4] (.bo [.O (Ct n),u 0]):=by refine bA Tryz.func278 Tryz.ntmps278 λU=>?_;apply b2;refine p7 ?_;refine⟨_,_,λ_=>af8,ar,?_⟩;refine X.cond false rfl (λhc=>nomatch hc) (λhc=>?_);apply cr;refine p7 ?_;refine⟨_,_,λ_=>af9 n h0 h1,ar,?_⟩;refine X.cond false rfl (λhc=>nomatch hc) (λhc=>?_);apply cr;refine ck ?_;refine⟨_,_,λ_=>af_,ar,?_⟩;refine go ?_;refine⟨_,_,λ_=>VA n 361 [] (λk=>k) (λk Y=>⟨Y,af' _⟩),ar,?_⟩;refine go ?_;refine⟨_,_,λ_=>aga,ar,?_⟩;refine go ?_;refine⟨_,_,λ_=>VA n 362 [.a8 1 [u 4] 0 0] (λk=>3-k) (λk Y=>⟨by omega,by have:=agb (B:=B) (k:Nat) asZ asZ;rw[show((3-k:Nat):Int)=3-(k:Int) by omega];exact this⟩),ar,?_⟩;refine go ?_;refine⟨λ_=>by simp[Vz],?_⟩;refine go ?_;exact ar
def s'(p:Int->Bool):Nat->List Int->Int
 |_,[]=>-1
 |i,x::r=>if p x then(i:Int)else s' p (i+1) r
theorem VB(p:Int->Bool):∀(l:List Int) (i:Nat),decide (0<=s' p i l)=l.any p
 |[],i=>by simp[s']
 |x::r,i=>by by_cases I:p x=true;simp[s',I];have:=VB p r (i+1);simp[s',I,this]
theorem agf(tg:iu)(T:List Int)(hT:T.length<1000000)(b7:Nat)(ct:List D)(p:Int->Bool)(na:∀k∈T,aU B b7 (u k::ct) (.bool (p k))):aU B 143 [.Q tg 1 (T.map (D.int .i64)),.fn (.func b7) [] ct] (u (s' p 0 T)):=by refine bA Tryz.func143 Tryz.ntmps143 λU=>?_;refine go ?_;refine X.loop (α:={i:Nat // i<=T.length/\s' p 0 T=s' p i (T.drop i)}) (λx=>[(0,.Q tg 1 (T.map (D.int .i64))),(1,.fn (.func b7) [] ct),(7,u (T.map (D.int .i64)).length),(8,u x.1)]) (λ_=>[]) (λx=>T.length-x.1) ⟨0,by simp⟩ ar trivial ?_;rintro⟨i,hi,bg⟩;refine go ?_;refine aJ (decide ((i:Int)<(T.map (D.int .i64)).length)) rfl ?_ ?_<;>intro hc;apply cr;(have aH:i<T.length:=by simpa using hc);have lh:=aue aH;refine kx ?_;refine ph ?_;refine p5 ?_;refine⟨u T[i],λ_=>by simp[aH],?_⟩;refine go ?_;refine⟨u T[i]::ct,_,λ_=>na T[i] (ate aH),⟨E,dK.refl _⟩,?_⟩;refine go ?_;refine aJ (p T[i]) rfl ?_ ?_<;>intro hc;refine go ?_;exact dr (bg.trans (by show s' p i (T.drop i)=(i:Int);rw[lh];simp[s',hc])).symm;refine go ?_;exact⟨⟨i+1,aH,by rw[bg,lh];simp[s',hc]⟩,axW,ar,ai⟩;refine go ?_;(have cd:i=T.length:=by simp at hc;omega);refine go ?_;exact dr (bg.trans (by rw[cd];simp[s'])).symm
theorem agh(tg:iu)(T:List Int)(hT:T.length<1000000)(b7:Nat)(ct:List D)(p:Int->Bool)(na:∀k∈T,aU B b7 (u k::ct) (.bool (p k))):aU B 146 [.Q tg 1 (T.map (D.int .i64)),.fn (.func b7) [] ct] (.bool (T.any p)):=by refine bA Tryz.func146 Tryz.ntmps146 λU=>?_;refine ph ?_;refine⟨_,_,λ_=>agf tg T hT b7 ct p na,ar,?_⟩;refine go ?_;exact aq.of_eq (as' D.bool (VB p T 0))
def At(n:Int):Bool:=decide (n<0)||decide (4294967296<=n)
theorem agi(n:Int):aU B 319 [u n] (.bool (At n)):=by refine bA Tryz.func319 Tryz.ntmps319 λU=>?_;refine go ?_;refine aq.of_eq (as' D.bool ?_);unfold At;cases decide (n<0)<;>rfl
theorem VC(tg:iu)(T:List Int)(hT:T.length<1000000):aU B 277 [.Q tg 1 (T.map (D.int .i64))] (.bool (!T.any At)):=by refine bA Tryz.func277 Tryz.ntmps277 λU=>?_;refine ph ?_;refine⟨_,_,λ_=>agh tg T hT 319 [] At (λk _=>agi k),ar,?_⟩;refine go ?_;exact E
def lq(Fu agj:as8):D:=.agg [.O Fu,u 1,.O agj]
theorem agk:aU B 161 [u 0] (.bo [lq [83,80] [190,239,0],u 0]):=by refine bA Tryz.func161 Tryz.ntmps161 λU=>?_;refine ck ?_;intro b;refine f' ?_;refine ie ?_;refine X.cond false rfl (λhc=>nomatch hc) (λhc=>?_);apply cr;refine qU ?_;refine .inl (.inl ⟨by simp[dg],?_⟩);refine go ?_;refine .inr (af.vb aM (aR:=[190,239,0]) (tg:=.dR) rfl rfl rfl rfl rfl rfl rfl ?_);refine go ?_;exact ar
theorem agl:aU B 236 [.O [82,82,73,80,95,49,57,57,49,65],.O [82,79,67,75,32,82,73,68,71,69],.O [77,65,83,84,69,82,68,73,83,67],u 1] (.bo [lq [69,82] ([10,10,10,1]++[82,82,73,80,95,49,57,57,49,65]++[82,79,67,75,32,82,73,68,71,69]++[77,65,83,84,69,82,68,73,83,67]),u 0]):=by refine bA Tryz.func236 Tryz.ntmps236 λU=>?_;refine ck ?_;intro b;refine f' ?_;refine ie ?_;refine X.cond false rfl (λhc=>nomatch hc) (λhc=>?_);apply cr;refine f' ?_;refine g9 ?_;refine g9 ?_;refine X.cond false rfl (λhc=>nomatch hc) (λhc=>?_);apply cr;refine ck ?_;refine .inl ⟨by simp[dg],?_⟩;(conv=>whnf);refine .inl ⟨by simp[dg],?_⟩;(conv=>whnf);refine .inl ⟨by simp[dg],?_⟩;(conv=>whnf);refine .inl ⟨by simp[dg],?_⟩;refine go ?_;refine .inr (af.vb aM (aR:=[10,10,10,1]) (tg:=.dR) rfl rfl rfl rfl rfl rfl rfl ?_);refine go ?_;refine mZ ?_;refine mZ ?_;refine mZ ?_;exact ar
def VD:D:=lq [69,82] ([10,10,10,1]++[82,82,73,80,95,49,57,57,49,65]++[82,79,67,75,32,82,73,68,71,69]++[77,65,83,84,69,82,68,73,83,67])
theorem agm:aU B 164 [] (VD):=by refine bA Tryz.func164 Tryz.ntmps164 λU=>?_;refine go ?_;intro b;refine ck ?_;refine⟨_,_,λ_=>agl,ar,?_⟩;refine go ?_;intro b;refine go ?_;exact E
def se(oU:Bool)(kind hf j_ j' ka:Int)(named:Bool)(name target:as8)(agn:Bool)(fh bX cA:Int)(jV:Bool):D:=.agg [.bool oU,u kind,u hf,u j_,u j',u ka,.bool named,.O name,.O target,.bool agn,u fh,u bX,u cA,.bool jV]
structure NS (kind hf j_ j' ka:Int) (named:Bool) (name target:as8) (fh bX:Int):Prop where
 gD:0<=kind
 cO:kind<=2
 ja:0<=hf
 m1:hf<=4095
 w:[j_,j',ka,bX,0].any At=false
 n:named=true->dQ name=true
 hX:named=false->name=[]
 t:target=[]\/k0 target=true
 t0:315532800<=fh
 IP:fh<=4102444799
 Cu:name.length<1000000000
 Fv:target.length<1000000000
theorem ago(aW:dc B)(kind hf j_ j' ka:Int)(named:Bool)(name target:as8)(fh bX:Int)(jV:Bool)(h:NS kind hf j_ j' ka named name target fh bX):aU B 230 [se true kind hf j_ j' ka named name target true fh bX 0 jV] (u 0):=by
 refine bA Tryz.func230 Tryz.ntmps230 λU=>?_;refine ck ?_;intro b;refine gK ?_
 repeat ((first|refine⟨rfl,?_⟩|refine⟨λh=>h,?_⟩|refine⟨λh0 h=>axM,?_⟩);(conv=>whnf))
 obtain⟨gD,cO,ja,m1,cH,ax,wE,au,t0,IP,Cu,Fv⟩:=h;refine X.cond false rfl (λhc=>nomatch hc) (λhc=>?_);refine go ?_
 repeat ((first|refine⟨rfl,?_⟩|refine⟨λh=>h,?_⟩|refine⟨λh0 h=>axM,?_⟩);(conv=>whnf))
 refine aJ _ rfl (λhc=>?_) (λbs=>?_)
 ··exact False.elim (by revert hc;cases named<;>simp_all)
 refine go ?_
 repeat ((first|refine⟨rfl,?_⟩|refine⟨λh=>h,?_⟩|refine⟨λh0 h=>axM,?_⟩);(conv=>whnf))
 refine aJ _ rfl (λhc=>?_) (λdx=>?_)
 ··exact False.elim (by have bY : decide (kind < 0) = false := by simp;omega
                        have b':decide (2<kind)=false:=by simp;omega
                        rw[bY,b']at hc;cases hc)
 refine go ?_
 repeat ((first|refine⟨rfl,?_⟩|refine⟨λh=>h,?_⟩|refine⟨λh0 h=>axM,?_⟩);(conv=>whnf))
 refine⟨_,_,λh=>yu aW name Cu,ar,?_⟩;refine go ?_
 repeat ((first|refine⟨rfl,?_⟩|refine⟨λh=>h,?_⟩|refine⟨λh0 h=>axM,?_⟩);(conv=>whnf))
 refine⟨_,_,λh=>Is aW target Fv,ar,?_⟩;refine go ?_
 repeat ((first|refine⟨rfl,?_⟩|refine⟨λh=>h,?_⟩|refine⟨λh0 h=>axM,?_⟩);(conv=>whnf))
 refine aJ _ rfl (λhc=>?_) (λmw=>?_)
 ··exact False.elim (by revert hc;rcases au with rfl|au<;>cases named<;>simp_all)
 refine go ?_
 repeat ((first|refine⟨rfl,?_⟩|refine⟨λh=>h,?_⟩|refine⟨λh0 h=>axM,?_⟩);(conv=>whnf))
 refine go ?_;refine⟨_,_,λ_=>VC .dR [j_,j',ka,bX,0] as1,ar,?_⟩;refine go ?_;refine aJ _ rfl (λhc=>?_) (λAu=>?_)
 ··exact False.elim (by have bY : decide (hf < 0) = false := by simp;omega
                        have b':decide (4095<hf)=false:=by simp;omega
                        rw[bY,b',cH]at hc;cases hc)
 refine go ?_
 repeat ((first|refine⟨rfl,?_⟩|refine⟨λh=>h,?_⟩|refine⟨λh0 h=>axM,?_⟩);(conv=>whnf))
 refine aJ _ rfl (λhc=>?_) (λw8=>?_)
 ··exact False.elim (by have bY : decide (fh < 315532800) = false := by simp;omega
                        have b':decide (4102444799<fh)=false:=by simp;omega
                        rw[bY,b']at hc;cases hc)
 refine go ?_;exact E
theorem agp(aW:dc B) : aU B 230 [se false 0 0 0 0 0 false [] [] false 0 0 1 false] (u 0):=by refine bA Tryz.func230 Tryz.ntmps230 λU=>?_;refine ck ?_;intro b;refine gK ?_;(repeat ((first|refine⟨rfl,?_⟩|refine⟨λh=>h,?_⟩|refine⟨λh0 h=>axM,?_⟩);(conv=>whnf)));refine X.cond false rfl (λhc=>nomatch hc) (λhc=>?_);refine ck ?_;(repeat ((first|refine⟨rfl,?_⟩|refine⟨λh=>h,?_⟩|refine⟨λh0 h=>axM,?_⟩);(conv=>whnf)));refine X.cond false rfl (λhc=>nomatch hc) (λbs=>?_);refine ck ?_;(repeat ((first|refine⟨rfl,?_⟩|refine⟨λh=>h,?_⟩|refine⟨λh0 h=>axM,?_⟩);(conv=>whnf)));refine X.cond false rfl (λhc=>nomatch hc) (λdx=>?_);refine go ?_;(repeat ((first|refine⟨rfl,?_⟩|refine⟨λh=>h,?_⟩|refine⟨λh0 h=>axM,?_⟩);(conv=>whnf)));refine⟨_,_,λh=>yu aW [] as2,ar,?_⟩;refine go ?_;(repeat ((first|refine⟨rfl,?_⟩|refine⟨λh=>h,?_⟩|refine⟨λh0 h=>axM,?_⟩);(conv=>whnf)));refine⟨_,_,λh=>Is aW [] as2,ar,?_⟩;(conv=>whnf);(repeat ((first|refine⟨rfl,?_⟩|refine⟨λh=>h,?_⟩|refine⟨λh0 h=>axM,?_⟩);(conv=>whnf)));refine X.cond false rfl (λhc=>nomatch hc) (λmw=>?_);refine go ?_;(repeat ((first|refine⟨rfl,?_⟩|refine⟨λh=>h,?_⟩|refine⟨λh0 h=>axM,?_⟩);(conv=>whnf)));refine go ?_;refine⟨_,_,λ_=>VC .dR [0,0,0,0,1] as2,ar,?_⟩;refine ie ?_;refine X.cond false rfl (λhc=>nomatch hc) (λAu=>?_);refine ck ?_;(repeat ((first|refine⟨rfl,?_⟩|refine⟨λh=>h,?_⟩|refine⟨λh0 h=>axM,?_⟩);(conv=>whnf)));refine X.cond false rfl (λhc=>nomatch hc) (λw8=>?_);refine go ?_;exact E
def ta(l:Int)(k:aa):Bool:=k.kind==0&&lo 2 k (l+1)
def k3(m:aa)(l:Int):Int:=if m.kind=0 then 2+(m.J.countP (ta l):Nat)else 1
theorem agq(p:aa->Bool)(L:List aa)(h:i<L.length):(L.take (i+1)).countP p=(L.take i).countP p+if p L[i]then 1 else 0:=by rw[atc h,List.countP_append];simp[List.countP_cons]
theorem VE(b:D)(m:aa)(l:Int)(sd:0<=l)(ku:l<=1000000)(hm:m.J.length<=1000000):aU B 163 [b,aE m,u l] (se true m.kind m.cx (k3 m l) m.n2 m.n3 false [] [] true m.n4 0 0 false):=by refine bA Tryz.func163 Tryz.ntmps163 λU=>?_;refine ck ?_;intro cT;(conv=>whnf);intro dY;refine ck ?_;refine X.lL (α:=Unit) (λx=>[(4,.box 4 cT 0),(6,.box 6 dY 0),(7,u (k3 m l))]) (λx=>[(4,.box cT (aE m).cells),(6,.box dY [.bool false,u 0,u 0,u 0,u 0,u 0,.bool false,.O [],.O [],.bool false,u 0,u 0,u 0,.bool false])]) ?_ ?_;refine i1 ?_;refine aJ (m.kind==0) rfl ?_ ?_<;>intro hc;apply b2;refine i1 ?_;apply oK;refine X.ec (α:={i:Nat // i<=m.J.length}) (λx=>[(2,u l),(4,.box 4 cT 0),(6,.box 6 dY 0),(7,u (2+((m.J.take x.1).countP (ta l):Nat))),(14,.Q .none 12 (m.J.map enc)),(15,u (m.J.map enc).length),(16,u x.1)]) (λx=>[(4,.box cT (aE m).cells),(6,.box dY [.bool false,u 0,u 0,u 0,u 0,u 0,.bool false,.O [],.O [],.bool false,u 0,u 0,u 0,.bool false])]) (λx=>m.J.length-x.1) ⟨0,by omega⟩ [(4,4),(6,6)] ⟨ar,rfl,bb⟩ ?_;rintro⟨i,hi⟩;apply b2;apply ep;refine aJ (decide ((i:Int)<(m.J.map enc).length)) rfl ?_ ?_<;>intro bs;apply cr;(have aH:i<m.J.length:=by simpa using bs);have Ix:=agq (ta l) m.J aH;have kn:(m.J.take i).countP (ta l)<=i:=auC (List.countP_le_length) as0;refine vf ?_;refine⟨aE m.J[i],λ_=>n7 aH,?_⟩;(conv=>whnf);intro iI;apply cB;refine i1 ?_;apply cB;apply g8;refine g9 ?_;refine hE ?_;refine⟨[u 2,aE m.J[i],u (l+1)],_,λh=>Fb 2 m.J[i] (l+1),ar,?_⟩;refine tU ?_;refine aJ (ta l m.J[i]) (by rw[ta];cases(m.J[i].kind==0)<;>rfl) ?_ ?_<;>intro dx;apply kw;refine g9 ?_;refine np ?_;exact⟨⟨i+1,aH⟩,[(4,4),(6,6)],by show m.J.length-(i+1)<m.J.length-i;omega,⟨E,E,E,dr (by show(2:Int)+((m.J.take i).countP (ta l):Nat)+1=2+((m.J.take (i+1)).countP (ta l):Nat);rw[Ix,as_ dx];omega),E,E,E,ai⟩,rfl,bb⟩;refine rP ?_;exact⟨⟨i+1,aH⟩,[(4,4),(6,6)],by show m.J.length-(i+1)<m.J.length-i;omega,⟨E,E,E,dr (by show(2:Int)+((m.J.take i).countP (ta l):Nat)=2+((m.J.take (i+1)).countP (ta l):Nat);rw[Ix,as9 (by simp[dx])];rfl),E,E,E,ai⟩,rfl,bb⟩;refine wM ?_;(have cd:i=m.J.length:=by simp at bs;omega);(have jT:m.kind=0:=by simpa using hc);exact⟨(),[(4,4),(6,6)],⟨E,E,dr (by show(2:Int)+((m.J.take i).countP (ta l):Nat)=k3 m l;rw[cd,ati,k3,as_ jT]),ai⟩,rfl,bb⟩;refine ff ?_;exact⟨(),[(4,4),(6,6)],⟨E,E,dr (by unfold k3;rw[as9 (by simpa using hc)]),ai⟩,rfl,bb⟩;rintro⟨⟩;refine i1 ?_;apply cB;apply cB;apply cB;apply cB;apply cB;apply Ee;refine eB ?_;exact E
theorem NT:Tryz.prog.underlying 161=some (.pointer 164):=by kernel_rfl
theorem VF:Tryz.prog.underlying 300=some .unsafePointer:=by kernel_rfl
theorem VG:(Tryz.prog.info? 164).map (·.size)=some 2:=by kernel_rfl
theorem agr:liesAt Tryz.prog Tryz.prog.depth 164 (2/Tryz.prog.cellsOf 164) 0 164 1=true:=by kernel_rfl
theorem ags(b:Nat)(w:World)(h0:w.cell? ⟨b,0,none⟩=some (.pointer (some ⟨b,0,none⟩))): Calls Tryz.prog 154 #[.pointer (some ⟨b,0,none⟩)] w λe w'=>e=.returned (.tuple #[])/\w'=w:=by obtain⟨j,ad,_⟩:=auj.1 VG;go_enter Tryz.func154,Tryz.ntmps154;go_wp2;rw[Lib.run_neq_ptr_same w _ NT ad];go_wp2;go_end0;exact⟨rfl,rfl⟩
theorem agt(b:Nat)(w:World)(h0:w.cell? ⟨b,0,none⟩=some (.pointer none))(hA:w.shape? b=some (164,2))(H1:w.frozen? ⟨b,0,none⟩=false): Calls Tryz.prog 154 #[.pointer (some ⟨b,0,none⟩)] w λe w'=>e=.returned (.tuple #[])/\w'=w.setCell ⟨b,0,none⟩ (.pointer (some ⟨b,0,none⟩)):=by obtain⟨j,ad,agu⟩:=auj.1 VG;go_enter Tryz.func154,Tryz.ntmps154;go_wp2;rw[Lib.run_to_unsafe w ⟨b,0,none⟩ NT VF ad (by rw[agu];decide) hA (Nat.zero_lt_succ 1)];simp only[Result.andThen];rw[Oper.upon_value];go_wp2;rw[run_callFunc_extern Tryz.func218 as4 as4 as4 (e:=Extern.AbiNoEscape.same) as4];rw[Lib.run_noEscape];simp only[Result.andThen];rw[Oper.upon_value];go_wp2;rw[Lib.run_from_unsafe w ⟨b,0,none⟩ VF NT ad hA agr];simp only[Result.andThen];rw[Oper.upon_value];go_wp2;go_end0;exact⟨rfl,rfl⟩
theorem VH(w:World)(C:Nat->Nat):bh w C (.bo []) (.tuple #[]):=by exact .bo [] [] rfl (λj d v N W=>by simp at N)
def IQ(b:Nat):D:=.al (.pointer (some ⟨b,0,none⟩))
theorem VI(b:Nat)(p:Value)(d:D)(o:aI)(aw:p=.pointer none\/p=.pointer (some ⟨b,0,none⟩)):cZ B 154 [.box 6000 b 0] (aK [(6000,.kN b 164 [.al p,d]),(6001,o)]) λr aO=>r=.bo []/\aO=aK [(6000,.kN b 164 [IQ b,d]),(6001,o)]:=by refine⟨js Tryz.func154 rfl as3,λw C args Ft gd qQ hH kr=>?_⟩;obtain⟨nA,ae⟩:=kr;match args,nA with|[a],_ =>have ha:=(ae 0 _ a rfl rfl).wu;subst ha;obtain⟨vs,F,hZ,df⟩:=hH.ch 6000 _ rfl;(match vs,hZ.1 with|[BO,v],_ =>have zT:=(hZ.2 0 _ BO rfl rfl).gb;subst zT;(have h6:w.cell? ⟨b,0,none⟩=some BO:=by rw[Lib.cell_of_heap F];rfl);rcases aw with rfl|rfl;refine(agt b w h6 (by simp[World.shape?,F]) (Lib.frozen_of_heap F 0)).mono ?_;rintro e w' ⟨rfl,rfl⟩;have bi:b<w.heap.size:=(auW.1 F).1;(have bY:w.setCell ⟨b,0,none⟩ (.pointer (some ⟨b,0,none⟩))={w with heap:=w.heap.setIfInBounds b (.cells #[.pointer (some ⟨b,0,none⟩),v] 164 (0,0))}:=by(have aV:w.heap[b]=.cells #[.pointer none,v] 164 (0,0):=by have:=auH bi;rw[this]at F;exact at3 F);unfold World.setCell;congr 1;apply Array.ext;simp;intro i h1 A;by_cases hi:i=b;subst hi;simp[Array.getElem_modify,aV];rw[Array.getElem_setIfInBounds];simp[Array.getElem_modify,Ne.symm hi];simpa using A);have a1:=da.Hu (bL:=.cells #[.pointer (some ⟨b,0,none⟩),v] 164 (0,0)) F df;(have pf:({w with heap:=w.heap.setIfInBounds b (.cells #[.pointer (some ⟨b,0,none⟩),v] 164 (0,0))}:World).heap[b]?=some (.cells #[.pointer (some ⟨b,0,none⟩),v] 164 (0,0)):=by simp[bi]);rw[<-bY]at a1 pf;have bM:=hH.cN 6000 _ b rfl rfl;(have key:∀s x,aK [(6000,aI.kN b 164 [IQ b,d]),(6001,o)] s=some x->(s=6000/\x=.kN b 164 [IQ b,d])\/(s=6001/\x=o):=λs x h=>by simp only[aK]at h;cases h1:Nat.beq s 6000 with|true=>rw[h1]at h;exact .inl ⟨atx h1,(at3 h).symm⟩|false =>rw[h1]at h;(cases A:Nat.beq s 6001 with|true=>rw[A]at h;exact .inr ⟨atx A,(at3 h).symm⟩|false=>rw[A]at h;cases h));(have kt:∀s x,aK [(6000,aI.kN b 164 [IQ b,d]),(6001,o)] s=some x->∃y,aK [(6000,aI.kN b 164 [.al (.pointer none),d]),(6001,o)] s=some y/\∀V,x.ef V->y.ef V:=λs x h=>by rcases key s x h with⟨rfl,rfl⟩|⟨rfl,rfl⟩;exact⟨_,rfl,λV bH=>bH⟩;exact⟨_,rfl,λV bH=>bH⟩);refine⟨_,_,C,_,rfl,⟨rfl,rfl⟩,VH _ _,(da.refl Ft w C).trans a1 (λx _ I=>by subst I;exact bM),⟨λs x h=>?_,λs bq x y V ax h1 A an cW=>?_,λs x V h an=>?_⟩⟩;rcases key s x h with⟨rfl,rfl⟩|⟨rfl,rfl⟩;exact⟨[_,v],pf,.cons (.al _) (.cons ((hZ.2 1 _ v rfl rfl).ext a1.ext) (.nil _ _)),df⟩;exact(hH.ch 6001 _ rfl).iv a1.ext λV bH=>a1.iv V ((hH.ch 6001 _ rfl).lt bH) (λe=>by subst e;exact hH.inj 6001 6000 _ _ V as2 rfl rfl bH rfl);obtain⟨b0,Z,aD⟩:=kt s x h1;obtain⟨Sn,bc,cL⟩:=kt bq y A;exact hH.inj s bq b0 Sn V ax Z bc (aD V an) (cL V cW);obtain⟨b0,Z,aD⟩:=kt s x h;exact .inl (hH.cN s b0 V Z (aD V an));refine(ags b w h6).mono ?_;rintro e w' ⟨rfl,rfl⟩;exact⟨_,_,C,_,rfl,⟨rfl,rfl⟩,VH _ _,.refl _ _ _,⟨hH.ch,hH.inj,λs x y h1 A=>.inl (hH.cN s x y h1 A)⟩⟩)
def nE(l:as8):List D:=l.map λc=>D.int .u8 c.toNat
theorem VJ(a b:as8):nE (a++b)=nE a++nE b:=atO
theorem um(a:as8):(nE a).length=a.length:=atb _
abbrev yF(b:Nat)(p v:Value)(xs:as8):List (Nat×aI):=[(6000,.kN b 164 [.al p,.al v]),(6001,.row v (nE xs) 1 5)]
abbrev qp(b:Nat):Value:=.pointer (some ⟨b,0,none⟩)
theorem VK(b:Nat)(p v:Value)(xs s:as8)(aw:p=.pointer none\/p=qp b)(aj:xs.length+s.length<=100000000): cZ B 105 [.box 6000 b 0,.O s] (aK (yF b p v xs)) λd aO=>∃c',True/\d=.bo [u s.length,.al .nilIface]/\aO=aK (yF b (qp b) c' (xs++s)):=by refine z7 Tryz.func105 Tryz.ntmps105 λU=>?_;refine go ?_;refine mn [(6000,6000),(6001,6001)] (VI b p (.al v) (.row v (nE xs) 1 5) aw) ?_;refine .inr (af.HV aM rfl rfl ?_);refine eB ?_;refine c1 ?_;refine .inr (af.adn aM 6001 rfl rfl rfl as2 rfl as4 rfl rfl rfl (by rw[um];show _*1<=_;omega) (by rw[um];omega) λgT cx Av=>?_);(conv=>whnf);refine c1 ?_;refine .inr (af.SP aM rfl rfl rfl ?_);(conv=>whnf);refine c1 ?_;refine X.zU 14 6001 rfl ?_;refine go ?_;exact⟨.bo [u s.length,.al .nilIface],ar,.slice gT cx Av,ai,rfl,rfl,by rw[VJ];rfl,ai⟩
theorem agv(b:Nat)(p v:Value)(tg:iu)(xs s:as8)(aw:p=.pointer none\/p=qp b)(h0:0<s.length)(aj:xs.length+s.length<=100000000): cZ B 280 [.box 6000 b 0,.Q tg 1 (nE s)] (aK (yF b p v xs)) λd aO=>∃c',True/\d=.bo [u (nE s).length,.al .nilIface]/\aO=aK (yF b (qp b) c' (xs++s)):=by refine z7 Tryz.func280 Tryz.ntmps280 λU=>?_;refine go ?_;refine mn [(6000,6000),(6001,6001)] (VI b p (.al v) (.row v (nE xs) 1 5) aw) ?_;refine .inr (af.HV aM rfl rfl ?_);refine eB ?_;refine c1 ?_;refine .inr (af.oJ aM 6001 rfl rfl rfl as2 rfl rfl rfl (by rw[um];exact h0) (by rw[um,um];show _*1<=_;omega) (by rw[um,um];omega) λgT cx Av=>?_);(conv=>whnf);refine c1 ?_;refine .inr (af.SP aM rfl rfl rfl ?_);(conv=>whnf);refine c1 ?_;refine X.zU 14 6001 rfl ?_;refine go ?_;exact⟨.bo [u (nE s).length,.al .nilIface],ar,.slice gT cx Av,ai,rfl,rfl,by rw[VJ];rfl,ai⟩
theorem VL(b:Nat)(p v:Value)(xs:as8)(aj:xs.length<=100000000)(h0:0<xs.length): cZ B 107 [.box 6000 b 0] (aK (yF b p v xs)) λd aO=>d=.O xs/\aO=aK []:=by refine ko Tryz.func107 Tryz.ntmps107 λU=>?_;apply ep;refine go ?_;refine X.ac5 6001 rfl (by rw[um];exact h0) λdX cap W pk x5=>?_;subst W;refine' eJ (yF b p (.slice (some ⟨dX,0,none⟩) (nE xs).length cap) xs) 0 (λy=>[_,_,_,.al (.slice (some ⟨dX,0,none⟩) (nE xs).length cap),.al (.pointer (some ⟨dX,0,none⟩)),_,_,_,.al (.slice (some ⟨dX,0,none⟩) (nE xs).length cap),u (nE xs).length,.O xs,_]) (λy=>[(10,6001,none)]) [0,1,3,7,15,0,32,96,224,480,1023,2047] [(10,6001)] ?_ ?_;rotate_left 7;refine dw ?_;refine bJ (λy=>af.HV aM rfl rfl ⟨rfl,cl y⟩) ?_;refine bJ (λy=>af.acY rfl (by rw[um]at pk;omega) (cl y)) ?_;refine bJ (λy=>af.HV aM rfl rfl ⟨rfl,cl y⟩) ?_;refine bJ (λy=>af.ac1 aM (b:=dX) (cap:=cap) (aR:=xs) 6001 as4 rfl rfl (by rw[um];rfl) rfl (by rw[um];rfl) h0 asZ (cl y)) ?_;exact trivial;intro _;(conv=>whnf);refine go ?_;exact⟨.O xs,E,rfl,ai⟩
end Go.bS.cj
