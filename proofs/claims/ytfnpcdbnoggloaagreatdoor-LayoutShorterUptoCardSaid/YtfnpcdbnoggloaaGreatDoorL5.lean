/- Contracts of the program's functions, part 5. No conditions of its own. -/
import Derived.Test.YtfnpcdbnoggloaaGreatDoorL4
set_option linter.unnecessarySimpa false
set_option linter.unusedSimpArgs false
set_option linter.unusedVariables false
set_option maxRecDepth 100000
set_option maxHeartbeats 16000000
namespace Go.bV.ct
open Go Go.Proofs
variable{B:World}
theorem Pv(m c:Nat)(hm:m<65536)(hc:c<65536):0<=qy .or .i64 (m:Int) (c:Int)/\qy .or .i64 (m:Int) (c:Int)<4294967296:=by(have h1:(BitVec.ofInt 64 (m:Int) ||| BitVec.ofInt 64 (c:Int)).toNat=m ||| c:=by rw[BitVec.toNat_or];congr 1<;>(rw[BitVec.toNat_ofInt];omega));(have A:m ||| c<2 ^ 16:=Nat.or_lt_two_pow auD auD);(have aa:qy .or .i64 (m:Int) (c:Int)=((m ||| c:Nat):Int):=by unfold qy;show IntKind.i64.wrap ((BitVec.ofInt 64 (m:Int) ||| BitVec.ofInt 64 (c:Int)).toNat:Int)=_;rw[h1];exact Ll (by simp only[dz];omega));rw[aa];omega
theorem Yh(hk kind:Int)(h0:0<=hk)(h1:hk<=4095):0<=um hk kind/\um hk kind<4294967296:=by obtain⟨m,rfl⟩:=Int.eq_ofNat_of_zero_le h0;unfold um IW;split;exact Pv m 16384 auD auD;split;exact Pv m 32768 auD auD;exact Pv m 40960 auD auD
structure xx (m:U):Prop where
 gz:0<=m.kind
 cP:m.kind<=2
 nE:0<=m.cu
 m1:m.cu<=4095
 u0:0<=m.n2
 u1:m.n2<4294967296
 Gk:0<=m.n3
 g1:m.n3<4294967296
 t0:315532800<=m.n4
 IU:m.n4<=4102444799
 tg:m.target=[]\/k7 m.target=true
 CG:m.name.length<1000000
 Fy:m.target.length<1000000
 zy:m.F.length<=1000000
theorem Pw(m:U)(l:Int)(h:m.F.length<=1000000):0<=jR m l/\jR m l<4294967296:=by unfold jR;have:=List.countP_le_length (p:=oY l) (l:=m.F);split<;>omega
theorem Gl{n:Int}(h0:0<=n)(h1:n<4294967296):AB n=false:=by unfold AB;rw[awe];exact⟨avw auD,avw auD⟩
theorem xx.bi{m:U}(h:xx m)(l:Int)(named:Bool)(name target:auM)(bX:Int)(ar:named=true->dS name=true)(wK:named=false->name=[])(ax:target=[]\/k7 target=true)(ky:name.length<1000000)(i7:target.length<1000000)
  (jn:0<=bX) (e6:bX<4294967296):N4 m.kind m.cu (jR m l) m.n2 m.n3 named name target m.n4 bX where
 gz:=h.gz
 cP:=h.cP
 nE:=h.nE
 m1:=h.m1
 w:=by
  have:=Pw m l h.zy;simp only[axU,List.any_nil,Gl this.1 this.2,Gl h.u0 h.u1,Gl h.Gk h.g1,Gl jn e6,Gl (avK 0) (by decide:(0:Int)<4294967296)];rfl
 n:=ar
 dK:=wK
 t:=ax
 t0:=h.t0
 IU:=h.IU
 CG:=auD
 Fy:=auD
theorem Yi(i:Int):aT B 173 [u i] (u 1):=by refine fn Tryz.func173 Tryz.ntmps173 λW=>?_;refine go ?_;exact t6
def AW(n:U):List c7:=⟨[83,80],1,[190,239,0]⟩::(uo n.kind n.cu (jR n 1) n.n2 n.n3 false [] [] n.n4 0 false++[⟨[69,82],1,[10,10,10,1]++[82,82,73,80,95,49,57,57,49,65]++[82,79,67,75,32,82,73,68,71,69]++[77,65,83,84,69,82,68,73,83,67]⟩])
theorem Px(kind hk kd ke kf:Int)(named:Bool)(name target:auM)(fj bX:Int)(jQ:Bool):(uo kind hk kd ke kf named name target fj bX jQ).length<=6:=by unfold uo;simp only[auX,auV];(repeat' split);all_goals simp
theorem ak4(aX:dk B)(f:D)(o:fk)(n:U)(bW bG:Nat)(h:xx n):aT B 160 [f,.a7 1 [.a7 26 [dH o n bW bG] 0 0] 0 0] (.T .none 3 (eL (AW n))):=by have VC:=Pw n 1 h.zy;have v':=Px n.kind n.cu (jR n 1) n.n2 n.n3 false [] [] n.n4 0 false;refine fn Tryz.func160 Tryz.ntmps160 λW=>?_;refine go ?_;refine bq ahl ?_;intro cJ;(conv=>whnf);refine go ?_;refine yh ?_;refine bq (VZ (.a7 26 [dH o n bW bG] 0 0) n 1 auD auD h.zy) ?_;refine bq (Wd aX n.kind n.cu (jR n 1) n.n2 n.n3 false [] [] n.n4 0 false (h.bi 1 false [] [] 0 auK (λ_=>rfl) (.inl rfl) auF auF auD auD) (Yh n.cu n.kind h.nE h.m1) (λx J=>by simp at J;have:=h.u0;have:=h.u1;have:=h.Gk;have:=h.g1;rcases J with rfl|rfl|rfl|rfl<;>omega)) ?_;have qZ:AW n=⟨[83,80],1,[190,239,0]⟩::(uo n.kind n.cu (jR n 1) n.n2 n.n3 false [] [] n.n4 0 false++[⟨[69,82],1,[10,10,10,1]++[82,82,73,80,95,49,57,57,49,65]++[82,79,67,75,32,82,73,68,71,69]++[77,65,83,84,69,82,68,73,83,67]⟩]):=rfl;rw[qZ];clear qZ;generalize uo n.kind n.cu (jR n 1) n.n2 n.n3 false [] [] n.n4 0 false=eu at*;(have fr:(eL eu).length<=6:=by rw[eL,auS];exact v');refine MN (by show(1+_)*40<=_;omega) (by show 1+_<=_;omega) λv=>?_;refine bq ahn ?_;intro v2;(conv=>whnf);refine go ?_;refine aed ?_;simp[eL,lE,AG,VY,D.jk,sB]
def JD:List c7:=[⟨[80,76],1,hl [1]⟩]
theorem ak5(aX:dk B)(d:eE):aT B 165 [.fn (.func 173) [] [],.a7 6 [gD d] 0 0] (.T .none 3 (eL JD)):=by refine fn Tryz.func165 Tryz.ntmps165 λW=>?_;refine go ?_;refine bq (Yi d.C4) ?_;refine bq (ahW aX) ?_;exact t6
theorem ak6(s:auM):aT B 168 [.N s,.N [47]] (u ((s.count 47:Nat):Int)) :=
 .pure (jt Tryz.func168 rfl auH) rfl rfl λw _=>(Tryz.strings_Count_one ⟨⟨s⟩⟩ 47 w).mono λe w' ⟨aq,cz⟩=>⟨by
  rw[aq]
  rfl,cz⟩
def C6(n:U)(e:gf)(Gm:auM):List c7:=uo n.kind n.cu (jR n ((e.path.count 47:Nat)+2)) n.n2 n.n3 true n.name n.target n.n4 (if e.AV=true then 1 else 0) (Gm==[47])
theorem ak7(aX:dk B)(o:fk)(ia:U)(bW bG:Nat)(n:U)(bO:Nat)(cE:List (auM×Int))(aL:List eE)(e:gf)(d:eE)(h:xx n)(ar:dS n.name=true)(aw:e.path.length<=100000)(hi:0<=e.eW/\aL[e.eW.toNat]?=some d): c4 B 167 [.fn (.func 173) [] [],.a7 1 [.a7 26 [dH o ia bW bG] 0 0] 0 0,.a7 12 [az n] 0 0,.a7 7 [fo e] 0 0,.a7 1 [.am (.map (some bO))] 0 0,.a7 1 [.T .none 6 (aL.map gD)] 0 0] (aM [(7100,.mp bO (br (D.int .i64) cE))]) λr aO=>r=.T .none 3 (eL (C6 n e d.path))/\aO=aM [(7100,.mp bO (br (D.int .i64) cE))]:=by have IB:e.path.count 47<=100000:=av6 (List.count_le_length ..) aw;refine kv Tryz.func167 Tryz.ntmps167 λW=>?_;refine go ?_;have VC:=Pw n ((e.path.count 47:Nat)+2) h.zy;have as6:=ak6 (B:=B) e.path;have as7:=VZ (B:=B) (.a7 26 [dH o ia bW bG] 0 0) n ((e.path.count 47:Nat)+2) auD auD h.zy;refine' eU [(7100,.mp bO (br (D.int .i64) cE))] 0 (λy=>[_,_,_,_,_,_,_,.box 8 y 0,.any]) (λy=>[(7,8,some (.box y [.bool false,u 0,u 0,u 0,u 0,u 0,.bool false,.N [],.N [],.bool false,u 0,u 0,u 0,.bool false])),(8,8,some (.box y (r' true n.kind n.cu (jR n ((e.path.count 47:Nat)+2)) n.n2 n.n3 false [] [] true n.n4 0 0 false).cells))]) [0,0,0,4,12,28,63,0,255] [(7,8),(8,8)] ?_ ?_;rotate_left 7;refine dB ?_;refine Em ?_;refine vs ?_;exact trivial;intro cG;(conv=>whnf);refine go ?_;refine' eU [(7100,.mp bO (br (D.int .i64) cE)),(8,.box cG (r' true n.kind n.cu (jR n ((e.path.count 47:Nat)+2)) n.n2 n.n3 false [] [] true n.n4 0 0 false).cells)] 0 (λy=>[_,_,_,_,_,.any,_,.any,_,.any]) (λy=>[(5,8,some (.box cG (r' true n.kind n.cu (jR n ((e.path.count 47:Nat)+2)) n.n2 n.n3 true [] [] true n.n4 0 0 false).cells)),(7,8,some (.box cG (r' true n.kind n.cu (jR n ((e.path.count 47:Nat)+2)) n.n2 n.n3 true n.name [] true n.n4 0 0 false).cells)),(9,8,some (.box cG (r' true n.kind n.cu (jR n ((e.path.count 47:Nat)+2)) n.n2 n.n3 true n.name n.target true n.n4 0 0 false).cells))]) [0,1,0,4,0,16,51,115,255,511] [(5,8),(7,8),(9,8)] ?_ ?_;rotate_left 7;refine dB ?_;refine vs ?_;refine vs ?_;refine vs ?_;exact trivial;intro _;(conv=>whnf);refine go ?_;refine nt (α:=Unit) (λ_=>True) [0,1,2,3,4,5,8] [7100] (λ_=>[]) (λ_=>[(8,.box cG (r' true n.kind n.cu (jR n ((e.path.count 47:Nat)+2)) n.n2 n.n3 true n.name n.target true n.n4 (if e.AV=true then 1 else 0) 0 false).cells)]) ?_ ?_;refine gV (t:=e.AV) (λhc=>?_) (λhc=>?_);refine dR (ah.qp (Q:=(0:Int)) (em:=9) (eB:=3) 7100 auI auI rfl rfl rfl (λw=>by rfl) (λw C=>.int _ _)) ?_;refine bq (Yi _) ?_;refine gL () [(7100,7100),(8,8)] trivial ⟨cX,rfl,?_⟩;simp only[auO hc];exact cX;refine gL () [(7100,7100),(8,8)] trivial ⟨cX,rfl,?_⟩;simp only[hc];exact cX;intro _ _;have jG:e.eW.toNat<aL.length:=fu hi.2;(have yY:aL[e.eW.toNat]=d:=by have:=hi.2;rw[auR jG]at this;exact avB this);have kE:=hi.1;(have bg:e.eW<((aL.map gD).length:Nat):=by rw[auS];omega);refine go ?_;subst yY;refine bq (Wd aX n.kind n.cu (jR n ((e.path.count 47:Nat)+2)) n.n2 n.n3 true n.name n.target n.n4 (if e.AV=true then 1 else 0) (aL[e.eW.toNat].path==[47]) (h.bi _ true n.name n.target (if e.AV=true then 1 else 0) (λ_=>ar) auK h.tg h.CG h.Fy (by split<;>omega) (by split<;>omega)) (Yh n.cu n.kind h.nE h.m1) (λx J=>by simp at J;have:=h.u0;have:=h.u1;have:=h.Gk;have:=h.g1;rcases J with rfl|rfl|rfl|rfl<;>first|omega|(split<;>omega))) ?_;exact⟨_,t6,rfl,a_⟩
inductive Py where
 |e4
 |Gn
 |dp (d:eE)
 |AX (n:U) (e:gf)
structure bz where
 id:auM
 fj:Int
 c6:Int
 gI:Int
 leads:Int
 g0:Py
def kp(bY:D)(bO:Nat)(aL:List eE):Py->D
 |.e4=>.fn (.func 229) [] []
 |.Gn=>.fn (.func 160) [] [.a7 1 [bY] 0 0]
 |.dp d=>.fn (.func 165) [] [.a7 6 [gD d] 0 0]
 |.AX n e=>.fn (.func 167) [] [.a7 1 [bY] 0 0,.a7 12 [az n] 0 0,.a7 7 [fo e] 0 0,.a7 1 [.am (.map (some bO))] 0 0,.a7 1 [.T .none 6 (aL.map gD)] 0 0]
theorem JE(bY:D)(bO:Nat)(aL:List eE)(s:Py):(kp bY bO aL s).one=true:=by cases s<;>rfl
def iR(S L:D)(x:bz):D:=.agg [.N x.id,u 0,u 0,u x.fj,u x.c6,u x.gI,u 1,.N [],u x.leads,S,L,.bd]
section
variable(o:fk)(ai:List (auM×U))(aL:List eE)
def gr(p:auM):U:=(co ai p).getD AQ
def sl(i:Nat)(d:eE):bz:=⟨[0],(gr ai d.path).n4,o.c6,2,i,if i=0/\o.rock=true then .Gn else .e4⟩
def Pz(d:eE):auM:=((aL[d.cv.toNat]?).map (·.path)).getD []
def sm(d:eE):bz:=⟨[1],(gr ai (Pz aL d)).n4,o.c6,2,d.cv,if d.jQ=true then .dp d else .e4⟩
def JF(e:gf):Int:=let f:=if 0<=e.bc then 2 else 0;if e.gb=true then qy .or .i64 f 1 else f
def o3(e:gf):bz:=⟨e.id,(gr ai e.path).n4,o.c6,JF e,e.bc,if e.C5=true then .AX (gr ai e.path) e else .e4⟩
def eT(b7:List gf)(i:Nat):List bz:=match aL[i]? with
 |some d=>sl o ai i d::sm o ai aL d::(b7.filter λe=>e.eW==(i:Int)).map (o3 o ai)
 |none=>[]
def o4(n:Nat):List (auM×Int):=((aL.take n).zipIdx).foldl (λm x=>fz m x.1.path (x.2:Nat)) []
end
variable{aL:List eE}{i:Nat}
theorem ak8(h:i<aL.length):o4 aL (i+1)=fz (o4 aL i) aL[i].path (i:Nat):=by unfold o4;rw[auU h,List.zipIdx_append,avW];simp[au9,axm (Nat.le_of_lt h)]
def nJ(bY:D)(bO:Nat)(aL:List eE)(vs:Nat->Value)(ba:Nat->List bz)(n:Nat):bH:=λk=>if 10000<=k/\k<10000+n then some (.row (vs (k-10000)) ((ba (k-10000)).map λx=>iR (kp bY bO aL x.g0) .bd x) 12 234)else none
def lh(aL:List eE)(vs:Nat->Value)(n:Nat):List D:=(aL.take n).mapIdx λi d=>nI d.id d.cv (vs i) 0 0
theorem wa(aL:List eE)(vs:Nat->Value)(n:Nat):(lh aL vs n).length=min n aL.length:=by simp[lh]
theorem ak9(bY:D)(bO:Nat)(aL:List eE)(vs:Nat->Value)(ba:Nat->List bz):nJ bY bO aL vs ba 0=λ_=>none:=funext λk=>auN auD
theorem AY(bY:D)(bO:Nat)(aL:List eE)(vs:Nat->Value)(ba:Nat->List bz)(n:Nat):qa (nJ bY bO aL vs ba n):=λk o h=>by
 unfold nJ at h;split at h
 ·omega
 cases h
variable{bO:Nat}{ba:Nat->List bz}
theorem ak_{bY:D}{vs:Nat->Value}{n:Nat}(h:i<n):nJ bY bO aL vs ba n (10000+i)=some (.row (vs i) ((ba i).map λx=>iR (kp bY bO aL x.g0) .bd x) 12 234):=by unfold nJ;rw[auO auD,av0]
variable{gv:Nat->Value}{v:Value}{row:List D}
theorem ak'{bY:D}{vs:Nat->Value}{n:Nat}(X:gv n=v)(gc:∀j,j<n->gv j=vs j)(af:((ba n).map λx=>iR (kp bY bO aL x.g0) .bd x)=row):
  ∀k o,nJ bY bO aL gv ba (n+1) k=some o->10000<=k/\((k=10000+n/\o=.row v row 12 234)\/(k≠10000+n/\nJ bY bO aL vs ba n k=some o)):=λk o h=>by
 unfold nJ at h;split at h
 ·rename_i Z;refine⟨Z.1,?_⟩;by_cases gd:k=10000+n
  ·subst gd;rw[av0,X,af]at h;exact .inl ⟨rfl,(avB h).symm⟩
  refine .inr ⟨gd,?_⟩;unfold nJ;rw[auO auD,<-gc (k-10000) auD];exact h
 cases h
theorem ala{vs:Nat->Value}{n:Nat}{d:eE}(h:n<aL.length)(O:aL[n]=d)(gc:∀j,j<n->gv j=vs j):lh aL vs n++[nI d.id d.cv (gv n) 0 0]=lh aL gv (n+1):=by unfold lh;rw[auU h,List.mapIdx_append,O];congr 1;apply av2;intro j;simp only[avI];rcases au6 j n with ad|ad;rw[gc j ad];rw[au0 auE];rfl;simp[axm (Nat.le_of_lt h)]
theorem Yj{vs:Nat->Value}{n:Nat}(h:i<aL.length)(ar:i<n):(lh aL vs n)[i]?=some (nI aL[i].id aL[i].cv (vs i) 0 0):=by unfold lh;rw[avI,List.getElem?_take_of_lt ar,auR h];rfl
theorem alb{vs:Nat->Value}{n:Nat}(h:i<aL.length)(X:gv i=v)(gc:∀j,j≠i->gv j=vs j):(lh aL vs n).set i (nI aL[i].id aL[i].cv v 0 0)=lh aL gv n:=by apply av2;intro j;rw[awL];by_cases d6:i=j;subst d6;rw[auO rfl];by_cases ar:i<n;rw[auO (by rw[wa];omega),Yj h ar,X];rw[auN (by rw[wa];omega),au0 (by rw[wa];omega)];rw[auN d6];unfold lh;simp only[avI];rw[gc j (λh=>d6 h.symm)]
theorem alc{bY:D}{vs:Nat->Value}{PA:Nat->List bz}{n:Nat}(X:gv i=v)(gc:∀j,j≠i->gv j=vs j)(af:((PA i).map λx=>iR (kp bY bO aL x.g0) .bd x)=row)(xn:∀j,j≠i->PA j=ba j):
  ∀k o,nJ bY bO aL gv PA n k=some o->10000<=k/\((k=10000+i/\o=.row v row 12 234)\/(k≠10000+i/\l4 (nJ bY bO aL vs ba n) (10000+i) k=some o)):=λk o h=>by
 unfold nJ at h;split at h
 ·rename_i Z;refine⟨Z.1,?_⟩;by_cases gd:k=10000+i
  ·subst gd;rw[av0,X,af]at h;exact .inl ⟨rfl,(avB h).symm⟩
  refine .inr ⟨gd,?_⟩;unfold l4 nJ;rw[awv gd,auO Z,<-gc (k-10000) auD,<-xn (k-10000) auD];exact h
 cases h
variable{ai:List (auM×U)}{b7:List gf}{k:Nat}
theorem Yk{o:fk}(h:k<b7.length):eT o ai aL (b7.take (k+1)) i=if b7[k].eW=(i:Int)/\i<aL.length then eT o ai aL (b7.take k) i++[o3 o ai b7[k]]else eT o ai aL (b7.take k) i:=by unfold eT;rw[auU h];by_cases hi:i<aL.length;rw[auR hi];by_cases aq:b7[k].eW=(i:Int);rw[auO ⟨aq,hi⟩,av7,avo,List.filter_cons_of_pos (by simp[aq])];rfl;rw[auN (λh=>aq h.1),av7,List.filter_cons_of_neg (by simp[aq]),List.filter_nil,avC];rw[auN (λh=>hi h.2),au0 auD]
theorem Gp{o:fk}:(eT o ai aL b7 i).length<=b7.length+2:=by unfold eT;split;simp only[auX,auS];have:=avn (λe:gf=>e.eW==(i:Int)) b7;omega;simp
theorem C7{H:bH}(h:qa H)(gz:Nat):qa (l4 H gz):=λk o e=>by
 unfold l4 at e
 cases G:Nat.beq k gz with
 |true=>rw[G]at e;cases e
 |false=>rw[G]at e;exact h k o e
theorem Yl(o:fk)(n m:U)(bW bG:Nat)(id path:auM)(fj c6 gI leads:Int):c4 B 166 [.a7 26 [dH o n bW bG] 0 0,ot id fj c6 gI leads .bd,az m,.N path] (aM [(4104,.mp bG (br bj []))]) λd aO=>d=ot id fj c6 gI leads .bd/\aO=aM [(4104,.mp bG (br bj []))] :=
 c8.sub (akj o n m bW bG id path fj c6 gI leads) λd aO ⟨h1,b,aD,A⟩=>⟨aM [(4104,.mp bG (br bj []))],yj.get (l:=[(4104,.mp bG (br bj []))]) ⟨by rw[A];rfl,ak⟩,h1,rfl⟩
theorem ald(o:fk)(n:U)(bW bG:Nat)(ai:List (auM×U))(aL:List eE)(b7:List gf)(y5:Int)(Gq:aT B 158 [az n,.bool o.rock] (.bm [.T .none 6 (aL.map gD),.T .none 7 (b7.map fo),u y5]))(O:aL.length<=1000000)(fr:b7.length<=1000000)(s4:∀d∈aL,0<=d.cv/\d.cv<(aL.length:Nat))(mV:∀e∈b7,0<=e.eW/\e.eW<(aL.length:Nat)): c4 B 109 [.a7 26 [dH o n bW bG] 0 0] (aM [(4103,.mp bW (br az ai)),(4104,.mp bG (br bj []))]) λr aO=>∃lO bO b3,∃vs:Nat->Value,r=.box 4110 lO 0/\aO=cV [(4103,.mp bW (br az ai)),(4104,.mp bG (br bj [])),(4110,.box lO [.bool false,.am b3,u 0,u 0,u 0]),(4111,.row b3 (lh aL vs aL.length) 5 249),(7100,.mp bO (br (D.int .i64) (o4 aL aL.length)))] (nJ (.a7 26 [dH o n bW bG] 0 0) bO aL vs (eT o ai aL b7) aL.length):=by refine yf Tryz.func109 Tryz.ntmps109 λW=>?_;refine go ?_;intro dI;(conv=>whnf);refine dc ?_;refine jb 1 1 1 (.a7 26 [dH o n bW bG] 0 0) ?_;refine go ?_;refine' eU [(4103,.mp bW (br az ai)),(4104,.mp bG (br bj []))] 0 (λy=>[_,_,_,_,_,_,_,_,_,_,_,_,_,_,.box 3 y 0,.any,_,_]) (λy=>[(14,3,some (.box y [.bd])),(15,3,some (.box y [.T .none 6 (aL.map gD)]))]) [0,1,3,7,0,16,48,112,240,511,1023,2047,2047,2047,0,20479,57343,131071] [(14,3),(15,3)] ?_ ?_;rotate_left 16;refine dB ?_;refine Em ?_;refine vs ?_;exact trivial;intro el;(conv=>whnf);refine jb 3 3 1 (.T .none 6 (aL.map gD)) ?_;refine go ?_;intro lO;(conv=>whnf);refine dc ?_;refine Y.jo 32 (dA:=[.bool false,.am (.slice none 0 0),u 0,u 0,u 0]) rfl ⟨E,ap.rO,E,E,E,ak⟩ ?_;refine Y.qF 4111 5 249 ?_;refine go ?_;refine .inr (ah.vu λbO=>?_);(conv=>whnf);refine dc ?_;intro dM;(conv=>whnf);refine dc ?_;refine jb 7 7 1 (.am (.map (some bO))) ?_;refine go ?_;refine z_ (λx:Nat×Value×(Nat->Value)=>x.1<=aL.length) [1,3,4,6,7,34,35] [4103,4104] (λx=>[(36,u x.1)]) (λx=>[(33,.mp bO (br (D.int .i64) (o4 aL x.1))),(32,.box lO [.bool false,.am x.2.1,u 0,u 0,u 0]),(4111,.row x.2.1 (lh aL x.2.2 x.1) 5 249)]) (λx=>nJ (.a7 26 [dH o n bW bG] 0 0) bO aL x.2.2 (eT o ai aL []) x.1) (λx=>aL.length-x.1) (0,.slice none 0 0,λ_=>.nilIface) (au7 _) ?_ (h1:=by rw[ak9];exact fQ.aes (m:=[(4103,4103),(4104,4104),(33,33),(32,32),(4111,4111)]) ⟨cX,rfl,cX⟩);rintro⟨i,b3,fN⟩ hi;dsimp only at hi⊢;refine Y.qU rfl (AY _ _ _ _ _ _) λiL=>?_;refine go ?_;refine cb (t:=decide ((i:Int)<(aL.map gD).length)) ?_ ?_<;>intro hc;(·(have c1:i<aL.length:=by simpa using hc);refine go ?_;intro jd;(conv=>whnf);refine dc ?_;have lW:aL[i]=aL[i]:=rfl;generalize ud:aL[i]=d at*;have rW:d∈aL:=ud ▸ auT c1;obtain⟨m5,hj⟩:=s4 d rW;(have dh:d.cv.toNat<aL.length:=by omega);(have Gr:Pz aL d=aL[d.cv.toNat].path:=by unfold Pz;rw[auR dh];rfl);refine jb 9 9 6 (gD d) ?_;refine go ?_;refine dR (ah.xr 33 (em:=9) (eB:=3) (enc:=D.int .i64) (v:=(i:Int)) auI auI rfl rfl rfl rfl) ?_;have PB:=CW (B:=B) o n (gr ai d.path) bW bG [0] i 2 (by rw[show decide ((0:Int)<=(i:Int))=true from avP auD];rfl);refine' eU [(4103,.mp bW (br az ai)),(4104,.mp bG (br bj [])),(33,.mp bO (br (D.int .i64) (fz (o4 aL i) d.path (i:Nat)))),(32,.box lO [.bool false,.am b3,u 0,u 0,u 0]),(4111,.row b3 (lh aL fN i) 5 249)] (0,0) (λy=>[_,_,_,_,_,_,_,az (gr ai d.path),_,_,_,_,_,_,_,_,_,_,_,_,_,az (gr ai aL[d.cv.toNat].path),_,_,_,.box 10 y.1 0,.box 11 y.2 0,.any,.any]) (λy=>[(25,10,some (.box y.1 [.N [],u 0,u 0,u 0,u 0,u 0,u 0,.N [],u 0,.am .nilFunc,.bd,.bd])),(26,11,some (.box y.2 [.N [],u 0,u 0,u 0,u 0,u 0,u 0,.N [],u 0,.am .nilFunc,.bd,.bd])),(27,10,some (.box y.1 (ot [0] (gr ai d.path).n4 o.c6 2 i .bd).cells)),(28,11,some (.box y.2 (ot [1] (gr ai aL[d.cv.toNat].path).n4 o.c6 2 d.cv .bd).cells))]) [0,0,2,6,14,0,32,126,0,511,0,0,2048,6144,14336,0,0,65536,229376,491520,1015808,2095104,0,4194304,16777215,0,0,134217727,268435455] [(25,10),(26,11),(27,10),(28,11)] ?_ ?_;rotate_left 23;refine dB ?_;refine bQ (λy=>ah.qp 4103 (em:=9) (eB:=44) (enc:=az) (l:=ai) (k:=d.path) (Q:=AQ) rfl rfl rfl rfl rfl auL (λw C=>Jt w C) (cB y)) ?_;have PC:=CW (B:=B) o n (gr ai aL[d.cv.toNat].path) bW bG [1] d.cv 2 (by rw[show decide ((0:Int)<=d.cv)=true from avP m5];rfl);refine bQ (λy=>ah.qp 4103 (em:=9) (eB:=44) (enc:=az) (l:=ai) (k:=aL[d.cv.toNat].path) (Q:=AQ) rfl rfl rfl rfl rfl auL (λw C=>Jt w C) (cB y)) ?_;refine B8 (λy=>show∀k4:Nat,_ from λk4=>ed (k4,y.2)) ?_;refine B8 (λy=>show∀k4:Nat,_ from λk4=>ed (y.1,k4)) ?_;refine vs ?_;refine vs ?_;exact trivial;rintro⟨jS,yP⟩;(conv=>whnf);refine go ?_;(have JG:kp (.a7 26 [dH o n bW bG] 0 0) bO aL (sl o ai i d).g0=if i=0/\o.rock=true then .fn (.func 160) [] [.a7 1 [.a7 26 [dH o n bW bG] 0 0] 0 0]else .fn (.func 229) [] []:=by unfold sl;dsimp only;split<;>rfl);(have JH:kp (.a7 26 [dH o n bW bG] 0 0) bO aL (sm o ai aL d).g0=if d.jQ=true then .fn (.func 165) [] [.a7 6 [gD d] 0 0]else .fn (.func 229) [] []:=by unfold sm;dsimp only;split<;>rfl);have as8:∀S,(iR S .bd (sl o ai i d))=.agg [.N [0],u 0,u 0,u (gr ai d.path).n4,u o.c6,u 2,u 1,.N [],u i,S,.bd,.bd]:=λ_=>rfl;(have as9:∀S,(iR S .bd (sm o ai aL d))=.agg [.N [1],u 0,u 0,u (gr ai aL[d.cv.toNat].path).n4,u o.c6,u 2,u 1,.N [],u d.cv,S,.bd,.bd]:=λ_=>by rw[<-Gr];rfl);have xZ:(kp (.a7 26 [dH o n bW bG] 0 0) bO aL (sl o ai i d).g0).one=true:=JE _ _ _ _;have CI:(kp (.a7 26 [dH o n bW bG] 0 0) bO aL (sm o ai aL d).g0).one=true:=JE _ _ _ _;generalize PD:kp (.a7 26 [dH o n bW bG] 0 0) bO aL (sl o ai i d).g0=JI at*;generalize PE:kp (.a7 26 [dH o n bW bG] 0 0) bO aL (sm o ai aL d).g0=n0 at*;refine nt (α:=Unit) (λ_=>True) [1,3,4,6,7,8,9,10,11,34,35,36] [4103,4104,33,32,4111,11] (λ_=>[]) (λ_=>[(10,.box jS [.N [0],u 0,u 0,u (gr ai d.path).n4,u o.c6,u 2,u 1,.N [],u i,JI,.bd,.bd])]) ?_ ?_;refine gV (λbx=>?_) (λbx=>?_);(have kE : ((i : Int) == 0) = true := by cases h : ((i : Int) == 0)with|true=>rfl|false=>rw[h]at bx;cases bx);rw[auO ⟨by have:=eq_of_beq kE;omega,by rw[kE]at bx;exact bx⟩]at JG;subst JG;exact gL () [(4103,4103),(4104,4104),(33,33),(32,32),(4111,4111),(11,11),(10,10)] trivial;rw[auN (λh=>by simp[h.1,h.2]at bx)]at JG;subst JG;exact gL () [(4103,4103),(4104,4104),(33,33),(32,32),(4111,4111),(11,11),(10,10)] trivial;intro _ _;refine go ?_;refine nt (α:=Unit) (λ_=>True) [1,3,4,6,7,8,9,10,11,34,35,36] [4103,4104,33,32,4111,10] (λ_=>[]) (λ_=>[(11,.box yP [.N [1],u 0,u 0,u (gr ai aL[d.cv.toNat].path).n4,u o.c6,u 2,u 1,.N [],u d.cv,n0,.bd,.bd])]) ?_ ?_;refine gV (t:=d.jQ) (λbx=>?_) (λbx=>?_);rw[auO bx]at JH;subst JH;exact gL () [(4103,4103),(4104,4104),(33,33),(32,32),(4111,4111),(10,10),(11,11)] trivial;rw[auN (by rw[bx];decide)]at JH;subst JH;exact gL () [(4103,4103),(4104,4104),(33,33),(32,32),(4111,4111),(10,10),(11,11)] trivial;intro _ _;refine go ?_;rw[<-Gr];refine' eU [(4103,.mp bW (br az ai)),(4104,.mp bG (br bj [])),(33,.mp bO (br (D.int .i64) (fz (o4 aL i) d.path (i:Nat)))),(32,.box lO [.bool false,.am b3,u 0,u 0,u 0]),(4111,.row b3 (lh aL fN i) 5 249),(10,.box jS (iR JI .bd (sl o ai i d)).cells),(11,.box yP (iR n0 .bd (sm o ai aL d)).cells)] (α:=Nat×Option Addr×Nat×Nat) (0,none,0,0) (λy=>[_,_,_,_,_,_,_,_,_,_,_,.am (.slice (some ⟨y.1,0,none⟩) 2 2),nI d.id d.cv (.slice (some ⟨y.1,0,none⟩) 2 2) 0 0,.T .dZ 5 [nI d.id d.cv (.slice (some ⟨y.1,0,none⟩) 2 2) 0 0],.am (.slice y.2.1 y.2.2.1 y.2.2.2),_,_,.any]) (λy=>[(11,7500,some (.row (.slice (some ⟨y.1,0,none⟩) 2 2) [iR JI .bd (sl o ai i d),iR n0 .bd (sm o ai aL d)] 12 234)),(14,4111,none),(14,99,some (.row (.slice y.2.1 y.2.2.1 y.2.2.2) (lh aL fN i++[nI d.id d.cv (.slice (some ⟨y.1,0,none⟩) 2 2) 0 0]) 5 249)),(17,32,some (.box lO [.bool false,.am (.slice y.2.1 y.2.2.1 y.2.2.2),u 0,u 0,u 0]))]) [0,0,2,6,14,0,32,0,128,0,0,1536,4064,8160,16382,32767,65535,131071] [(11,7500),(14,4111),(14,99),(17,32)] ?_ ?_;rotate_left 13;refine dB ?_;refine bQ (λy=>ah.MK aN (q:=7500) rfl rfl rfl auG auG rfl (show _/\_/\_ from⟨rfl,by simp[tC,iR,D.cells,D.jk,D.one];exact⟨xZ,CI⟩,λb=>ed (b,y.2)⟩)) ?_;refine bQ (λy=>ah.ph aN 4111 rfl rfl rfl auK rfl rfl rfl auF (by rw[wa];show(_+1)*64<=_;omega) (by rw[wa];show _+1<=_;omega) (λbS ho cap=>ed (y.1,bS,ho,cap))) ?_;refine vs ?_;exact trivial;rintro⟨sg,bS,ho,cap⟩;(conv=>whnf);refine go ?_;(have ale:((eT o ai aL [] i).map λx=>iR (kp (.a7 26 [dH o n bW bG] 0 0) bO aL x.g0) .bd x)=[iR JI .bd (sl o ai i d),iR n0 .bd (sm o ai aL d)]:=by unfold eT;rw[auR c1,ud];simp[PD,PE]);(have tI:br (D.int .i64) (fz (o4 aL i) d.path (i:Nat))=br (D.int .i64) (o4 aL (i+1)):=by rw[ak8 c1,ud]);have Gs:∀j,j<i->(λj=>if j=i then Value.slice (some ⟨sg,0,none⟩) 2 2 else fN j) j=fN j:=λj ad=>auN auD;have sG:=ala (vs:=fN) (gv:=λj=>if j=i then Value.slice (some ⟨sg,0,none⟩) 2 2 else fN j) c1 ud Gs;rw[auO rfl]at sG;exact ym (i+1,.slice bS ho cap,λj=>if j=i then Value.slice (some ⟨sg,0,none⟩) 2 2 else fN j) c1 (wY [(4103,4103),(4104,4104),(33,33),(32,32),(4111,99)] (10000+i) 7500 auD (AY _ _ _ _ _ _) (ak' (auO rfl) Gs ale) (gT:=⟨rfl,rfl,rfl,rfl,rfl,ML tI,rfl,rfl,rfl,sS sG,ak⟩)));(have qb:i=aL.length:=by simp at hc;omega);subst qb;refine Y.exit ?_;(conv=>whnf);refine Y.jK [(1,.a7 1 [.a7 26 [dH o n bW bG] 0 0] 0 0),(3,.a7 1 [.T .none 6 (aL.map gD)] 0 0),(4,.T .none 7 (b7.map fo)),(6,.box 32 lO 0),(7,.a7 1 [.am (.map (some bO))] 0 0)] (cV [(4103,.mp bW (br az ai)),(4104,.mp bG (br bj [])),(33,.mp bO (br (D.int .i64) (o4 aL aL.length))),(32,.box lO [.bool false,.am b3,u 0,u 0,u 0]),(4111,.row b3 (lh aL fN aL.length) 5 249)] (nJ (.a7 26 [dH o n bW bG] 0 0) bO aL fN (eT o ai aL []) aL.length)) (pt [(4103,4103),(4104,4104),(33,33),(32,32),(4111,4111)] (AY _ _ _ _ _ _)) ?_;refine go ?_;refine z_ (λx:Nat×(Nat->Value)=>x.1<=b7.length) [1,3,4,6,7,103,104] [4103,4104,33,32] (λx=>[(105,u x.1)]) (λx=>[(4111,.row b3 (lh aL x.2 aL.length) 5 249)]) (λx=>nJ (.a7 26 [dH o n bW bG] 0 0) bO aL x.2 (eT o ai aL (b7.take x.1)) aL.length) (λx=>b7.length-x.1) (0,fN) (au7 _) ?_ (h1:=by exact fQ.same cX λk o h=>h);rintro⟨k,pO⟩ Z;dsimp only at Z⊢;rcases au6 k b7.length with eK|eK;(·obtain⟨pF,CC⟩:=mV b7[k] (auT eK);(have cr:b7[k].eW.toNat<aL.length:=by omega);refine Y.B_ 7500 (10000+b7[k].eW.toNat) rfl (AY _ _ _ _ _ _) (ak_ cr) rfl auG λGt=>?_;refine go ?_;refine wX (t:=decide ((k:Int)<(b7.map fo).length)) (by simpa using eK) ?_;refine bJ (fo b7[k]) (z6 rfl eK) ?_;intro XT;(conv=>whnf);refine dc ?_;have as_:b7[k]∈b7:=auT eK;generalize aq:b7[k]=e at*;refine jb 13 13 7 (fo e) ?_;refine go ?_;refine' eU [(7500,.row (pO e.eW.toNat) ((eT o ai aL (b7.take k) e.eW.toNat).map λx=>iR (kp (.a7 26 [dH o n bW bG] 0 0) bO aL x.g0) .bd x) 12 234),(4103,.mp bW (br az ai)),(4104,.mp bG (br bj [])),(33,.mp bO (br (D.int .i64) (o4 aL aL.length))),(32,.box lO [.bool false,.am b3,u 0,u 0,u 0]),(4111,.row b3 (lh aL pO aL.length) 5 249)] 0 (λy=>[_,_,_,_,_,_,az (gr ai e.path),.box 14 y 0,.any]) (λy=>[(7,14,some (.box y [.N [],u 0,.N [],.N [],u 0,u 0,u 0,u 0,u 0,u 0,.bd,.bd])),(8,14,some (.box y (az (gr ai e.path)).cells))]) [0,1,3,7,0,16,63,0,255] [(7,14),(8,14)] ?_ ?_;rotate_left 6;refine dB ?_;refine bQ (λy=>ah.qp 4103 (em:=9) (eB:=44) (enc:=az) (l:=ai) (k:=e.path) (Q:=AQ) rfl rfl rfl rfl rfl auL (λw C=>Jt w C) (cB y)) ?_;refine wR ?_;exact trivial;intro qm;(conv=>whnf);refine jb 14 14 12 (az (gr ai e.path)) ?_;refine go ?_;(have o9:(if(0:Int)<=e.bc then(2:Int)else 0)=bif decide ((0:Int)<=e.bc)then 2 else 0:=by by_cases h:(0:Int)<=e.bc<;>simp[h]);have dg:JF e=if e.gb=true then qy .or .i64 (if(0:Int)<=e.bc then 2 else 0) 1 else(if(0:Int)<=e.bc then 2 else 0):=rfl;(have Ac:kp (.a7 26 [dH o n bW bG] 0 0) bO aL (o3 o ai e).g0=if e.C5=true then .fn (.func 167) [] [.a7 1 [.a7 26 [dH o n bW bG] 0 0] 0 0,.a7 12 [az (gr ai e.path)] 0 0,.a7 7 [fo e] 0 0,.a7 1 [.am (.map (some bO))] 0 0,.a7 1 [.T .none 6 (aL.map gD)] 0 0]else .fn (.func 229) [] []:=by unfold o3;dsimp only;split<;>rfl);have nA:∀S,iR S .bd (o3 o ai e)=.agg [.N e.id,u 0,u 0,u (gr ai e.path).n4,u o.c6,u (JF e),u 1,.N [],u e.bc,S,.bd,.bd]:=λ_=>rfl;have xy:(kp (.a7 26 [dH o n bW bG] 0 0) bO aL (o3 o ai e).g0).one=true:=JE _ _ _ _;have PF:=CW (B:=B) o n (gr ai e.path) bW bG e.id e.bc (if(0:Int)<=e.bc then 2 else 0) o9;generalize gU:kp (.a7 26 [dH o n bW bG] 0 0) bO aL (o3 o ai e).g0=S at*;generalize X3:(if(0:Int)<=e.bc then(2:Int)else 0)=tc at*;generalize bK:JF e=qP at*;refine bq PF ?_;intro sj;(conv=>whnf);refine go ?_;refine nt (α:=Unit) (λ_=>True) [1,3,4,6,7,13,14,15,103,104,105] [7500,4103,4104,33,32,4111] (λ_=>[]) (λ_=>[(15,.box sj (ot e.id (gr ai e.path).n4 o.c6 tc e.bc .bd).cells)]) ?_ ?_;refine gV (λbx=>?_) (λbx=>?_);refine mq [(4104,4104)] (Yl o n (gr ai e.path) bW bG e.id e.path (gr ai e.path).n4 o.c6 tc e.bc) ?_;exact gL () [(7500,7500),(4103,4103),(4104,4104),(33,33),(32,32),(4111,4111),(15,15)] trivial;exact gL () [(7500,7500),(4103,4103),(4104,4104),(33,33),(32,32),(4111,4111),(15,15)] trivial;intro _ _;refine go ?_;refine nt (α:=Unit) (λ_=>True) [1,3,4,6,7,13,14,15,103,104,105] [7500,4103,4104,33,32,4111] (λ_=>[]) (λ_=>[(15,.box sj (ot e.id (gr ai e.path).n4 o.c6 qP e.bc .bd).cells)]) ?_ ?_;refine gV (t:=e.gb) (λbx=>?_) (λbx=>?_);rw[auO bx]at dg;subst dg;exact gL () [(7500,7500),(4103,4103),(4104,4104),(33,33),(32,32),(4111,4111),(15,15)] trivial;rw[auN (by rw[bx];decide)]at dg;subst dg;exact gL () [(7500,7500),(4103,4103),(4104,4104),(33,33),(32,32),(4111,4111),(15,15)] trivial;intro _ _;refine go ?_;refine nt (α:=Unit) (λ_=>True) [1,3,4,6,7,13,14,15,103,104,105] [7500,4103,4104,33,32,4111] (λ_=>[]) (λ_=>[(15,.box sj [.N e.id,u 0,u 0,u (gr ai e.path).n4,u o.c6,u qP,u 1,.N [],u e.bc,S,.bd,.bd])]) ?_ ?_;refine gV (t:=e.C5) (λbx=>?_) (λbx=>?_);rw[auO bx]at Ac;subst Ac;exact gL () [(7500,7500),(4103,4103),(4104,4104),(33,33),(32,32),(4111,4111),(15,15)] trivial;rw[auN (by rw[bx];decide)]at Ac;subst Ac;exact gL () [(7500,7500),(4103,4103),(4104,4104),(33,33),(32,32),(4111,4111),(15,15)] trivial;intro _ _;subst bK;refine go ?_;refine' eU [(7500,.row (pO e.eW.toNat) ((eT o ai aL (b7.take k) e.eW.toNat).map λx=>iR (kp (.a7 26 [dH o n bW bG] 0 0) bO aL x.g0) .bd x) 12 234),(4103,.mp bW (br az ai)),(4104,.mp bG (br bj [])),(33,.mp bO (br (D.int .i64) (o4 aL aL.length))),(32,.box lO [.bool false,.am b3,u 0,u 0,u 0]),(4111,.row b3 (lh aL pO aL.length) 5 249),(15,.box sj (iR S .bd (o3 o ai e)).cells)] 0 (λy:Nat=>[_,_,_,_,_,_,_,_]) (λy=>[]) [0,1,3,7,0,16,63,127] [] ?_ ?_;rotate_left 8;refine dB ?_;refine bQ (λy=>ah.eG aN 4111 rfl rfl rfl rfl rfl rfl rfl pF (by rw[wa];omega) (cB y)) ?_;exact trivial;intro _;(conv=>whnf);refine go ?_;have lJ:=Yj (vs:=pO) cr cr;refine' eU [(7500,.row (pO e.eW.toNat) ((eT o ai aL (b7.take k) e.eW.toNat).map λx=>iR (kp (.a7 26 [dH o n bW bG] 0 0) bO aL x.g0) .bd x) 12 234),(4103,.mp bW (br az ai)),(4104,.mp bG (br bj [])),(33,.mp bO (br (D.int .i64) (o4 aL aL.length))),(32,.box lO [.bool false,.am b3,u 0,u 0,u 0]),(4111,.row b3 (lh aL pO aL.length) 5 249),(15,.box sj (iR S .bd (o3 o ai e)).cells)] (α:=Option Addr×Nat×Nat) (none,0,0) (λy=>[_,_,_,_,_,_,.T .dZ 12 [iR S .bd (o3 o ai e)],.am (.slice y.1 y.2.1 y.2.2),_,_,.any]) (λy=>[(7,7500,none),(7,163,some (.row (.slice y.1 y.2.1 y.2.2) (((eT o ai aL (b7.take k) e.eW.toNat).map λx=>iR (kp (.a7 26 [dH o n bW bG] 0 0) bO aL x.g0) .bd x)++[iR S .bd (o3 o ai e)]) 12 234)),(10,4111,some (.row b3 ((lh aL pO aL.length).set e.eW.toNat (nI aL[e.eW.toNat].id aL[e.eW.toNat].cv (.slice y.1 y.2.1 y.2.2) 0 0)) 5 249))]) [0,0,2,6,14,0,32,126,255,511,1023] [(7,7500),(7,163),(10,4111)] ?_ ?_;rotate_left 8;refine dB ?_;refine bQ (λy=>ah.rg 4111 (i:=e.eW.toNat) rfl rfl (by rw[wa];omega) (cB y)) ?_;refine bQ (λy=>ah.js aN 4111 (i:=e.eW.toNat) rfl rfl (by rw[wa];omega) rfl rfl rfl auG (cB y)) ?_;refine bQ (λy=>ah.n9 aN 4111 (i:=e.eW.toNat) (j:=2) rfl rfl rfl lJ (cB y)) ?_;refine⟨λy=>.inl ?_,dB ?_⟩;(conv=>whnf);exact⟨by simp[tC,iR,D.cells,D.jk,D.one];exact xy,E⟩;refine bQ (λy=>ah.ph aN 7500 rfl rfl rfl auK rfl rfl rfl auF (by rw[auS];have:=Gp (o:=o) (ai:=ai) (aL:=aL) (b7:=b7.take k) (i:=e.eW.toNat);rw[au9]at this;show(_+1)*144<=_;omega) (by rw[auS];have:=Gp (o:=o) (ai:=ai) (aL:=aL) (b7:=b7.take k) (i:=e.eW.toNat);rw[au9]at this;show _+1<=_;omega) (λbS ho cap=>ed (bS,ho,cap))) ?_;refine bQ (λy=>ah.rg 4111 (i:=e.eW.toNat) rfl rfl (by rw[wa];omega) (cB y)) ?_;refine bQ (λy=>ah.js aN 4111 (i:=e.eW.toNat) rfl rfl (by rw[wa];omega) rfl rfl rfl auG (cB y)) ?_;refine bQ (λy=>ah.vj aN 4111 (i:=e.eW.toNat) (j:=2) rfl rfl rfl rfl lJ auG rfl (cB y)) ?_;exact trivial;rintro⟨bS,ho,cap⟩;(conv=>whnf);refine go ?_;have Gs:∀j,j≠e.eW.toNat->(λj=>if j=e.eW.toNat then Value.slice bS ho cap else pO j) j=pO j:=λj ad=>auN ad;have sG:=alb (vs:=pO) (gv:=λj=>if j=e.eW.toNat then Value.slice bS ho cap else pO j) (n:=aL.length) (v:=.slice bS ho cap) cr (auO rfl) Gs;(have kA:eT o ai aL (b7.take (k+1)) e.eW.toNat=eT o ai aL (b7.take k) e.eW.toNat++[o3 o ai e]:=by rw[Yk eK,aq,auO ⟨by omega,cr⟩]);(have nw:∀j,j≠e.eW.toNat->eT o ai aL (b7.take (k+1)) j=eT o ai aL (b7.take k) j:=λj ad=>by rw[Yk eK,aq,auN auD]);exact ym (k+1,λj=>if j=e.eW.toNat then Value.slice bS ho cap else pO j) eK (wY (f2:=.row (.slice bS ho cap) (((eT o ai aL (b7.take k) e.eW.toNat).map λx=>iR (kp (.a7 26 [dH o n bW bG] 0 0) bO aL x.g0) .bd x)++[iR S .bd (o3 o ai e)]) 12 234) [(4103,4103),(4104,4104),(33,33),(32,32),(4111,4111)] (10000+e.eW.toNat) 163 auD (C7 (AY _ _ _ _ _ _) _) (alc (ba:=eT o ai aL (b7.take k)) (auO rfl) Gs (by rw[kA,avo,<-gU];rfl) nw) (gT:=⟨rfl,rfl,rfl,rfl,rfl,rfl,rfl,rfl,rfl,sS sG,ak⟩)));(have lX:k=b7.length:=by omega);subst lX;rw[au2];refine Y.qU rfl (AY _ _ _ _ _ _) λiL=>?_;refine go ?_;refine cb (t:=decide ((b7.length:Int)<(b7.map fo).length)) (λhc=>by simp at hc) (λhc=>?_);refine Y.exit ?_;(conv=>whnf);refine Y.jK [(6,.box 4110 lO 0)] (cV [(4103,.mp bW (br az ai)),(4104,.mp bG (br bj [])),(4110,.box lO [.bool false,.am b3,u 0,u 0,u 0]),(4111,.row b3 (lh aL pO aL.length) 5 249),(7100,.mp bO (br (D.int .i64) (o4 aL aL.length)))] (nJ (.a7 26 [dH o n bW bG] 0 0) bO aL pO (eT o ai aL b7) aL.length)) (pt [(4103,4103),(4104,4104),(4110,32),(4111,4111),(7100,33)] (AY _ _ _ _ _ _)) ?_;refine go ?_;exact⟨.box 4110 lO 0,E,lO,bO,b3,pO,rfl,rfl⟩
end Go.bV.ct
namespace Go.bV
open Go
variable{P:Program}{B:World}{al:Nat}
def C8(p:Nat->Bool)(H aO:bH):bH:=λk=>bif p k then aO k else H k
variable{W:b5 P B al}{w:World}{C:Nat->Nat}{z:av}{a:Act}{f:FuncId}{ds:List D}{a6:D->bH->Prop}{dst:Option Tmp}
theorem alf(M:bI W w C z a)(p:Nat->Bool){H:bH}(Gu:∀k o,H k=some o->p k=true/\z.H k=some o){args:List Value}(hc:c8 P B f ds H a6)(af:db w C ds args)(O:iY al dst=true){K:av->Prop}(hK:∀d aO,a6 d aO->∃d',ap d d'/\K (({t:=z.t,H:=C8 p z.H aO}:av).put dst d')): Calls P f ⟨args⟩ w λe w'=>∃v,e=.returned v/\∃aA aW,K aA/\bI W w' aW aA (a.put dst v):=by let Ft:Nat->Prop:=λb=>∃s o,p s=true/\z.H s=some o/\o.es b;have tM:∀b,Ft b->W.pW b:=λb ⟨s,o,_,h1,A⟩=>M.heap.cQ s o b h1 A;(have hH:mc Ft w C H:=by refine⟨λj o ag=>M.heap.cl j o (Gu j o ag).2,λj ez o bN b aZ h1 A au c0=>?_,λj o b ag au=>⟨j,o,(Gu j o ag).1,(Gu j o ag).2,au⟩⟩;exact M.heap.inj j ez o bN b aZ (Gu j o h1).2 (Gu ez bN A).2 au c0);refine(hc.2 w C args Ft M.base (λb G=>W.DG (tM b G)) hH af).mono ?_;rintro e w' ⟨v,d,aW,aO,rfl,fO,eX,hs,nk⟩;obtain⟨d',dP,hK⟩:=hK d aO fO;refine⟨v,rfl,_,aW,hK,bI.put ?_ O (dP.le _ _ _ eX)⟩;have qD:∀j o,p j=false->z.H j=some o->∀b,o.es b->¬Ft b/\b<w.heap.size:=λj o ad ag b G => ⟨λ⟨s,bN,h1,A,aa⟩=>M.heap.inj j s o bN b (λe=>by subst e;rw[ad]at h1;cases h1) ag A G aa,(M.heap.cl j o ag).lt G⟩;(have spec:∀{j o},C8 p z.H aO j=some o->(p j=true/\aO j=some o)\/(p j=false/\z.H j=some o):=λ{j o} h=>by unfold C8 at h;cases aw:p j with|true=>rw[aw]at h;exact .inl ⟨rfl,h⟩|false=>rw[aw]at h;exact .inr ⟨rfl,h⟩);refine⟨λi=>(M.tmps i).ext hs.ext,⟨λj o ag=>?_,λj ez o bN b aZ h1 A au c0=>?_,λj o b ag au=>?_⟩,M.size,M.defers,?_⟩;rcases spec ag with⟨_,h⟩|⟨ad,h⟩;exact nk.cl j o h;exact(M.heap.cl j o h).iB hs.ext λb G=>hs.iB b (qD j o ad h b G).2 (qD j o ad h b G).1;rcases spec h1 with⟨Z,h⟩|⟨ad,h⟩<;>rcases spec A with⟨fv,bt⟩|⟨gm,bt⟩;exact nk.inj j ez o bN b aZ h bt au c0;obtain⟨aa,aF⟩:=qD ez bN gm bt b c0;rcases nk.cQ j o b h au with a8|a8;exact aa a8;omega;obtain⟨aa,aF⟩:=qD j o ad h b au;rcases nk.cQ ez bN b bt c0 with a8|a8;exact aa a8;omega;exact M.heap.inj j ez o bN b aZ h bt au c0;rcases spec ag with⟨_,h⟩|⟨ad,h⟩;rcases nk.cQ j o b h au with a8|a8;exact tM b a8;exact .inr (av6 M.step.ext.size a8);exact M.heap.cQ j o b h au;exact M.step.trans hs λb G bK=>aze
variable{args:Array Operand}{mM:Array TypeId}{b6:FuncId}{cs:List D}
theorem ah.y6{K:av->Prop}{f:Operand}{first:List D}(M:z.bb f=.fn (.func b6) first cs)
  (g8:List D) (p:Nat->Bool) {H:bH} (hH:∀k o,H k=some o->p k=true/\z.H k=some o)  (hc:c8 P B b6 g8 H a6) (dP:dO (first++args.toList.map z.bb++cs) g8)
  (hK:∀d aO,a6 d aO->∃d',ap d d'/\K (({t:=z.t,H:=C8 p z.H aO}:av).put dst d')):ah P B al z dst (.call ⟨.value f,args,mM⟩) K :=
 ⟨λW w C a mg O type pos after Q'=>by
  have pe:=cI mg.tmps f;rw[M]at pe;obtain⟨fN,hr,X,h1,A⟩:=pe.uX
  have aa:db w C (args.toList.map z.bb) (args.toList.map a.eval) :=
   ⟨by simp,λi d v O X=>by
    simp only[au']at O X
    cases J:args.toList[i]? with
    |none=>rw[J]at O;cases O
    |some x=>rw[J]at O X;cases O;cases X;exact cI mg.tmps x⟩
  have aF:=dP.rB ((h1.append aa).append A);obtain⟨fn,jm,rF,kY⟩:=hc.1;have G:fn.body.isNone=false:=by cases G:fn.body<;>simp[G]at rF⊢
  have cZ:(execOp a.eval ⟨dst,.call ⟨.value f,args,mM⟩,type,pos,after,none⟩).run P w=.ok (.enter b6 ⟨fN++args.toList.map a.eval++hr⟩) w:=by
   simp only[execOp,resolve,X,Deferred.ofValue,Sem.run_bind,Sem.run_pure,Result.andThen_ok,invoke,callFunc,run_program,jm,kY,G,avT,awq];congr 2
   apply awC;simp
  simp only[Oper.wp,cZ,Oper.upon]
  exact(alf mg p hH hc aF O hK).mono λe w' ⟨v,aq,h⟩=>by subst aq;exact h⟩
end Go.bV
namespace Go.bV.ct
open Go Go.Proofs
variable{B:World}
theorem Ym:∀(f:Nat) (l:List c7) (eo:Int),xg f l eo≠[]/\∀g∈xg f l eo,g.length<=l.length/\∀x∈g,x∈l
 |0,l,eo=>by rw[xg];exact⟨by simp,λg aS=>by rw[avs]at aS;subst aS;exact⟨auW _,λx h=>h⟩⟩
 |f+1,l,eo=>by rw[xg];split;refine⟨by simp,λg aS=>?_⟩;rcases au8.1 aS with rfl|aS;exact⟨by rw[au9];omega,λx h=>avO h⟩;obtain⟨h1,A⟩:=(Ym f _ _).2 g aS;rw[avX]at h1;exact⟨by omega,λx h=>awU (A x h)⟩;exact⟨by simp,λg aS=>by rw[avs]at aS;subst aS;exact⟨auW _,λx h=>h⟩⟩
theorem Yn{l:List c7}{eo:Int}(h:(us l eo).2=0):(us l eo).1≠[]/\(us l eo).1.length<=64/\∀g∈(us l eo).1,g.length<=1024/\∀x∈g,x.data.length<=251:=by unfold us at h⊢;split at h;rename_i h1;exact absurd h h1;rename_i h1;rw[auN h1];split at h;cases h;rename_i A;rw[auN A];split at h;cases h;rename_i aa;rw[auN aa];split at h;cases h;rename_i aF;rw[auN aF];split at h;cases h;rename_i a8;rw[auN a8];obtain⟨cP,d0⟩:=Wi (Decidable.not_not.1 h1);obtain⟨m1,Cs⟩:=Ym (2*l.length+3) l eo;exact⟨m1,by show(I3 l eo).length<=64;omega,λg aS=>by obtain⟨a,b⟩:=Cs g aS;exact⟨by omega,λx J=>d0 x (b x J)⟩⟩
section
variable(bR:bz->D)(aC:bz->List c7)
def kN(x:bz):List (List c7)×Int:=us (aC x) (254-vO (x.id.length:Nat) 0)
def gl(x:bz):List Int:=q' (kN aC x).1
def jA(x:bz):D:=iR (bR x) .bd x
def kq(x:bz):D:=iR (bR x) (.T .none 1 (bo (gl aC x))) x
def o5(wide:Bool)(x:bz):Prop:=x.id.length<1000000/\(wide=false->iu x.id)/\(kN aC x).2=0
end
theorem alg{l:List c7}(aj:l.length<=1024)(O:∀x∈l,x.data.length<=251):0<=ir l/\ir l<=261120:=by(have:∀k,k<=l.length->0<=ir (l.take k)/\ir (l.take k)<=255*(k:Int):=λk=>by induction k with|zero=>intro _;simp[ir]|succ k aV =>intro Z;have:=aV auD;have A:=O _ (auT (show k<l.length by omega));rw[I0 auD];omega);have:=this l.length (auW _);rw[au2]at this;omega
variable{bR:bz->D}
theorem C9(hs:∀x,(bR x).one=true)(aC:bz->List c7)(x:bz):(kq bR aC x).cells.all D.one=true:=by refine avz.2 λd O=>?_;simp only[kq,iR,D.cells,au8,axY,axy]at O;rcases O with rfl|rfl|rfl|rfl|rfl|rfl|rfl|rfl|rfl|rfl|rfl|rfl;all_goals first|rfl|exact hs x
variable{aC:bz->List c7}
theorem JJ{x:bz}(h:(kN aC x).2=0):0<(gl aC x).length/\(gl aC x).length<=64/\∀n∈gl aC x,0<=n/\n<=300000:=by obtain⟨h1,A,aa⟩:=Yn h;unfold gl;rw[OV];refine⟨avY.2 h1,A,λn ar=>?_⟩;unfold q' at ar;obtain⟨i,hi,rfl⟩:=ax8.1 ar;obtain⟨cP,d0⟩:=aa _ (auT hi);have:=alg cP d0;split<;>omega
theorem alh(aX:dk B)(bR:bz->D)(hs:∀x,(bR x).one=true)(aC:bz->List c7)(x y:bz)(wide:Bool)(b3:Value)(bP iN CX:Int)(J:o5 aC wide x)(hy:o5 aC wide y):aT B 177 [kq bR aC x,kq bR aC y,.a7 1 [.a7 5 [s4 wide b3 bP iN CX] 0 0] 0 0] (u (xo x.id y.id wide)):=by have PG:=XF (B:=B) aX x.id y.id wide (by have:=J.1;omega) (by have:=hy.1;omega) (λh=>⟨J.2.1 h,hy.2.1 h⟩);refine fn Tryz.func177 Tryz.ntmps177 λW=>?_;refine go ?_;intro el;(conv=>whnf);refine dc ?_;intro cJ;(conv=>whnf);refine dc ?_;refine jb 3 3 12 (kq bR aC x) ?_ (en:=C9 hs aC x);refine jb 4 4 12 (kq bR aC y) ?_ (en:=C9 hs aC y);refine go ?_;refine yh ?_;refine bq PG ?_;exact E
theorem ali(bR:bz->D)(hs:∀x,(bR x).one=true)(aC:bz->List c7)(x:bz)(h:(kN aC x).2=0):aT B 179 [kq bR aC x] (u (qq x.id (gl aC x))):=by obtain⟨h1,A,aa⟩:=JJ h;(obtain⟨n,l,ar⟩ : ∃n l,gl aC x = n :: l := by cases cA : gl aC x with|nil=>rw[cA]at h1;cases h1|cons n l=>exact⟨n,l,rfl⟩);have pj:=aa n (by rw[ar];exact auY);have alj:=ahH (B:=B) n pj.1 auD;have Yo:=V' (B:=B) (x.id.length:Nat) (N6 n);refine fn Tryz.func179 Tryz.ntmps179 λW=>?_;refine go ?_;intro dI;(conv=>whnf);refine dc ?_;refine jb 1 1 12 (kq bR aC x) ?_ (en:=C9 hs aC x);refine go ?_;refine yh ?_;refine And.intro (λ_=>⟨by decide,by simp[bo];omega⟩) ?_;(conv=>whnf);refine dc ?_;refine bJ (u n) (by simp[bo,ar]) ?_;refine bq alj ?_;refine bq Yo ?_;exact .of_eq (by rw[qq,ar];rfl)
variable{al:Nat}{z:av}{K:cM->av->Prop}{c:Code}{v:Value}{xs:List D}{k e:Nat}
theorem alk{W:b5 Tryz.prog B al}(s:Nat)(h:v.oneCell'=true->Y W c z K)(hs:z.H s=some (.row v xs k e):=by exact rfl):Y W c z K :=
 ⟨λa w C M=>by
  obtain⟨dT,cap,X,_⟩:=M.heap.cl s _ hs
  exact(h (by rw[X];rfl)).run a w C M⟩
def eZ(aE:List (auM×Int))(vs:Nat->Value)(aY lM:Nat->Int):List D:=aE.mapIdx λj d=>nI d.1 d.2 (vs j) (aY j) (lM j)
def iT(vs:Nat->Value)(f:Nat->List D)(n:Nat):bH:=λk=>if 10000<=k/\k<10000+n then some (.row (vs (k-10000)) (f (k-10000)) 12 234)else none
variable{aE:List (auM×Int)}{lM:Nat->Int}
theorem ib{vs:Nat->Value}{aY:Nat->Int}:(eZ aE vs aY lM).length=aE.length:=by simp[eZ]
variable{i:Nat}
theorem C_{vs:Nat->Value}{aY:Nat->Int}(h:i<aE.length):(eZ aE vs aY lM)[i]?=some (nI aE[i].1 aE[i].2 (vs i) (aY i) (lM i)):=by unfold eZ;rw[avI,auR h];rfl
theorem alm{vs:Nat->Value}{aY AZ JK:Nat->Int}(h:i<aE.length)(hs:∀j,j≠i->AZ j=aY j/\JK j=lM j):(eZ aE vs aY lM).set i (nI aE[i].1 aE[i].2 (vs i) (AZ i) (JK i))=eZ aE vs AZ JK:=by apply av2;intro j;rw[awL];by_cases d6:i=j;subst d6;rw[auO rfl,auO (by rw[ib];exact h),C_ h];rw[auN d6];unfold eZ;simp only[avI];rw[(hs j (λh=>d6 h.symm)).1,(hs j (λh=>d6 h.symm)).2]
theorem gE(vs:Nat->Value)(f:Nat->List D)(n:Nat):qa (iT vs f n):=λk o h=>by
 unfold iT at h;split at h
 ·omega
 cases h
theorem PH{vs:Nat->Value}{f:Nat->List D}{n:Nat}(h:i<n):iT vs f n (10000+i)=some (.row (vs i) (f i) 12 234):=by unfold iT;rw[auO auD,av0]
variable{row:List D}
theorem Yp{vs:Nat->Value}{f w1:Nat->List D}{n:Nat}(X:vs i=v)(af:w1 i=row)(xn:∀j,j≠i->w1 j=f j):
  ∀k o,iT vs w1 n k=some o->10000<=k/\((k=10000+i/\o=.row v row 12 234)\/(k≠10000+i/\l4 (iT vs f n) (10000+i) k=some o)):=λk o h=>by
 unfold iT at h;split at h
 ·rename_i Z;refine⟨Z.1,?_⟩;by_cases gd:k=10000+i
  ·subst gd;rw[av0,X,af]at h;exact .inl ⟨rfl,(avB h).symm⟩
  refine .inr ⟨gd,?_⟩;unfold l4 iT;rw[awv gd,auO Z,<-xn (k-10000) auD];exact h
 cases h
def fP(bA:Nat->Int)(a:Int):Nat->Int
 |0=>a
 |i+1=>fP bA a i+bA i
theorem C'{bA:Nat->Int}{a b:Int}{n:Nat}(h:∀i,i<n->0<=bA i/\bA i<=b):∀i,i<=n->a<=fP bA a i/\fP bA a i<=a+b*(i:Int)
 |0,_=>by simp[fP]
 |i+1,hi=>by have h1:=C' (a:=a) h i auD;have A:=h i auD;rw[fP];(have:b*((i+1:Nat):Int)=b*(i:Int)+b:=by rw[Int.natCast_succ,Int.mul_add,Int.mul_one]);omega
variable{L:List bz}
section
variable(aC:bz->List c7)(wide:Bool)
def y7(x y:{x:bz // o5 aC wide x}):Int:=xo x.1.id y.1.id wide
open Classical in
noncomputable def na(L:List bz):List bz:=if h:∀x∈L,o5 aC wide x then(fR (y7 aC wide) (L.attachWith _ h)).map (·.1)else[]
theorem JL(h:∀x∈L,o5 aC wide x):na aC wide L=(fR (y7 aC wide) (L.attachWith _ h)).map (·.1):=awu h
theorem JM:∀x∈na aC wide L,o5 aC wide x:=λx J=>by
 unfold na at J;split at J
 ·obtain⟨y,_,rfl⟩:=au_.1 J;exact y.2
 cases J
theorem JN:(na aC wide L).length<=L.length:=by unfold na;split;rw[auS,aeu,List.length_attachWith];exact auW _;simp
noncomputable def JO(L:List bz):List Int:=(na aC wide L).map λx=>qq x.id (gl aC x)
noncomputable def uG(L:List bz):Int:=yJ (JO aC wide L)
def Gv(ba:Nat->List bz)(n:Nat):List Int:=(List.range n).flatMap λi=>(ba i).map λx=>(kN aC x).2
def sn(ba:Nat->List bz)(n:Nat):Int:=((Gv aC ba n).find? λe=>!(e==0)).getD 0
def jZ(o n:Int):Int:=(if n>2048-o.tmod 2048 then o+(2048-o.tmod 2048)else o)+n
noncomputable def so(ba:Nat->List bz)(n:Nat):List Int:=(List.range n).flatMap λi=>(na aC wide (ba i)).flatMap λx=>(gl aC x).tail
noncomputable def xz(ba:Nat->List bz)(n:Nat)(a:Int):Int:=fP (λi=>uG aC wide (ba i)) a n+kc ((so aC wide ba n).foldl jZ 0)
noncomputable def Gw(ba:Nat->List bz)(n:Nat)(a:Int):D:=if sn aC ba n=0 then .bm [u (xz aC wide ba n a),u 0]else .bm [u 0,u (sn aC ba n)]
end
variable{wide:Bool}
theorem Yq(h:L.length<400000):0<=uG aC wide L/\uG aC wide L<=2000000:=by have:=JN aC wide (L:=L);exact ahN _ (by unfold JO;rw[auS];omega)
theorem aln{n:Nat}(h:i<=n):List.range n=List.range i++(List.range (n-i)).map (·+i):=by obtain⟨m,rfl⟩:∃m,n=i+m:=⟨n-i,by omega⟩;rw[List.range_add,av0];simp only[axu]
variable{ba:Nat->List bz}
theorem alo{n:Nat}(h:∀j,j<n->∀x∈ba j,(kN aC x).2=0):sn aC ba n=0:=by unfold sn;rw[awn.2 (λe aq=>?_)];rfl;obtain⟨j,ad,hm⟩:=awD.1 aq;obtain⟨x,J,rfl⟩:=au_.1 hm;rw[h j (awa.1 ad) x J];decide
theorem alp{n:Nat}(hi:i<n)(h:∀j,j<i->∀x∈ba j,(kN aC x).2=0)(Z:k<(ba i).length)(A:∀j (ad:j<k),(kN aC (ba i)[j]).2=0)(aa:(kN aC (ba i)[k]).2≠0):sn aC ba n=(kN aC (ba i)[k]).2:=by unfold sn;(have aF:Gv aC ba n=(Gv aC ba i++((ba i).take k).map λx=>(kN aC x).2)++(kN aC (ba i)[k]).2::(((ba i).drop (k+1)).map (λx=>(kN aC x).2)++((List.range (n-(i+1))).map (·+(i+1))).flatMap λi=>(ba i).map λx=>(kN aC x).2):=by unfold Gv;rw[aln (show i+1<=n from hi),awx,awh,awx,avF,List.flatMap_nil,avC];(conv=>lhs;arg 1;arg 2;rw[<-awb k (ba i),avL Z,avo,avc]);simp only[avr,avQ]);rw[aF,List.find?_append,awn.2 (λe aq=>?_)];rw[Option.none_or,List.find?_cons_of_pos (by simpa using aa)];rfl;rcases avf.1 aq with aq|aq;obtain⟨j,ad,hm⟩:=awD.1 aq;obtain⟨x,J,rfl⟩:=au_.1 hm;rw[h j (awa.1 ad) x J];decide;obtain⟨x,J,rfl⟩:=au_.1 aq;obtain⟨j,ad,rfl⟩:=avm.1 J;rw[au9]at ad;rw[List.getElem_take,A j auD];decide
theorem alq(n:Int)(h0:0<=n)(h1:n<1000000000000000):aT B 171 [u n] (u (kc n)):=by refine fn Tryz.func171 Tryz.ntmps171 λW=>?_;refine go ?_;have I:(n+2048-1).tdiv 2048=(n+2048-1)/2048:=au4 auD;refine sR (λ_=>by simp only[dz];omega) ?_;(conv=>whnf);refine go ?_;exact E
def A0(B:World)(j0:aJ)(S:D)(eN:List c7):Prop:=∃b6 first cs,S=.fn (.func b6) first cs/\c4 B b6 (first++[.fn (.func 173) [] []]++cs) (aM [(7100,j0)]) λd aO=>d=.T .none 3 (eL eN)/\aO=aM [(7100,j0)]
def wb(bA:Nat->Int)(a:Int)(i j:Nat):Int:=if j<i then fP bA a j else 0
def wc(bA:Nat->Int)(i j:Nat):Int:=if j<i then bA j*2048 else 0
noncomputable def wd(bR:bz->D)(aC:bz->List c7)(wide:Bool)(ba:Nat->List bz)(i j:Nat):List D:=if j<i then(na aC wide (ba j)).map (kq bR aC)else(ba j).map (jA bR)
theorem alr(bA:Nat->Int)(a:Int):wb bA a 0=λ_=>0:=funext λj=>auN auD
theorem als(bA:Nat->Int):wc bA 0=λ_=>0:=funext λj=>auN auD
theorem alt(bR:bz->D)(aC:bz->List c7)(wide:Bool)(ba:Nat->List bz):wd bR aC wide ba 0=λi=>(ba i).map (jA bR):=funext λj=>auN auD
def nK(bR:bz->D)(aC:bz->List c7)(L:List bz)(k:Nat):List D:=L.mapIdx λj x=>if j<k then kq bR aC x else jA bR x
theorem xA:(nK bR aC L k).length=L.length:=by simp[nK]
theorem alu:nK bR aC L 0=L.map (jA bR):=by apply av1 (by simp[nK]);intro j h1 A;simp[nK]
theorem alv:nK bR aC L L.length=L.map (kq bR aC):=by apply av1 (by simp[nK]);intro j h1 A;simp only[nK,axh,axf];exact auO (by simpa[nK]using h1)
theorem alw(h:k<L.length):(nK bR aC L k)[k]?=some (jA bR L[k]):=by unfold nK;rw[avI,auR h];simp
theorem alx(h:k<L.length):(nK bR aC L k).set k (kq bR aC L[k])=nK bR aC L (k+1):=by apply av1 (by simp[nK]);intro j h1 A;rw[axX];simp only[nK,axh];exact ayw
theorem aly(n:Nat):0<=vO (n:Nat) 0/\vO (n:Nat) 0<=254:=by unfold vO;split;omega;split;rename_i h;(have:0<=yH (n:Nat):=by unfold yH;rw[au4 auD];omega);omega;omega
theorem alz(hs:∀x,(bR x).one=true)(aC:bz->List c7)(x:bz):Ab (kq bR aC x):=⟨_,rfl,rfl,C9 hs aC x⟩
def rh(bR:bz->D)(aC:bz->List c7)(P:D)(x:bz):D:=.agg [.N x.id,u 0,u 0,u x.fj,u x.c6,u x.gI,u 1,.N [],u x.leads,bR x,.T .none 1 (bo (gl aC x)),P]
theorem alA(bR:bz->D)(aC:bz->List c7)(x:bz):rh bR aC .bd x=kq bR aC x:=rfl
def iw(bR:bz->D)(aC:bz->List c7)(L:List bz)(k:Nat):List D:=L.mapIdx λj x=>if j<k then rh bR aC .any x else kq bR aC x
theorem Da:(iw bR aC L k).length=L.length:=by simp[iw]
theorem alB:iw bR aC L 0=L.map (kq bR aC):=by apply av1 (by simp[iw]);intro j h1 A;simp[iw]
theorem alC:iw bR aC L L.length=L.map (rh bR aC .any):=by apply av1 (by simp[iw]);intro j h1 A;simp only[iw,axh,axf];exact auO (by simpa[iw]using h1)
theorem alD(h:k<L.length):(iw bR aC L k).set k (rh bR aC .any L[k])=iw bR aC L (k+1):=by apply av1 (by simp[iw]);intro j h1 A;rw[axX];simp only[iw,axh];exact ayw
theorem alE(h:k<L.length):(iw bR aC L k).set k (rh bR aC .bd L[k])=iw bR aC L k:=by apply av1 (by simp[iw]);intro j h1 A;rw[axX];split;rename_i aq;subst aq;simp only[iw,axh];rw[auN auD];rfl;rfl
theorem alF(h:k<L.length):(iw bR aC L k)[k]?=some (rh bR aC .bd L[k]):=by unfold iw;rw[avI,auR h];simp[alA]
theorem Yr:∀y∈iw bR aC L k,y.cells.length=12:=λy hy=>by
 obtain⟨i,hi,rfl⟩:=ax8.1 hy;split<;>rfl
theorem Ys{a:D}(h:∀y∈xs,y.cells.length=12)(ha:a.cells.length=12):∀y∈xs.set k a,y.cells.length=12:=λy hy=>by
 rcases awS hy with h1|h1
 ·exact h y h1
 rw[h1];exact ha
theorem Yt{a b:D}(h:dO a.cells b.cells):dO (b4 (xs.set k a)) (b4 (xs.set k b)):=by refine dO.b4 auF λi x y J hy=>?_;rw[awL]at J hy;split at J;rename_i aq;rw[auO aq]at hy;split at J;rename_i aj;rw[auO aj]at hy;cases J;cases hy;exact h;cases J;rename_i aq;rw[auN aq,J]at hy;cases hy;exact E
theorem Yu{x:bz}{P PI:D}(h:ap P PI):dO (rh bR aC P x).cells (rh bR aC PI x).cells :=
 ⟨E,E,E,E,E,E,E,E,E,E,E,h,ak⟩
noncomputable def uH(bR:bz->D)(aC:bz->List c7)(wide:Bool)(ba:Nat->List bz)(i j:Nat):List D:=(na aC wide (ba j)).map (rh bR aC (if j<i then .any else .bd))
noncomputable def sp(aC:bz->List c7)(wide:Bool)(ba:Nat->List bz)(i:Nat):Int:=(so aC wide ba i).foldl jZ 0
theorem alG:sp aC wide ba (i+1)=((na aC wide (ba i)).flatMap λx=>(gl aC x).tail).foldl jZ (sp aC wide ba i):=by unfold sp so;rw[awh,awx,avW];simp
theorem alH{o n:Int}(ag:0<=o)(ar:0<=n/\n<=300000):o<=jZ o n/\jZ o n<=o+302048:=by unfold jZ;rw[avH ag];split<;>omega
theorem Yv{l:List Int}(aj:∀n∈l,0<=n/\n<=300000):∀{o:Int},0<=o->0<=l.foldl jZ o/\l.foldl jZ o<=o+302048*(l.length:Int):=by induction l with|nil=>intro o ag;simp;exact ag|cons n l aV =>intro o ag;have h1:=alH ag (aj n auY);have A:=aV (λm hm=>aj m (auZ _ hm)) (o:=jZ o n) auD;rw[awf,auX];omega
theorem alI{bA:Nat->Int}{a:Int}(h:∀i,0<=bA i):∀{i j:Nat},i<=j->fP bA a i<=fP bA a j:=λ{i j} d6=>by
 induction j with
 |zero=>rw[show i=0 by omega];exact avK _
 |succ j aV =>
  rcases au6 i (j+1)with h1|h1
  ·have:=aV auD;have:=h j;rw[fP];omega
  rw[show i=j+1 by omega];exact avK _
theorem Yw{l:List f4}(h:∀x∈l,x.id.length<=10000):0<=kL l/\kL l<=10009*(l.length:Int):=by(have:∀k,k<=l.length->0<=kL (l.take k)/\kL (l.take k)<=10009*(k:Int):=λk=>by induction k with|zero=>intro _;simp[kL]|succ k aV =>intro Z;have h1:=aV auD;have A:=h _ (auT (show k<l.length by omega));have aa:=O' l[k].id.length;rw[O_ auD];omega);have:=this l.length (auW _);rw[au2]at this;exact this
theorem alJ(aX:dk B)(bR:bz->D)(hs:∀x,(bR x).one=true)(aC:bz->List c7)(wide:Bool)(j0:aJ)(aE:List (auM×Int))(ba:Nat->List bz)(vs:Nat->Value)(b3:Value)(dN:Nat)(a:Int)(V:List f4)(ha:0<=a/\a<=1000000000000000)(ar:aE.length<=1000000)(hT:V.length<1000000/\∀x∈V,x.id.length<=10000)(aj:∀i,i<aE.length->(ba i).length<400000)(PJ:fP (λi=>((ba i).length:Nat)) 0 aE.length<=10000000)(gb:∀i,i<aE.length->∀x∈ba i,x.id.length<1000000/\(wide=false->iu x.id)/\(aC x).length<1000000/\∀y∈aC x,y.ql.length<1000000/\y.data.length<1000000)(nL:∀i,i<aE.length->∀x∈ba i,A0 B j0 (bR x) (aC x))(hE:c4 B 170 [.box 4110 dN 0] (aM [(4110,.box dN [.bool wide,.am b3,u 0,u 0,u 0]),(4111,.row b3 (eZ aE vs (λ_=>0) (λ_=>0)) 5 249)]) λd aO=>d=.T .none 3 (ec V)/\aO=aM [(4110,.box dN [.bool wide,.am b3,u 0,u 0,u 0]),(4111,.row b3 (eZ aE vs (λ_=>0) (λ_=>0)) 5 249)]): c4 B 110 [.box 4110 dN 0,u a] (cV [(4110,.box dN [.bool wide,.am b3,u 0,u 0,u 0]),(4111,.row b3 (eZ aE vs (λ_=>0) (λ_=>0)) 5 249),(7100,j0)] (iT vs (λi=>(ba i).map (jA bR)) aE.length)) λd _=>d=Gw aC wide ba aE.length (a+2*kc (kL V)):=by have alK:=Yw hT.2;(have Pm:0<=kc (kL V)/\kc (kL V)<=1000000000:=by unfold kc;rw[au4 auD];omega);(have as':=akl (B:=B) V hT.1 λx J=>by have:=hT.2 x J;omega);have ata:=V_ (B:=B) (kL V) alK.1 auD;generalize bn:kL V=Q at*;generalize au:kc Q=ao at*;refine yf Tryz.func110 Tryz.ntmps110 λW=>?_;refine Y.jK [(0,.box 4110 dN 0),(1,u a)] (cV [(4110,.box dN [.bool wide,.am b3,u 0,u 0,u 0]),(4111,.row b3 (eZ aE vs (λ_=>0) (λ_=>0)) 5 249),(7100,j0)] (iT vs (λi=>(ba i).map (jA bR)) aE.length)) (fQ.same cX λk o h=>h) ?_;apply eh;refine Y.qU rfl (gE _ _ _) λiL=>?_;refine go ?_;intro ca;(conv=>whnf);refine dc ?_;refine Y.jK [(1,u a),(2,.box 2 ca 0)] (cV [(2,.box ca [.box 4110 dN 0]),(4110,.box dN [.bool wide,.am b3,u 0,u 0,u 0]),(4111,.row b3 (eZ aE vs (λ_=>0) (λ_=>0)) 5 249),(7100,j0)] (iT vs (λi=>(ba i).map (jA bR)) aE.length)) (pt [(2,2),(4110,4110),(4111,4111),(7100,7100)] (gE _ _ _)) ?_;apply eh;refine Y.qU rfl (gE _ _ _) λiL=>?_;refine' eU [(2,.box ca [.box 4110 dN 0]),(4110,.box dN [.bool wide,.am b3,u 0,u 0,u 0]),(4111,.row b3 (eZ aE vs (λ_=>0) (λ_=>0)) 5 249),(7100,j0)] 0 (λy:Nat=>[_,_,.T .none 3 (ec V),u Q,_,_,.any]) (λy=>[(6,4110,some (.box dN [.bool wide,.am b3,u Q,u 0,u 0]))]) [0,0,2,6,15,31,63] [(6,4110)] ?_ ?_;rotate_left 4;refine dB ?_;refine bQ (λy=>ah.B1 rfl [.box 4110 dN 0] [(4110,4110),(4111,4111)] (hs:=[(4110,.box dN [.bool wide,.am b3,u 0,u 0,u 0]),(4111,.row b3 (eZ aE vs (λ_=>0) (λ_=>0)) 5 249)]) ⟨rfl,a_⟩ hE rfl an E (cB y)) ?_;refine Go.bV.ct.vs ?_;exact trivial;intro _;(conv=>whnf);refine Y.jK [(1,u a),(2,.box 2 ca 0)] (cV [(2,.box ca [.box 4110 dN 0]),(4110,.box dN [.bool wide,.am b3,u Q,u 0,u 0]),(4111,.row b3 (eZ aE vs (λ_=>0) (λ_=>0)) 5 249),(7100,j0)] (iT vs (λi=>(ba i).map (jA bR)) aE.length)) (pt [(2,2),(4110,4110),(4111,4111),(7100,7100)] (gE _ _ _)) ?_;apply eh;refine Y.qU rfl (gE _ _ _) λiL=>?_;refine go ?_;refine Y.jK [(1,u a),(2,.box 2 ca 0)] (cV [(2,.box ca [.box 4110 dN 0]),(4110,.box dN [.bool wide,.am b3,u Q,u a,u 0]),(4111,.row b3 (eZ aE vs (λ_=>0) (λ_=>0)) 5 249),(7100,j0)] (iT vs (λi=>(ba i).map (jA bR)) aE.length)) (pt [(2,2),(4110,4110),(4111,4111),(7100,7100)] (gE _ _ _)) ?_;refine Y.qU rfl (gE _ _ _) λiL=>?_;refine' eU [(2,.box ca [.box 4110 dN 0]),(4110,.box dN [.bool wide,.am b3,u Q,u a,u 0]),(4111,.row b3 (eZ aE vs (λ_=>0) (λ_=>0)) 5 249),(7100,j0)] 0 (λy:Nat=>[_,_,_,_,_,_,_,u (a+ao),_,_,.any]) (λy=>[(10,4110,some (.box dN [.bool wide,.am b3,u Q,u a,u (a+ao)]))]) [0,0,0,4,12,28,60,126,255,511,1023] [(10,4110)] ?_ ?_;rotate_left 9;refine dB ?_;refine Go.bV.ct.vs ?_;exact trivial;intro _;(conv=>whnf);refine Y.jK [(1,u a),(2,.box 2 ca 0)] (cV [(2,.box ca [.box 4110 dN 0]),(4110,.box dN [.bool wide,.am b3,u Q,u a,u (a+ao)]),(4111,.row b3 (eZ aE vs (λ_=>0) (λ_=>0)) 5 249),(7100,j0)] (iT vs (λi=>(ba i).map (jA bR)) aE.length)) (pt [(2,2),(4110,4110),(4111,4111),(7100,7100)] (gE _ _ _)) ?_;apply eh;refine Y.qU rfl (gE _ _ _) λiL=>?_;refine' eU [(2,.box ca [.box 4110 dN 0]),(4110,.box dN [.bool wide,.am b3,u Q,u a,u (a+ao)]),(4111,.row b3 (eZ aE vs (λ_=>0) (λ_=>0)) 5 249),(7100,j0)] 0 (λy:Nat=>[_,_,_,_,_,_,_,_,_,u (a+ao+ao),_]) (λy=>[]) [0,1,3,7,0,16,48,112,240,511,1023] [] ?_ ?_;rotate_left 10;refine dB ?_;exact trivial;intro _;(conv=>whnf);(have alL:a+2*ao=a+ao+ao:=by omega);rw[alL];obtain⟨a2,CR⟩:∃a2,a+ao+ao=a2:=⟨_,rfl⟩;rw[CR];(have nW:0<=a2/\a2<=1000010000000000:=by omega);refine Y.jK [(1,u a2),(2,.box 2 ca 0)] (cV [(2,.box ca [.box 4110 dN 0]),(4110,.box dN [.bool wide,.am b3,u Q,u a,u (a+ao)]),(4111,.row b3 (eZ aE vs (λ_=>0) (λ_=>0)) 5 249),(7100,j0)] (iT vs (λi=>(ba i).map (jA bR)) aE.length)) (pt [(2,2),(4110,4110),(4111,4111),(7100,7100)] (gE _ _ _) (h1:=⟨.of_eq (by rw[<-CR];rfl),E,ak⟩)) ?_;apply n0;refine Y.qU rfl (gE _ _ _) λiL=>?_;refine alk 4111 (λxp=>?_);refine Y.akn 4110 2 (s4 wide b3 Q a (a+ao)) rfl rfl auG rfl (by simp only[axk,List.all_nil,D.one,xp,Bool.and_self]) ?_;refine jb 2 2 1 (.a7 5 [s4 wide b3 Q a (a+ao)] 0 0) ?_;refine go ?_;refine dR (ah.sK aN 4111 rfl rfl rfl rfl) ?_;rw[ib];generalize alM:a+ao=JP;refine Y.jK [(1,u a2),(2,.a7 1 [.a7 5 [s4 wide b3 Q a JP] 0 0] 0 0),(57,u (aE.length:Nat)),(58,u 0)] (cV [(7100,j0),(4111,.row b3 (eZ aE vs (λ_=>0) (λ_=>0)) 5 249)] (iT vs (λi=>(ba i).map (jA bR)) aE.length)) (pt [(7100,7100),(4111,4111)] (gE _ _ _)) ?_;have atb:=V_ (B:=B) 0 auG auG;obtain⟨bA,hN⟩:∃bA:Nat->Int,(λi=>uG aC wide (ba i))=bA:=⟨_,rfl⟩;(have PK:∀i,i<aE.length->0<=bA i/\bA i<=2000000:=λi hi=>by rw[<-hN];exact Yq (aj i hi));refine z_ (λx:Nat=>x<=aE.length/\∀j,j<x->∀y∈ba j,(kN aC y).2=0) [2,57] [7100] (λx=>[(1,u (fP bA a2 x)),(58,u x)]) (λx=>[(4111,.row b3 (eZ aE vs (wb bA a2 x) (wc bA x)) 5 249)]) (λx=>iT vs (wd bR aC wide ba x) aE.length) (λx=>aE.length-x) 0 ⟨au7 _,λj ad=>absurd ad auD⟩ ?_ (h1:=by rw[alr,als,alt];exact fQ.same cX λk o h=>h);rintro i ⟨cr,PL⟩;rcases au6 i aE.length with c1|c1;(·(have wH:wd bR aC wide ba i i=nK bR aC (ba i) 0:=by rw[alu];exact auN auD);refine Y.B_ (f2:=.row (vs i) (nK bR aC (ba i) 0) 12 234) 7500 (10000+i) rfl (gE _ _ _) (by rw[PH c1,wH]) rfl auG λGt=>?_;have lJ:=C_ (vs:=vs) (aY:=wb bA a2 i) (lM:=wc bA i) c1;have qM:=aj i c1;refine go ?_;refine wX (t:=decide ((i:Int)<(aE.length:Nat))) (by simpa using c1) ?_;refine dR (ah.eG aN 4111 rfl rfl rfl rfl rfl rfl rfl auD (by rw[ib];omega)) ?_;refine dR (ah.rg 4111 (i:=i) rfl rfl (by rw[ib];omega)) ?_;refine dR (ah.js aN 4111 (i:=i) rfl rfl (by rw[ib];omega) rfl rfl rfl auG) ?_;refine dR (ah.n9 aN 4111 (i:=i) (j:=2) rfl rfl rfl lJ) ?_;refine dR (ah.sK aN 7500 rfl rfl rfl rfl) ?_;rw[xA];refine hf (λk:Nat=>k<=(ba i).length/\∀j (ad:j<(ba i).length),j<k->(kN aC (ba i)[j]).2=0) [1,2,6,7,8,57,58,71] [7100,4111] (λk=>[(72,u k)]) (λk=>[(7500,.row (vs i) (nK bR aC (ba i) k) 12 234)]) (λk=>(ba i).length-k) 0 ⟨au7 _,λj ad h=>absurd h auD⟩ [(7100,7100),(4111,4111),(7500,7500)] ?_;rintro k ⟨Z,Db⟩;refine go ?_;refine cb (t:=decide ((k:Int)<(ba i).length)) ?_ ?_<;>intro hc;(·(have eK:k<(ba i).length:=by simpa using hc);obtain⟨b6,first,cs,alN,alO⟩:=nL i c1 _ (auT eK);obtain⟨p',alP,sX,Ul⟩:=gb i c1 _ (auT eK);have uk:=alw (bR:=bR) (aC:=aC) eK;have Yo:=V' (B:=B) ((ba i)[k].id.length:Nat) 0;have alQ:=ah0 (B:=B) (aC (ba i)[k]) (254-vO ((ba i)[k].id.length:Nat) 0) sX Ul;have alR:us (aC (ba i)[k]) (254-vO ((ba i)[k].id.length:Nat) 0)=kN aC (ba i)[k]:=rfl;have ly:=aly (ba i)[k].id.length;rw[alR]at alQ;generalize JQ:(ba i)[k]=x at*;refine go ?_;refine dR (ah.rg 4111 (i:=i) rfl rfl (by rw[ib];omega)) ?_;refine dR (ah.js aN 4111 (i:=i) rfl rfl (by rw[ib];omega) rfl rfl rfl auG) ?_;refine dR (ah.n9 aN 4111 (i:=i) (j:=2) rfl rfl rfl lJ) ?_;refine dR (ah.eG aN 7500 rfl rfl rfl rfl rfl rfl rfl auD (by rw[xA];omega)) ?_;refine' eU [(7100,j0),(4111,.row b3 (eZ aE vs (wb bA a2 i) (wc bA i)) 5 249),(7500,.row (vs i) (nK bR aC (ba i) k) 12 234)] 0 (λy:Nat=>[_,_,_,.fn (.func b6) first cs,.T .none 3 (eL (aC x)),_,_,_,_,_,_,_,_,_,_,_,_,_,_]) (λy=>[]) [0,1,3,7,15,0,32,96,224,480,992,2047,4095,8191,16383,32767,32767,65535,262143] [] ?_ ?_;rotate_left 17;refine dB ?_;refine bQ (λy=>ah.rg 7500 (i:=k) rfl rfl (by rw[xA];omega) (cB y)) ?_;refine bQ (λy=>ah.js aN 7500 (i:=k) rfl rfl (by rw[xA];omega) rfl rfl rfl auG (cB y)) ?_;refine bQ (λy=>ah.n9 aN 7500 (i:=k) (j:=9) rfl rfl rfl uk (cB y (aa:=ap.of_eq alN))) ?_;refine bQ (λy=>ah.B1 rfl (first++[.fn (.func 173) [] []]++cs) [(7100,7100)] (hs:=[(7100,j0)]) ⟨rfl,a_⟩ alO rfl (dO.refl _) E (cB y)) ?_;refine bQ (λy=>ah.rg 7500 (i:=k) rfl rfl (by rw[xA];omega) (cB y)) ?_;refine bQ (λy=>ah.js aN 7500 (i:=k) rfl rfl (by rw[xA];omega) rfl rfl rfl auG (cB y)) ?_;refine bQ (λy=>ah.js aN 7500 (i:=k) rfl rfl (by rw[xA];omega) rfl rfl rfl auG (cB y)) ?_;refine bQ (λy=>ah.n9 aN 7500 (i:=k) (j:=0) rfl rfl rfl uk (cB y)) ?_;exact trivial;intro _;(conv=>whnf);refine go ?_;refine cb ?_ ?_<;>intro hc;(have Gx:(kN aC x).2≠0:=by simpa using hc);have Pk:=alp (aC:=aC) (n:=aE.length) c1 PL eK (λj ad=>Db j auD ad) (by rw[JQ];exact Gx);rw[JQ]at Pk;refine go ?_;exact⟨.bm [u 0,u (kN aC x).2],an,(by rw[Gw,Pk,auN Gx])⟩;(have Gx:(kN aC x).2=0:=by simpa using hc);obtain⟨nb,A1,w2⟩:=Yn Gx;(have alS:=ajY (B:=B) (kN aC x).1 (by have:(kN aC x).1.length<=64:=A1;omega) λg aS=>by obtain⟨vT,vU⟩:=w2 g aS;exact⟨by omega,λy hy=>by have:=vU y hy;omega⟩);have qZ:=alx (bR:=bR) (aC:=aC) eK;rw[JQ]at qZ;refine go ?_;refine bq alS ?_;refine dR (ah.rg 7500 (i:=k) rfl rfl (by rw[xA];omega)) ?_;refine dR (ah.js aN 7500 (i:=k) rfl rfl (by rw[xA];omega) rfl rfl rfl auG) ?_;refine dR (ah.vj aN 7500 (i:=k) (j:=10) rfl rfl rfl rfl uk auG rfl) ?_;refine fs (k+1) [(7100,7100),(4111,4111),(7500,7500)] ⟨by omega,λj ad h=>?_⟩ (A:=⟨cX,rfl,rfl,rfl,rfl,rfl,rfl,sS qZ,ak⟩);rcases au6 j k with pd|pd;exact Db j ad pd;(have alT:j=k:=by omega);subst alT;rw[JQ];exact Gx);(have lX:k=(ba i).length:=by simp at hc;omega);subst lX;rw[alv];refine Y.exit ?_;(conv=>whnf);(have Gy:∀x∈ba i,o5 aC wide x:=λx J=>by obtain⟨j,ad,rfl⟩:=avm.1 J;exact⟨(gb i c1 _ J).1,(gb i c1 _ J).2.1,Db j ad ad⟩);have Yx:=l5.M1 (B:=B) (bU:={x:bz // o5 aC wide x}) (λx=>kq bR aC x.1) (λx=>alz hs aC x.1) (y7 aC wide) 177 [.a7 1 [.a7 5 [s4 wide b3 Q a JP] 0 0] 0 0] (λx y=>alh aX bR hs aC x.1 y.1 wide b3 Q a JP x.2 y.2) (vs i) ((ba i).attachWith _ Gy) (by rw[List.length_attachWith];exact qM);rw[show((ba i).attachWith _ Gy).map (λx=>kq bR aC x.1)=(ba i).map (kq bR aC)from List.attachWith_map_val Gy,show(fR (y7 aC wide) ((ba i).attachWith _ Gy)).map (λx=>kq bR aC x.1)=(na aC wide (ba i)).map (kq bR aC)from by rw[JL aC wide Gy,avR];rfl]at Yx;refine go ?_;refine dR (ah.rg 4111 (i:=i) rfl rfl (by rw[ib];omega)) ?_;refine dR (ah.js aN 4111 (i:=i) rfl rfl (by rw[ib];omega) rfl rfl rfl auG) ?_;refine dR (ah.n9 aN 4111 (i:=i) (j:=2) rfl rfl rfl lJ) ?_;refine mq [(2000,7500)] Yx ?_;refine dR (ah.rg 4111 (i:=i) rfl rfl (by rw[ib];omega)) ?_;refine dR (ah.js aN 4111 (i:=i) rfl rfl (by rw[ib];omega) rfl rfl rfl auG) ?_;refine dR (ah.n9 aN 4111 (i:=i) (j:=2) rfl rfl rfl lJ) ?_;refine dR (ah.sK aN 7500 rfl rfl rfl rfl) ?_;rw[auS];have fe:=JN aC wide (L:=ba i);have xy:=JM aC wide (L:=ba i);obtain⟨R,eJ⟩:∃R,na aC wide (ba i)=R:=⟨_,rfl⟩;rw[eJ]at fe xy⊢;refine Y.own 8 1000 1 3 rfl (λw0=>?_);refine hf (λx:Nat×Value=>x.1<=R.length) [1,2,6,7,57,58,116,117] [7100,4111,7500] (λx=>[(8,.T (.own 1000 x.2) 1 (bo ((R.take x.1).map λy=>qq y.id (gl aC y)))),(118,u x.1)]) (λx=>[(1000,.own x.2 (bo ((R.take x.1).map λy=>qq y.id (gl aC y))).length 1 3)]) (λx=>R.length-x.1) (0,w0) (au7 _) [(7100,7100),(4111,4111),(7500,7500),(1000,1000)] ?_;rintro⟨k,w⟩ Z;dsimp only at Z⊢;refine go ?_;refine cb (t:=decide ((k:Int)<R.length)) ?_ ?_<;>intro hc;(have eK:k<R.length:=by simpa using hc);have cD:=xy _ (auT eK);have alU:=ali (B:=B) bR hs aC R[k] cD.2.2;refine go ?_;(have Dc:(R.map (kq bR aC))[k]?=some (kq bR aC R[k]):=by simp[eK]);(have c2:(R.take k).map (λy=>qq y.id (gl aC y))++[qq R[k].id (gl aC R[k])]=(R.take (k+1)).map λy=>qq y.id (gl aC y):=by rw[auU eK,avo];rfl);refine dR (ah.eG aN 7500 rfl rfl rfl rfl rfl rfl rfl auD auE) ?_;refine dR (ah.n9 aN 7500 (i:=k) (j:=0) rfl rfl rfl Dc) ?_;intro qm;(conv=>whnf);refine dc ?_;rw[show[D.N R[k].id,u 0,u 0,u R[k].fj,u R[k].c6,u R[k].gI,u 1,.N [],u R[k].leads,bR R[k],.T .none 1 (bo (gl aC R[k])),.bd].all D.one=true from C9 hs aC R[k]];(conv=>whnf);refine dc ?_;refine jb 14 14 12 (kq bR aC R[k]) ?_ (en:=C9 hs aC R[k]);refine go ?_;refine bq alU ?_;refine MN (by show(_+1)*8<=_;simp only[bo,auS,au9];omega) (by show _+1<=_;simp only[bo,auS,au9];omega) λgO=>?_;(have qb:bo ((R.take k).map λy=>qq y.id (gl aC y))++[u (qq R[k].id (gl aC R[k]))]=bo ((R.take (k+1)).map λy=>qq y.id (gl aC y)):=by rw[<-c2];simp[bo]);exact fs (k+1,gO) [(7100,7100),(4111,4111),(7500,7500),(1000,126)] eK (A:=⟨⟨E,E,E,E,E,E,E,E,ap.i' qb,E,ak⟩,rfl,rfl,rfl,rfl,rfl,rfl,rfl,rfl,jq (by rw[<-qb];simp),ak⟩);(have lX:k=R.length:=by simp at hc;omega);subst lX;rw[au2];have Yy:=ahO (B:=B) (R.map λy=>qq y.id (gl aC y)) (by rw[auS];omega);(have alV:yJ (R.map λy=>qq y.id (gl aC y))=bA i:=by rw[<-eJ,<-hN];rfl);rw[alV]at Yy;have Im:=PK i c1;have qB:=C' (a:=a2) PK i auD;refine Y.exit ?_;(conv=>whnf);refine go ?_;refine bq Yy ?_;refine dR (ah.rg 4111 (i:=i) rfl rfl (by rw[ib];omega)) ?_;refine dR (ah.js aN 4111 (i:=i) rfl rfl (by rw[ib];omega) rfl rfl rfl auG) ?_;refine dR (ah.vj aN 4111 (i:=i) (j:=3) rfl rfl rfl rfl lJ auG rfl) ?_;refine dR (ah.rg 4111 (i:=i) rfl rfl (by rw[awc,ib];omega)) ?_;refine dR (ah.js aN 4111 (i:=i) rfl rfl (by rw[awc,ib];omega) rfl rfl rfl auG) ?_;refine dR (ah.vj aN 4111 (i:=i) (j:=4) rfl rfl rfl rfl (by rw[aw3 (by rw[ib];omega)]) auG rfl) ?_;(have ku:∀q,((eZ aE vs (wb bA a2 i) (wc bA i)).set i q).set i (nI aE[i].1 aE[i].2 (vs i) (fP bA a2 i) (bA i*2048))=eZ aE vs (wb bA a2 (i+1)) (wc bA (i+1)):=λq=>by have:=alm (vs:=vs) (aY:=wb bA a2 i) (lM:=wc bA i) (AZ:=wb bA a2 (i+1)) (JK:=wc bA (i+1)) c1 (λj ad=>by unfold wb wc;by_cases h:j<i;rw[auO h,auO auD,auO h,auO auD];exact⟨rfl,rfl⟩;rw[auN h,auN auD,auN h,auN auD];exact⟨rfl,rfl⟩);rw[List.set_set,<-this];congr 2;exact(auO auD).symm;exact(auO auD).symm);(have hZ:∀j,j≠i->wd bR aC wide ba (i+1) j=wd bR aC wide ba i j:=λj ad=>by unfold wd;by_cases h:j<i;rw[auO h,auO auD];rw[auN h,auN auD]);(have zx:wd bR aC wide ba (i+1) i=R.map (kq bR aC):=by unfold wd;rw[auO auD,eJ]);exact ym (i+1) ⟨c1,λj ad y hy=>(awJ.1 ad).elim (λh=>PL j h y hy) (λh=>by subst h;obtain⟨q,I,rfl⟩:=avm.1 hy;exact Db q I I)⟩ (wY (f2:=.row (vs i) (R.map (kq bR aC)) 12 234) [(7100,7100),(4111,4111)] (10000+i) 7500 auD (C7 (gE _ _ _) _) (Yp rfl zx hZ) (gT:=⟨rfl,rfl,rfl,sS (ku _),ak⟩)));(have qb:i=aE.length:=by omega);subst qb;clear c1 cr;refine Y.qU rfl (gE _ _ _) λiL=>?_;refine go ?_;refine cb (t:=decide ((aE.length:Int)<(aE.length:Nat))) (λhc=>by simp at hc) (λhc=>?_);refine Y.exit ?_;(conv=>whnf);obtain⟨bL,m8⟩:∃bL,fP bA a2 aE.length=bL:=⟨_,rfl⟩;have alW:=C' (a:=a2) PK aE.length (auW _);rw[m8]at alW⊢;(have atc:0<=bL/\bL<=2000000000000000:=by omega);(have PM:iT vs (wd bR aC wide ba aE.length) aE.length=iT vs (uH bR aC wide ba 0) aE.length:=by funext k;unfold iT;split;rename_i Z;congr 2;unfold wd uH;rw[auO auD,auN auD];rfl;rfl);(have u9:Gw aC wide ba aE.length a2=.bm [u (bL+kc (sp aC wide ba aE.length)),u 0]:=by unfold Gw;rw[auO (alo PL),xz,<-m8,<-hN];rfl);rw[u9];obtain⟨JR,alX⟩:∃JR,wb bA a2 aE.length=JR:=⟨_,rfl⟩;obtain⟨JS,alY⟩:∃JS,wc bA aE.length=JS:=⟨_,rfl⟩;rw[alX,alY,PM];refine Y.jK [(1,u bL),(2,.a7 1 [.a7 5 [s4 wide b3 Q a JP] 0 0] 0 0)] (cV [(4111,.row b3 (eZ aE vs JR JS) 5 249)] (iT vs (uH bR aC wide ba 0) aE.length)) (pt [(4111,4111)] (gE _ _ _)) ?_;refine go ?_;refine dR (ah.sK aN 4111 rfl rfl rfl rfl) ?_;rw[ib];obtain⟨A2,Dd⟩:∃A2:Nat->Int,fP (λi=>((ba i).length:Nat)) 0=A2:=⟨_,rfl⟩;(have hcs:∀i,A2 (i+1)=A2 i+((ba i).length:Nat):=λi=>by rw[<-Dd];rfl);(have nU:∀i,i<=aE.length->A2 i<=10000000:=λi hi=>by rw[<-Dd];exact Int.le_trans (alI (λj=>by omega) hi) PJ);(have jn:A2 0=0:=by rw[<-Dd];rfl);have PN:sp aC wide ba 0=0:=rfl;refine z_ (λx:Nat=>x<=aE.length/\0<=sp aC wide ba x/\sp aC wide ba x<=20000000*A2 x) [1,2,147] [4111] (λx=>[(16,u (sp aC wide ba x)),(148,u x)]) (λ_=>[]) (λx=>iT vs (uH bR aC wide ba x) aE.length) (λx=>aE.length-x) 0 ⟨au7 _,by rw[PN];omega,by rw[PN,jn];omega⟩ ?_ (h1:=by exact fQ.same cX λk o h=>h);rintro i ⟨cr,Yz,atd⟩;rcases au6 i aE.length with c1|c1;obtain⟨R,eJ⟩:∃R,na aC wide (ba i)=R:=⟨_,rfl⟩;have fe:=JN aC wide (L:=ba i);have xy:=JM aC wide (L:=ba i);rw[eJ]at fe xy;(have PM:uH bR aC wide ba i i=iw bR aC R 0:=by rw[alB,uH,eJ,auN auD];rfl);have PO:=alG (aC:=aC) (wide:=wide) (ba:=ba) (i:=i);rw[eJ]at PO;generalize sp aC wide ba i=f2 at*;have ate:=hcs i;have atf:=nU (i+1) c1;have qM:=aj i c1;refine Y.B_ (f2:=.row (vs i) (iw bR aC R 0) 12 234) 7500 (10000+i) rfl (gE _ _ _) (by rw[PH c1,PM]) rfl auG λGt=>?_;have lJ:=C_ (vs:=vs) (aY:=JR) (lM:=JS) c1;refine go ?_;refine wX (t:=decide ((i:Int)<(aE.length:Nat))) (by simpa using c1) ?_;refine dR (ah.eG aN 4111 rfl rfl rfl rfl rfl rfl rfl auD (by rw[ib];omega)) ?_;refine dR (ah.js aN 4111 (i:=i) rfl rfl (by rw[ib];omega) rfl rfl rfl auG) ?_;refine dR (ah.n9 aN 4111 (i:=i) (j:=2) rfl rfl rfl lJ) ?_;refine dR (ah.sK aN 7500 rfl rfl rfl rfl) ?_;rw[Da];refine hf (λk:Nat=>k<=R.length/\0<=((R.take k).flatMap λy=>(gl aC y).tail).foldl jZ f2/\((R.take k).flatMap λy=>(gl aC y).tail).foldl jZ f2<=f2+20000000*(k:Int)) [1,2,17,147,148,159] [4111] (λk=>[(16,u (((R.take k).flatMap λy=>(gl aC y).tail).foldl jZ f2)),(160,u k)]) (λk=>[(7500,.row (vs i) (iw bR aC R k) 12 234)]) (λk=>R.length-k) 0 ⟨au7 _,Yz,by simp⟩ [(4111,4111),(7500,7500)] ?_;rintro k ⟨Z,iI,p4⟩;refine go ?_;refine cb (t:=decide ((k:Int)<R.length)) ?_ ?_<;>intro hc;(have eK:k<R.length:=by simpa using hc);obtain⟨dL,cC,uq⟩:=JJ (xy _ (auT eK)).2.2;have uk:=alF (bR:=bR) (aC:=aC) eK;have alZ:=alD (bR:=bR) (aC:=aC) eK;have nf:=Yt (xs:=iw bR aC R k) (k:=k) (Yu (bR:=bR) (aC:=aC) (x:=R[k]) ap.rO);rw[alE eK]at nf;(have a1:((R.take (k+1)).flatMap λy=>(gl aC y).tail).foldl jZ f2=(gl aC R[k]).tail.foldl jZ (((R.take k).flatMap λy=>(gl aC y).tail).foldl jZ f2):=by rw[auU eK,awx,avW];simp);generalize((R.take k).flatMap λy=>(gl aC y).tail).foldl jZ f2=dj at*;generalize R[k]=x at*;refine go ?_;refine dR (ah.eG aN 4111 rfl rfl rfl rfl rfl rfl rfl auD (by rw[ib];omega)) ?_;refine dR (ah.js aN 4111 (i:=i) rfl rfl (by rw[ib];omega) rfl rfl rfl auG) ?_;refine dR (ah.n9 aN 4111 (i:=i) (j:=2) rfl rfl rfl lJ) ?_;refine dR (ah.eG aN 7500 rfl rfl rfl rfl rfl rfl rfl auD (by rw[Da];omega)) ?_;refine dR (ah.rg 7500 (i:=k) rfl rfl (by rw[Da];omega)) ?_;refine dR (ah.js aN 7500 (i:=k) rfl rfl (by rw[Da];omega) rfl rfl rfl auG) ?_;refine dR (ah.n9 aN 7500 (i:=k) (j:=10) rfl rfl rfl uk) ?_;refine And.intro (λ_=>by simp only[bo,auS];omega) ?_;(conv=>whnf);refine dc ?_;obtain⟨jB,g7⟩:∃jB,(gl aC x).tail=jB:=⟨_,rfl⟩;(have AR:jB.length<=63:=by rw[<-g7,List.length_tail];omega);have YA:∀n∈jB,0<=n/\n<=300000:=λn ar=>uq n (by rw[<-g7]at ar;exact ax4 ar);rw[g7]at a1;rw[show List.drop (Int.toNat 1) (List.take (((bo (gl aC x)).length:Nat):Int).toNat (bo (gl aC x)))=bo jB by rw[avq,au2,<-g7];simp[bo],show(bo jB).length=jB.length from auS _];refine Y.vk 7500 rfl auF (Ys Yr rfl) nf ?_;refine Y.qF 8000 2 269 ?_;refine go ?_;refine hf (λx:Nat×Value×List D=>x.1<=jB.length/\x.2.2.length=x.1) [1,2,17,18,19,147,148,159,160,177,178] [4111] (λy=>[(16,u ((jB.take y.1).foldl jZ dj)),(179,u y.1)]) (λy=>[(7500,.row (vs i) ((iw bR aC R k).set k (rh bR aC (.am y.2.1) x)) 12 234),(8000,.row y.2.1 y.2.2 2 269)]) (λy=>jB.length-y.1) (0,.slice none 0 0,[]) ⟨au7 _,rfl⟩ [(4111,4111),(7500,7500),(8000,8000)] ?_;rintro⟨m,v,bP⟩ ⟨hm,sa⟩;dsimp only at hm sa⊢;have JT:=Yv (l:=jB.take m) (λn ar=>YA n (avO ar)) iI;rw[au9]at JT;have I:((iw bR aC R k).set k (rh bR aC (.am v) x))[k]?=some (rh bR aC (.am v) x):=aw3 (by rw[Da];exact eK);(have lA:((iw bR aC R k).set k (rh bR aC (.am v) x)).length=R.length:=by rw[awc,Da]);refine go ?_;refine cb (t:=decide ((m:Int)<(jB.length:Nat))) ?_ ?_<;>intro hc;(have gs:m<jB.length:=by simpa using hc);have pj:=YA _ (auT gs);(have v':(bo jB)[m]?=some (.int .i64 jB[m]):=by simp[bo,gs]);(have YB:(jB.take (m+1)).foldl jZ dj=jZ ((jB.take m).foldl jZ dj) jB[m]:=by rw[auU gs,avW];rfl);obtain⟨lY,aa⟩:∃lY,lY=if jB[m]>2048-((jB.take m).foldl jZ dj).tmod 2048 then(jB.take m).foldl jZ dj+(2048-((jB.take m).foldl jZ dj).tmod 2048)else(jB.take m).foldl jZ dj:=⟨_,rfl⟩;generalize(jB.take m).foldl jZ dj=dt at*;(have atg:(jB.take (m+1)).foldl jZ dj=lY+jB[m]:=by rw[YB,aa];rfl);clear YB;(have ath:0<=dt.tmod 2048/\dt.tmod 2048<2048:=by rw[avH JT.1];omega);(have CI:dt<=300000000000000:=by omega);(have ati:dt<=lY/\lY<=dt+2048:=by rw[aa];split<;>omega);(have atj:0<=lY.tdiv 2048/\lY.tdiv 2048<=300000000000000:=by rw[au4 auD];omega);refine go ?_;refine And.intro (λ_=>by simp only[bo,auS];omega) ?_;(conv=>whnf);refine dc ?_;refine bJ (u jB[m]) v' ?_;refine nt (α:=Unit) (λ_=>True) [1,2,17,18,19,21,147,148,159,160,177,178,179] [4111,7500,8000] (λ_=>[(16,u lY)]) (λ_=>[]) ?_ ?_;refine gV (λbx=>?_) (λbx=>?_);rw[auO (by simpa using bx)]at aa;subst aa;exact gL () [(4111,4111),(7500,7500),(8000,8000)] trivial;rw[auN (by simpa using bx)]at aa;subst aa;exact gL () [(4111,4111),(7500,7500),(8000,8000)] trivial;intro _ _;(have atk:0<=lY.tmod 2048/\lY.tmod 2048<2048:=by rw[avH auD];omega);refine go ?_;refine dR (ah.rg 7500 (i:=k) rfl rfl (by rw[lA];omega)) ?_;refine dR (ah.js aN 7500 (i:=k) rfl rfl (by rw[lA];omega) rfl rfl rfl auG) ?_;refine dR (ah.n9 aN 7500 (i:=k) (j:=11) rfl rfl rfl I) ?_;refine .inr (ah.ph aN 8000 rfl rfl rfl auK rfl rfl rfl auF (by show(_+1)*16<=_;omega) (by show _+1<=_;omega) λbS ho cap=>?_);(conv=>whnf);refine dc ?_;refine dR (ah.rg 7500 (i:=k) rfl rfl (by rw[lA];omega)) ?_;refine dR (ah.js aN 7500 (i:=k) rfl rfl (by rw[lA];omega) rfl rfl rfl auG) ?_;refine dR (ah.vj aN 7500 (i:=k) (j:=11) rfl rfl rfl rfl I auG rfl) ?_;have Mk:∀d,((iw bR aC R k).set k (rh bR aC (.am v) x)).set k d=(iw bR aC R k).set k d:=λd=>List.set_set ..;exact fs (m+1,.slice bS ho cap,bP++[.agg [u (bL+lY.tdiv 2048),u (lY.tmod 2048)]]) [(4111,4111),(7500,7500),(8000,205)] ⟨gs,by simp[sa]⟩ (A:=⟨cX,rfl,rfl,rfl,rfl,sS (Mk _),rfl,a_⟩);(have PP:m=jB.length:=by simp at hc;omega);subst PP;rw[au2]at JT⊢;rw[<-a1]at JT⊢;refine Y.exit ?_;(conv=>whnf);refine Y.vk 7500 rfl auF (Ys Yr rfl) (Yt (Yu (.any _))) ?_;refine go ?_;exact fs (k+1) [(4111,4111),(7500,7500)] ⟨eK,by omega,by omega⟩ (A:=⟨cX,rfl,rfl,rfl,rfl,sS alZ,ak⟩);(have lX:k=R.length:=by simp at hc;omega);subst lX;rw[au2,<-PO];rw[au2,<-PO]at iI p4;(have hZ:∀j,j≠i->uH bR aC wide ba (i+1) j=uH bR aC wide ba i j:=λj ad=>by unfold uH;by_cases h:j<i;rw[auO h,auO auD];rw[auN h,auN auD]);(have zx:uH bR aC wide ba (i+1) i=iw bR aC R R.length:=by rw[alC];unfold uH;rw[auO auD,eJ]);refine Y.exit ?_;(conv=>whnf);refine go ?_;exact ym (i+1) ⟨c1,iI,by omega⟩ (wY (f2:=.row (vs i) (iw bR aC R R.length) 12 234) [(4111,4111)] (10000+i) 7500 auD (C7 (gE _ _ _) _) (Yp rfl zx hZ));(have qb:i=aE.length:=by omega);subst qb;have al0:=alq (B:=B) (sp aC wide ba aE.length) Yz (by have:=nU aE.length (auW _);omega);refine Y.qU rfl (gE _ _ _) λiL=>?_;refine go ?_;refine cb (t:=decide ((aE.length:Int)<(aE.length:Nat))) (λhc=>by simp at hc) (λhc=>?_);refine Y.exit ?_;(conv=>whnf);(have atl:0<=kc (sp aC wide ba aE.length)/\kc (sp aC wide ba aE.length)<=1000000000000:=by have:=nU aE.length (auW _);unfold kc;rw[au4 auD];omega);refine go ?_;refine bq al0 ?_;exact⟨.bm [u (bL+kc (sp aC wide ba aE.length)),u 0],an,rfl⟩
end Go.bV.ct
namespace Go.bV
open Go Go.RowKit
variable{k:Nat}
theorem JU{c:Nat}{a b:Option aJ}{o:aJ}(Z:10000<=k)(h:b=some o)(hc:Nat.blt c 10000=true:=by exact rfl):_root_.cond (Nat.beq k c) a b=some o:=by rw[awv (by have:=avj hc;omega)];exact h
variable{aY:List (Nat×aJ)}{cx:bH}
theorem y8{o:aJ}(Z:10000<=k)(h:cx k=some o)(aj:sT aY=true:=by exact rfl):cV aY cx k=some o:=by unfold cV;cases hs:aM aY k with|some x=>have:=vt aj hs;omega|none=>exact h
variable{aA:av}
theorem xB{l:List (Nat × D)}{aY:List (Nat × aJ)}(m : List (Nat × Nat))(cA : qa cx)(sE : ∀k o,10000<=k->cx k = some o->aA.H k = some o := by
      intro k o Z I
      repeat (refine JU Z ?_)
      exact y8 Z I) (h1:jD aA l:=by exact Go.bV.ct.cX) (hm:j4 m=true:=by exact rfl) (gT:tO aA m aY:=by exact Go.bV.ct.cX) (a1:sT aY=true:=by exact rfl) (hx:yk 10000 m=true:=by exact rfl) :
  fQ aA l (cV aY cx):=by
 have h:=fQ.pt (cx:=cx) m h1 hm gT a1 hx cA
 have e:lz cx aA.H=aA.H:=funext λk=>by
  unfold lz
  cases O:cx k with
  |none=>rfl
  |some o=>exact(sE k o (cA k o O) O).symm
 rw[e]at h;exact h
def qs(aY:List (Nat×aJ)):Nat->Bool:=λk=>Nat.ble 10000 k||(aM aY k).isSome
theorem YC(h:10000<=k):qs aY k=true:=by unfold qs;rw[ax2 h];rfl
variable{z:av}
theorem PQ{aY:List (Nat × aJ)}(cA : qa cx)(sE : ∀k o,10000<=k->cx k = some o->z.H k = some o := by
      intro k o Z I
      repeat (refine JU Z ?_)
      exact y8 Z I) (h1:mI z aY:=by repeat (first|exact trivial|refine⟨rfl,?_⟩)):∀k o,cV aY cx k=some o->qs aY k=true/\z.H k=some o:=λk o h=>by
 unfold cV at h
 cases hs:aM aY k with
 |some x =>
  rw[hs]at h;cases h
  exact⟨by unfold qs;rw[hs];simp,h1.aM k _ hs⟩
 |none =>
  rw[hs]at h;exact⟨YC (cA k o h),sE k o (cA k o h) h⟩
theorem JV{AZ:List (Nat×aJ)}{H:bH}{o:aJ}(Z:10000<=k)(h:cx k=some o)(aj:sT AZ=true:=by exact rfl):C8 (qs aY) H (cV AZ cx) k=some o:=by unfold C8;rw[YC Z];exact y8 Z h aj
variable{α:Type}
def al1(eC:α->Prop)(l:α->List (Nat×D))(aY:α->List (Nat×aJ))(cx:α->bH)(K:cM->av->Prop):cM->av->Prop
 |.normal,z=>∃x,eC x/\fQ z (l x) (cV (aY x) (cx x))
 |.exit id,z=>K (.exit id) z
 |.ret,z=>K .ret z
end Go.bV
namespace Go.bV.ct
open Go Go.Proofs
variable{B:World}{al:Nat}{z:av}{K:cM->av->Prop}{α:Type}{cL:List (Nat×aJ)}
theorem PR{W:b5 Tryz.prog B al}{a b:Code}(eC:α->Prop)(hA wE:List Nat)(l:α->List (Nat×D))(aY:α->List (Nat×aJ))(cx:α->bH){L:List (Nat×D)}
  (h:Y W a z (al1 eC (λx=>L++l x) (λx=>cL++aY x) cx K)) (bt:∀x,eC x->Y W b (EO (L++l x) (cL++aY x) (cx x)) K) (aX:t1 z hA L:=by exact ye) (hO:yd z wE cL:=by exact ye):Y W a z (zm W b K) :=
 h.mono λe aA Z=>by
  cases e with
  |normal=>obtain⟨x,J,h1⟩:=Z;exact(bt x J).jK _ _ h1
  |exit id=>exact Z
  |ret=>exact Z
structure kr where
 aE:List (auM×Int)
 ba:Nat->List bz
def hU(s:kr)(i:Nat)(x:bz):kr:=⟨s.aE,λj=>if j=i then s.ba j++[x]else s.ba j⟩
def mA(s:kr)(id:auM)(p:Nat)(a b:bz):kr:=⟨s.aE++[(id,(p:Int))],λj=>if j=s.aE.length then[a,b]else s.ba j⟩
def y9(path:auM):Int:=Lib.lastIndexByte ⟨⟨path⟩⟩ 47
def JW(path:auM):auM:=path.take (if y9 path>0 then y9 path else 0).toNat
theorem al2(path:auM):y9 path<=(path.length:Nat):=by unfold y9;rcases Lib.lastIndexByte_spec ⟨⟨path⟩⟩ 47 with⟨h,_⟩|⟨i,hi,h,_⟩;rw[h];omega;rw[h];have:i<path.length:=hi;omega
section
variable(o:fk)(ai:List (auM×U))
def o6(n:U)(path:auM)(bT:Nat):U:=if 1<bT then gr ai (JW path)else n
def nc(path name:auM)(bT:Nat):auM:=if 1<bT then path++[47]++name else name
mutual
def ix(n:U)(path id:auM)(cv bT:Nat)(s:kr):kr :=
 match n with
 |.mk a b c d e f g h i j ae ch=>hV ae (jV 1 ae).1 s.aE.length path bT (mA s id cv ⟨[0],h,o.c6,2,s.aE.length,.e4⟩ ⟨[1],(o6 ai (.mk a b c d e f g h i j ae ch) path bT).n4,o.c6,2,cv,.e4⟩)
def hV:List U->List auM->Nat->auM->Nat->kr->kr
 |[],_,_,_,_,s=>s
 |k::ae,aU,dX,path,bT,s=>hV ae aU.tail dX path bT (if kb 1 k (bT+1:Nat)=true then
   (if k.kind=0 then hU (ix k (nc path k.name bT) (fl (aU.headD [])) dX (bT+1) s) dX ⟨fl (aU.headD []),k.n4,o.c6,2,s.aE.length,.e4⟩else hU s dX ⟨fl (aU.headD []),k.n4,o.c6,0,-1,.e4⟩)else s)
end
def A3(k : U)(aU : auM)(dX : Nat)(path : auM)(bT : Nat)(s : kr): kr := if kb 1 k (bT + 1 : Nat) = true then
      (if k.kind=0 then hU (ix o ai k (nc path k.name bT) (fl aU) dX (bT+1) s) dX ⟨fl aU,k.n4,o.c6,2,s.aE.length,.e4⟩else hU s dX ⟨fl aU,k.n4,o.c6,0,-1,.e4⟩)else s
theorem YD:∀(ae:List U) (aU:List auM) (k:U) (dX:Nat) (path:auM) (bT:Nat) (s:kr),hV o ai (ae++[k]) aU dX path bT s=A3 o ai k ((aU[ae.length]?).getD []) dX path bT (hV o ai ae aU dX path bT s)
 |[],aU,k,dX,path,bT,s=>by rw[av4,hV,hV,hV,A3];(have:aU.headD []=(aU[0]?).getD []:=by cases aU<;>rfl);rw[this];rfl
 |x::ae,aU,k,dX,path,bT,s=>by rw[avQ,hV,hV,YD ae];(have:(aU.tail[ae.length]?).getD []=(aU[(x::ae).length]?).getD []:=by rw[List.getElem?_tail];rfl);rw[this]
theorem al3(n:U)(path id:auM)(cv bT:Nat)(s:kr):ix o ai n path id cv bT s=hV o ai n.F (jV 1 n.F).1 s.aE.length path bT (mA s id cv ⟨[0],n.n4,o.c6,2,s.aE.length,.e4⟩ ⟨[1],(o6 ai n path bT).n4,o.c6,2,cv,.e4⟩):=by cases n;rw[ix]
end
mutual
def o7(n:U):Nat :=
 match n with
 |.mk a b c d e f g h i j ae ch=>a.length+2+kO ae
def kO:List U->Nat
 |[]=>0
 |k::ae=>o7 k+kO ae
end
theorem A4(n:U):o7 n=n.name.length+2+kO n.F:=by cases n;rw[o7]
theorem PS:∀{l:List U} {k:U},k∈l->o7 k<=kO l
 |x::r,k,h=>by rw[kO];rcases au8.1 h with e|e;subst e;omega;have:=PS e;omega
theorem YE:∀(l:List U),2*l.length<=kO l
 |[]=>by simp[kO]
 |x::r=>by rw[kO,auX];have:=YE r;have:=A4 x;omega
theorem JX:∀(l r:List U),kO (l++r)=kO l+kO r
 |[],r=>by simp[kO]
 |x::l,r=>by rw[avQ,kO,kO,JX l r];omega
mutual
theorem JY(o:fk)(ai:List (auM×U))(n:U)(path id:auM)(cv bT:Nat)(s:kr):s.aE.length<(ix o ai n path id cv bT s).aE.length/\(ix o ai n path id cv bT s).aE.length<=s.aE.length+o7 n/\(∀j,j<s.aE.length->(ix o ai n path id cv bT s).ba j=s.ba j):=by
 match n with
 |.mk a b c d e f g h i j ae ch =>
  rw[ix,o7];have:=Gz o ai ae (jV 1 ae).1 s.aE.length path bT (mA s id cv ⟨[0],h,o.c6,2,s.aE.length,.e4⟩ ⟨[1],(o6 ai (.mk a b c d e f g h i j ae ch) path bT).n4,o.c6,2,cv,.e4⟩) (by simp[mA]);have aj:(mA s id cv ⟨[0],h,o.c6,2,s.aE.length,.e4⟩ ⟨[1],(o6 ai (.mk a b c d e f g h i j ae ch) path bT).n4,o.c6,2,cv,.e4⟩).aE.length=s.aE.length+1:=by simp[mA]
  rw[aj]at this;refine⟨by omega,by omega,λj ad=>?_⟩;rw[this.2.2.1 j auD auD];simp only[mA];rw[auN auD]
theorem Gz(o:fk)(ai:List (auM×U))(ae:List U)(aU:List auM)(dX:Nat)(path:auM)(bT:Nat)(s:kr)(ha:dX<s.aE.length):s.aE.length<=(hV o ai ae aU dX path bT s).aE.length/\(hV o ai ae aU dX path bT s).aE.length<=s.aE.length+kO ae/\(∀j,j<s.aE.length->j≠dX->(hV o ai ae aU dX path bT s).ba j=s.ba j)/\((hV o ai ae aU dX path bT s).ba dX).length<=(s.ba dX).length+ae.length:=by
 match ae with
 |[]=>rw[hV];simp[kO]
 |k::ae =>
  rw[hV,kO,auX];split
  ·split
   ·have h1:=JY o ai k (nc path k.name bT) (fl (aU.headD [])) dX (bT+1) s;have A:=Gz o ai ae aU.tail dX path bT (hU (ix o ai k (nc path k.name bT) (fl (aU.headD [])) dX (bT+1) s) dX ⟨fl (aU.headD []),k.n4,o.c6,2,s.aE.length,.e4⟩) (by simp only[hU];omega);have aa:=h1.2.2 dX ha;have aj:(hU (ix o ai k (nc path k.name bT) (fl (aU.headD [])) dX (bT+1) s) dX ⟨fl (aU.headD []),k.n4,o.c6,2,s.aE.length,.e4⟩).aE.length=(ix o ai k (nc path k.name bT) (fl (aU.headD [])) dX (bT+1) s).aE.length:=rfl;have I:((hU (ix o ai k (nc path k.name bT) (fl (aU.headD [])) dX (bT+1) s) dX ⟨fl (aU.headD []),k.n4,o.c6,2,s.aE.length,.e4⟩).ba dX).length=(s.ba dX).length+1:=by simp only[hU,avV];rw[auV,aa];rfl
    refine⟨by omega,by omega,λj ad aZ=>?_,by omega⟩;rw[A.2.2.1 j auD aZ];simp only[hU];rw[auN aZ,h1.2.2 j ad]
   have A:=Gz o ai ae aU.tail dX path bT (hU s dX ⟨fl (aU.headD []),k.n4,o.c6,0,-1,.e4⟩) (by simp only[hU];omega);have aj:(hU s dX ⟨fl (aU.headD []),k.n4,o.c6,0,-1,.e4⟩).aE.length=s.aE.length:=rfl;have I:((hU s dX ⟨fl (aU.headD []),k.n4,o.c6,0,-1,.e4⟩).ba dX).length=(s.ba dX).length+1:=by simp only[hU,avV];rw[auV];rfl
   refine⟨by omega,by omega,λj ad aZ=>?_,by omega⟩;rw[A.2.2.1 j auD aZ];simp only[hU];rw[auN aZ]
  have A:=Gz o ai ae aU.tail dX path bT s ha;refine⟨by omega,by omega,λj ad aZ=>A.2.2.1 j ad aZ,by omega⟩
end
abbrev ri:bz->D:=λ_=>.fn (.func 229) [] []
abbrev nd(s:kr)(vs:Nat->Value):bH:=iT vs (λi=>(s.ba i).map (jA ri)) s.aE.length
inductive y_:U->Prop
 |mk (n:U) (h1:(jV 1 n.F).1.length=n.F.length) (A:∀x∈(jV 1 n.F).1,x.length<5000) (aa:∀k∈n.F,y_ k):y_ n
theorem al4(aE:List (auM×Int))(vs:Nat->Value)(id:auM)(p:Nat)(v:Value):eZ aE vs (λ_=>0) (λ_=>0)++[nI id (p:Nat) v 0 0]=eZ (aE++[(id,(p:Int))]) (λj=>if j=aE.length then v else vs j) (λ_=>0) (λ_=>0):=by unfold eZ;rw[List.mapIdx_append];congr 1;apply av2;intro j;simp only[avI];rcases au6 j aE.length with ad|ad;rw[auN auD];rw[au0 auD];rfl;simp
variable{v:Value}
theorem al5{s:kr}{vs:Nat->Value}{id:auM}{cv:Nat}{a b:bz}:∀k o,nd (mA s id cv a b) (λj=>if j=s.aE.length then v else vs j) k=some o->10000<=k/\((k=10000+s.aE.length/\o=.row v [jA ri a,jA ri b] 12 234)\/(k≠10000+s.aE.length/\nd s vs k=some o)):=λk o h=>by
 unfold nd iT at h;have aj:(mA s id cv a b).aE.length=s.aE.length+1:=by simp[mA]
 rw[aj]at h;split at h
 ·rename_i Z;refine⟨Z.1,?_⟩;by_cases gd:k=10000+s.aE.length
  ·subst gd;rw[av0]at h;dsimp only at h;rw[auO rfl]at h;refine .inl ⟨rfl,?_⟩;have:=(avB h).symm;rw[this];simp[mA]
  refine .inr ⟨gd,?_⟩;unfold nd iT;dsimp only at h;rw[auN auD]at h;rw[auO auD,<-h];simp only[mA];rw[auN auD]
 cases h
variable{aE:List (auM×Int)}{i:Nat}
theorem al6{vs:Nat->Value}(h:i<aE.length):(eZ aE vs (λ_=>0) (λ_=>0)).set i (nI aE[i].1 aE[i].2 v 0 0)=eZ aE (λj=>if j=i then v else vs j) (λ_=>0) (λ_=>0):=by apply av2;intro j;rw[awL];by_cases d6:i=j;subst d6;rw[auO rfl,auO (by rw[ib];exact h),C_ h,auO rfl];rw[auN d6];unfold eZ;simp only[avI];rw[auN (λh=>d6 h.symm)]
theorem al7{s:kr}{vs:Nat->Value}{x:bz}:∀k o,nd (hU s i x) (λj=>if j=i then v else vs j) k=some o->10000<=k/\((k=10000+i/\o=.row v ((s.ba i).map (jA ri)++[jA ri x]) 12 234)\/(k≠10000+i/\l4 (nd s vs) (10000+i) k=some o)):=λk o h=>by
 unfold nd iT at h;have aj:(hU s i x).aE.length=s.aE.length:=rfl;rw[aj]at h;split at h
 ·rename_i Z;refine⟨Z.1,?_⟩;by_cases gd:k=10000+i
  ·subst gd;rw[av0]at h;dsimp only at h;rw[auO rfl]at h;refine .inl ⟨rfl,?_⟩;have:=(avB h).symm;rw[this];simp[hU]
  refine .inr ⟨gd,?_⟩;unfold l4 nd iT;dsimp only at h;rw[auN auD]at h;rw[awv gd,auO Z,<-h];simp only[hU];rw[auN auD];rfl
 cases h
theorem al8(aX:dk B)(o:fk)(ia:U)(bW bG dN cJ:Nat)(ai:List (auM×U)):∀(m:Nat) (n:U) (path id:auM) (cv bT:Nat) (s:kr) (vs:Nat->Value) (b3:Value),o7 n<=m->y_ n->(s.aE.length+o7 n<=1000000/\path.length+bT+kO n.F<=1000000)->
  c4 B 181 [az n,.N path,.N id,u (cv:Nat),u (bT:Nat),.a7 1 [.box 4110 dN 0] 0 0,.a7 1 [.a7 26 [dH o ia bW bG] 0 0] 0 0,.box 4 cJ 0] (cV [(4103,.mp bW (br az ai)),(4104,.mp bG (br bj [])),(4,.box cJ [.fn (.func 181) [] [.a7 1 [.box 4110 dN 0] 0 0,.a7 1 [.a7 26 [dH o ia bW bG] 0 0] 0 0,.box 4 cJ 0]]),(4110,.box dN [.bool true,.am b3,u 0,u 0,u 0]),(4111,.row b3 (eZ s.aE vs (λ_=>0) (λ_=>0)) 5 249)] (nd s vs))
   λd aO=>∃te gv,d=.bm []/\aO=cV [(4103,.mp bW (br az ai)),(4104,.mp bG (br bj [])),(4,.box cJ [.fn (.func 181) [] [.a7 1 [.box 4110 dN 0] 0 0,.a7 1 [.a7 26 [dH o ia bW bG] 0 0] 0 0,.box 4 cJ 0]]),(4110,.box dN [.bool true,.am te,u 0,u 0,u 0]),(4111,.row te (eZ (ix o ai n path id cv bT s).aE gv (λ_=>0) (λ_=>0)) 5 249)] (nd (ix o ai n path id cv bT s) gv):=by
 intro m
 induction m with
 |zero=>intro n path id cv bT s vs b3 hm _ _;rw[A4]at hm;omega
 |succ m aV =>
 intro n path id cv bT s vs b3 hm k_ G;have cz:=A4 n;obtain⟨_,nb,A1,w2⟩:=k_;refine yf Tryz.func181 Tryz.ntmps181 λW=>?_;refine Y.jK [(0,az n),(1,.N path),(2,.N id),(3,u (cv:Nat)),(4,u (bT:Nat)),(5,.a7 1 [.box 4110 dN 0] 0 0),(6,.a7 1 [.a7 26 [dH o ia bW bG] 0 0] 0 0),(7,.box 4 cJ 0)] (cV [(4103,.mp bW (br az ai)),(4104,.mp bG (br bj [])),(4,.box cJ [.fn (.func 181) [] [.a7 1 [.box 4110 dN 0] 0 0,.a7 1 [.a7 26 [dH o ia bW bG] 0 0] 0 0,.box 4 cJ 0]]),(4110,.box dN [.bool true,.am b3,u 0,u 0,u 0]),(4111,.row b3 (eZ s.aE vs (λ_=>0) (λ_=>0)) 5 249)] (nd s vs)) (fQ.same cX λk o h=>h) ?_;refine go ?_;intro cG
 (conv=>whnf)
 refine dc ?_;refine jb 8 8 12 (az n) ?_;refine go ?_;refine dR (ah.sK aN 4111 rfl rfl rfl rfl) ?_;rw[ib];intro qm
 (conv=>whnf)
 refine go ?_
 refine Y.jK [(1,.N path),(2,.N id),(3,u (cv:Nat)),(4,u (bT:Nat)),(5,.a7 1 [.box 4110 dN 0] 0 0),(6,.a7 1 [.a7 26 [dH o ia bW bG] 0 0] 0 0),(7,.box 4 cJ 0),(8,.a7 12 [az n] 0 0),(13,u (s.aE.length:Nat)),(14,.box 14 qm 0),(31,.bool (decide ((bT:Int)>1)))]
  (cV [(4103,.mp bW (br az ai)),(4104,.mp bG (br bj [])),(4110,.box dN [.bool true,.am b3,u 0,u 0,u 0]),(4111,.row b3 (eZ s.aE vs (λ_=>0) (λ_=>0)) 5 249),(4,.box cJ [.fn (.func 181) [] [.a7 1 [.box 4110 dN 0] 0 0,.a7 1 [.a7 26 [dH o ia bW bG] 0 0] 0 0,.box 4 cJ 0]]),(14,.box qm (az n).cells)] (nd s vs)) (xB [(4103,4103),(4104,4104),(4110,4110),(4111,4111),(4,4),(14,14)] (gE _ _ _)) ?_
 refine PR (α:=Unit) (λ_=>True) [1,2,3,4,5,6,7,8,13,14] [4103,4104,4110,4111,4] (λ_=>[]) (λ_=>[(14,.box qm (az (o6 ai n path bT)).cells)]) (λ_=>nd s vs) ?_ ?_
 ·refine Y.qU rfl (gE _ _ _) λiL=>?_;refine cb (t:=decide ((bT:Int)>1)) ?_ ?_<;>intro hc
  ·refine go ?_;have atm:aT B 24 [.N path,.int .u8 47] (u (y9 path)):=M7 (B:=B) path 47 auD;have xn:=al2 path;have al9:JW path=path.take (if y9 path>0 then y9 path else 0).toNat:=rfl;have y':o6 ai n path bT=gr ai (JW path):=by unfold o6;rw[auO (by have:=avg hc;omega)]
   generalize y9 path=Q at*;generalize JW path=JZ at*;refine' eU [(4103,.mp bW (br az ai)),(4104,.mp bG (br bj [])),(4110,.box dN [.bool true,.am b3,u 0,u 0,u 0]),(4111,.row b3 (eZ s.aE vs (λ_=>0) (λ_=>0)) 5 249),(4,.box cJ [.fn (.func 181) [] [.a7 1 [.box 4110 dN 0] 0 0,.a7 1 [.a7 26 [dH o ia bW bG] 0 0] 0 0,.box 4 cJ 0]]),(14,.box qm (az n).cells)] 0 (λy:Nat=>[_,_,_,_,_,_,_,_,.N JZ,az (gr ai JZ),.any]) (λy=>[(10,14,some (.box qm (az (gr ai JZ)).cells))]) [0,1,3,7,0,0,32,96,240,511,1023] [(10,14)] ?_ ?_
   rotate_left 8
   ·refine dB ?_;refine⟨λy=>.inl ?_,dB ?_⟩
    ·(conv=>whnf)
     refine⟨λ_=>?_,?_⟩
     ·split<;>omega
     (conv=>whnf)
     rw[al9];exact E
    refine bQ (λy=>ah.qp 4103 (em:=9) (eB:=44) (enc:=az) (l:=ai) (k:=JZ) (Q:=AQ) rfl rfl rfl rfl rfl auL (λw C=>Jt w C) (cB y)) ?_;refine Go.bV.ct.vs ?_;exact trivial
   intro _
   (conv=>whnf)
   refine go ?_;rw[y'];exact⟨(),ak,pt [(4103,4103),(4104,4104),(4110,4110),(4111,4111),(4,4),(14,14)] (gE _ _ _)⟩
  refine go ?_;have y':o6 ai n path bT=n:=by unfold o6;rw[auN (by have:=ava hc;omega)]
  rw[y'];exact⟨(),ak,pt [(4103,4103),(4104,4104),(4110,4110),(4111,4111),(4,4),(14,14)] (gE _ _ _)⟩
 intro _ _;refine go ?_;refine Y.qU rfl (gE _ _ _) λiL=>?_;have PB:=lw.mk<|CW (B:=B) o ia n bW bG [0] (s.aE.length:Nat) 2 (by rw[show decide ((0:Int)<=((s.aE.length:Nat):Int))=true from avP auD];rfl)
 have PC:=lw.mk<|CW (B:=B) o ia (o6 ai n path bT) bW bG [1] (cv:Nat) 2 (by rw[show decide ((0:Int)<=((cv:Nat):Int))=true from avP auD];rfl)
 generalize nW:o6 ai n path bT=ab at*
 refine' eU [(4103,.mp bW (br az ai)),(4104,.mp bG (br bj [])),(4110,.box dN [.bool true,.am b3,u 0,u 0,u 0]),(4111,.row b3 (eZ s.aE vs (λ_=>0) (λ_=>0)) 5 249),(4,.box cJ [.fn (.func 181) [] [.a7 1 [.box 4110 dN 0] 0 0,.a7 1 [.a7 26 [dH o ia bW bG] 0 0] 0 0,.box 4 cJ 0]]),(14,.box qm (az ab).cells)] (α:=Nat×Option Addr×Nat×Nat) (0,none,0,0)
  (λy=>[_,_,_,_,_,_,_,_,_,_,_,_,_,_,_,.am (.slice (some ⟨y.1,0,none⟩) 2 2),nI id (cv:Nat) (.slice (some ⟨y.1,0,none⟩) 2 2) 0 0,.T .dZ 5 [nI id (cv:Nat) (.slice (some ⟨y.1,0,none⟩) 2 2) 0 0],.am (.slice y.2.1 y.2.2.1 y.2.2.2),_,_,.any])
  (λy=>[(15,7500,some (.row (.slice (some ⟨y.1,0,none⟩) 2 2) [jA ri ⟨[0],n.n4,o.c6,2,(s.aE.length:Nat),.e4⟩,jA ri ⟨[1],ab.n4,o.c6,2,(cv:Nat),.e4⟩] 12 234)),(18,4111,none),(18,60,some (.row (.slice y.2.1 y.2.2.1 y.2.2.2) (eZ s.aE vs (λ_=>0) (λ_=>0)++[nI id (cv:Nat) (.slice (some ⟨y.1,0,none⟩) 2 2) 0 0]) 5 249)),(21,4110,some (.box dN [.bool true,.am (.slice y.2.1 y.2.2.1 y.2.2.2),u 0,u 0,u 0]))]) [0,0,2,6,14,0,0,0,0,0,896,0,0,0,16256,32640,65504,131040,262142,524287,1048575,2097151] [(15,7500),(18,4111),(18,60),(21,4110)] ?_ ?_
 rotate_left 17
 ·refine dB ?_;refine⟨λy=>.inl ?_,dB ?_⟩
  ·(conv=>whnf)
   refine⟨_,_,λ_=>PB.ck,ja,?_⟩;exact E
  refine⟨λy=>.inl ?_,dB ?_⟩
  ·(conv=>whnf)
   refine⟨_,_,λ_=>PC.ck,ja,?_⟩;exact E
  refine bQ (λy=>ah.MK aN (q:=7500) rfl rfl rfl auG auG rfl (show _/\_/\_ from⟨rfl,by simp[tC,iR,ot,D.cells,D.jk,D.one],λb=>ed (b,y.2)⟩)) ?_;refine bQ (λy=>ah.ph aN 4111 rfl rfl rfl auK rfl rfl rfl auF (by rw[ib];show(_+1)*64<=_;omega) (by rw[ib];show _+1<=_;omega) (λbS ho cap=>ed (y.1,bS,ho,cap))) ?_;refine Go.bV.ct.vs ?_;exact trivial
 rintro⟨sg,bS,ho,cap⟩
 (conv=>whnf)
 obtain⟨fb,iJ⟩:∃fb,mA s id cv ⟨[0],n.n4,o.c6,2,(s.aE.length:Nat),.e4⟩ ⟨[1],ab.n4,o.c6,2,(cv:Nat),.e4⟩=fb:=⟨_,rfl⟩;have al_:ix o ai n path id cv bT s=hV o ai n.F (jV 1 n.F).1 s.aE.length path bT fb:=by rw[al3,nW,iJ]
 rw[al_];have YF:fb.aE=s.aE++[(id,(cv:Int))]:=by rw[<-iJ];rfl
 have kA:fb.aE.length=s.aE.length+1:=by rw[YF];simp
 have al':(fb.ba s.aE.length).length=2:=by rw[<-iJ];simp[mA]
 have yB:=al5 (s:=s) (vs:=vs) (id:=id) (cv:=cv) (a:=⟨[0],n.n4,o.c6,2,(s.aE.length:Nat),.e4⟩) (b:=⟨[1],ab.n4,o.c6,2,(cv:Nat),.e4⟩) (v:=.slice (some ⟨sg,0,none⟩) 2 2);rw[iJ]at yB;have jm:=al4 s.aE vs id cv (.slice (some ⟨sg,0,none⟩) 2 2);rw[<-YF]at jm;obtain⟨l',YG⟩:∃l',(λj=>if j=s.aE.length then Value.slice (some ⟨sg,0,none⟩) 2 2 else vs j)=l':=⟨_,rfl⟩;rw[YG]at yB jm
 refine Y.jK [(1,.N path),(4,u (bT:Nat)),(5,.a7 1 [.box 4110 dN 0] 0 0),(6,.a7 1 [.a7 26 [dH o ia bW bG] 0 0] 0 0),(7,.box 4 cJ 0),(8,.a7 12 [az n] 0 0),(13,u (s.aE.length:Nat))]
  (cV [(4103,.mp bW (br az ai)),(4104,.mp bG (br bj [])),(4110,.box dN [.bool true,.am (.slice bS ho cap),u 0,u 0,u 0]),(4111,.row (.slice bS ho cap) (eZ fb.aE l' (λ_=>0) (λ_=>0)) 5 249),(4,.box cJ [.fn (.func 181) [] [.a7 1 [.box 4110 dN 0] 0 0,.a7 1 [.a7 26 [dH o ia bW bG] 0 0] 0 0,.box 4 cJ 0]])] (nd fb l'))
  (wY [(4103,4103),(4104,4104),(4110,4110),(4111,60),(4,4)] (10000+s.aE.length) 7500 auD (gE _ _ _) yB (gT:=⟨rfl,rfl,rfl,rfl,rfl,rfl,rfl,sS jm,rfl,a_⟩)) ?_
 have Ak:=YE n.F;have iq:=akQ (B:=B) aX 1 n.F auD λk Z=>by have:=PS Z;have:=A4 k;omega
 generalize De:(jV 1 n.F).1=qt at*;generalize Value.slice bS ho cap=nM at*;clear PB PC yB jm YG;refine go ?_;refine bq iq ?_;have ama:(n.F.map enc).length=n.F.length:=auS _
 have amb:∀i (h:i<n.F.length),(n.F.map enc)[(i:Int).toNat]?=some (az n.F[i]):=λi h=>by
  rw[avq,au',auR h];simp[qK]
 generalize n.F.map enc=amc at*
 have amd:∀(i:Nat) (x:auM),qt[i]?=some x->(aQ qt)[(i:Int).toNat]?=some (.N x):=λi x h=>by
  rw[avq];simp[aQ,h]
 have atn:(aQ qt).length=qt.length:=by simp[aQ]
 generalize aQ qt=PT at*;rw[ama]
 refine z_ (λx:Nat×Value×(Nat->Value)=>x.1<=n.F.length) [1,4,5,6,7,13,15,70,71] [4103,4104,4] (λx=>[(72,u x.1)])
  (λx=>[(4110,.box dN [.bool true,.am x.2.1,u 0,u 0,u 0]),(4111,.row x.2.1 (eZ (hV o ai (n.F.take x.1) qt s.aE.length path bT fb).aE x.2.2 (λ_=>0) (λ_=>0)) 5 249)])
  (λx=>nd (hV o ai (n.F.take x.1) qt s.aE.length path bT fb) x.2.2) (λx=>n.F.length-x.1) (0,nM,l') (au7 _) ?_
  (h1:=by rw[aw2,hV];exact xB [(4103,4103),(4104,4104),(4,4),(4110,4110),(4111,4111)] (gE _ _ _))
 rintro⟨i,za,xC⟩ hi;dsimp only at hi⊢;have qO:=Gz o ai (n.F.take i) qt s.aE.length path bT fb auD
 have pi:∀(h:i<n.F.length),hV o ai (n.F.take (i+1)) qt s.aE.length path bT fb=A3 o ai n.F[i] ((qt[i]?).getD []) s.aE.length path bT (hV o ai (n.F.take i) qt s.aE.length path bT fb):=λh=>by
  rw[auU h,YD,au9,axm auD]
 have EJ:kO (n.F.take i)<=kO n.F:=by
  have h:=JX (n.F.take i) (n.F.drop i);rw[awb]at h;omega
 have B4:∀(h:i<n.F.length),kO (n.F.take i)+o7 n.F[i]<=kO n.F:=λh=>by
  have A:=JX (n.F.take (i+1)) (n.F.drop (i+1));rw[awb,auU h,JX]at A;simp only[kO]at A;omega
 generalize kz:hV o ai (n.F.take i) qt s.aE.length path bT fb=gx at*;refine go ?_;refine cb (t:=decide ((i:Int)<(n.F.length:Nat))) ?_ ?_<;>intro hc
 ·have c1:i<n.F.length:=by have:=avg hc;omega
  have j_:n.F[i]∈n.F:=auT c1;have lX:=amb i c1;have ato:=B4 c1;have Df:=pi c1;have JA:=w2 _ j_;have atp:=A4 n.F[i];obtain⟨aU,PU⟩:∃aU,qt[i]?=some aU:=⟨_,auR auD⟩;have atq:aU.length<5000:=A1 aU (au5 PU);have ame:=amd i aU PU;rw[PU]at Df;replace Df:hV o ai (n.F.take (i+1)) qt s.aE.length path bT fb=A3 o ai n.F[i] aU s.aE.length path bT gx:=Df;generalize n.F[i]=k at*;have amf:=Fg (B:=B) 1 k ((bT+1:Nat):Int);refine go ?_;refine bJ (az k) lX ?_;intro O9
  (conv=>whnf)
  refine dc ?_;refine jb 18 18 12 (az k) ?_;refine go ?_;refine bq amf ?_;refine cb (t:=!(kb 1 k ((bT+1:Nat):Int))) ?_ ?_<;>intro bx
  ·have qj:A3 o ai k aU s.aE.length path bT gx=gx:=by unfold A3;rw[auN (by simpa using bx)]
   rw[qj]at Df;refine go ?_
   refine ym (i+1,za,xC) c1 (by
    dsimp only;rw[Df]
    exact xB [(4103,4103),(4104,4104),(4,4),(4110,4110),(4111,4111)] (gE _ _ _))
  refine go ?_;refine PR (α:=Unit) (λ_=>True) [1,4,5,6,7,13,15,17,18,70,71,72] [4103,4104,4,4110,4111] (λ_=>[(19,.N (nc path k.name bT))]) (λ_=>[]) (λ_=>nd gx xC) ?_ ?_
  ·refine cb (t:=decide ((bT:Int)>1)) ?_ ?_<;>intro eb
   ·have PV:nc path k.name bT=path++[47]++k.name:=by unfold nc;rw[auO (by have:=avg eb;omega)]
    refine go ?_;rw[PV];exact⟨(),ak,xB [(4103,4103),(4104,4104),(4,4),(4110,4110),(4111,4111)] (gE _ _ _)⟩
   have PV:nc path k.name bT=k.name:=by unfold nc;rw[auN (by have:=ava eb;omega)]
   refine go ?_;rw[PV];exact⟨(),ak,xB [(4103,4103),(4104,4104),(4,4),(4110,4110),(4111,4111)] (gE _ _ _)⟩
  intro _ _
  have fg:(nc path k.name bT).length<=path.length+k.name.length+1:=by
   unfold nc;split
   ·simp;omega
   omega
  generalize amg:nc path k.name bT=below at*;have amh:=agD (B:=B) aX aU auD;refine go ?_;refine bJ (.N aU) ame ?_;refine bq amh ?_;obtain⟨ip,qj⟩:∃ip,(if k.kind=0 then ix o ai k below (fl aU) s.aE.length (bT+1) gx else gx)=ip:=⟨_,rfl⟩;obtain⟨e0,J0⟩:∃e0:Int,(if k.kind=0 then(gx.aE.length:Int)else -1)=e0:=⟨_,rfl⟩
  refine PR (α:=Value×(Nat->Value)) (λ_=>True) [1,4,5,6,7,13,15,17,18,19,20,70,71,72] [4103,4104,4] (λ_=>[(22,u e0)])
   (λx=>[(4110,.box dN [.bool true,.am x.1,u 0,u 0,u 0]),(4111,.row x.1 (eZ ip.aE x.2 (λ_=>0) (λ_=>0)) 5 249)]) (λx=>nd ip x.2) ?_ ?_
  ·refine cb (t:=k.kind==0) ?_ ?_<;>intro eb
   ·have jN:k.kind=0:=by simpa using eb
    rw[auO jN]at qj J0;refine go ?_;refine dR (ah.sK aN 4111 rfl rfl rfl rfl) ?_;rw[ib];refine .inr (ah.y6 rfl [az k,.N below,.N (fl aU),u (s.aE.length:Nat),u ((bT+1:Nat):Int),.a7 1 [.box 4110 dN 0] 0 0,.a7 1 [.a7 26 [dH o ia bW bG] 0 0] 0 0,.box 4 cJ 0] (qs [(4103,.mp bW (br az ai)),(4104,.mp bG (br bj [])),(4,.box cJ [.fn (.func 181) [] [.a7 1 [.box 4110 dN 0] 0 0,.a7 1 [.a7 26 [dH o ia bW bG] 0 0] 0 0,.box 4 cJ 0]]),(4110,.box dN [.bool true,.am za,u 0,u 0,u 0]),(4111,.row za (eZ gx.aE xC (λ_=>0) (λ_=>0)) 5 249)]) (PQ (gE _ _ _)) (aV k below (fl aU) s.aE.length (bT+1) gx xC za auD JA auD) ?_ ?_)
    ·exact ja
    rintro d aO ⟨te,gv,rfl,rfl⟩;refine⟨_,E,?_⟩;rw[qj]
    (conv=>whnf)
    refine go ?_;exact⟨(te,gv),ak,xB [(4103,4103),(4104,4104),(4,4),(4110,4110),(4111,4111)] (gE _ _ _) (sE:=λq o I ag=>JV I ag)⟩
   have jN:¬k.kind=0:=by simpa using eb
   rw[auN jN]at qj J0;subst qj;refine go ?_;exact⟨(za,xC),ak,xB [(4103,4103),(4104,4104),(4,4),(4110,4110),(4111,4111)] (gE _ _ _)⟩
  rintro⟨zb,sq⟩ _
  have PW:s.aE.length<ip.aE.length:=by
   rw[<-qj];split
   ·have:=(JY o ai k below (fl aU) s.aE.length (bT+1) gx).1;omega
   omega
  have atr:ip.aE.length<=1000000/\(ip.ba s.aE.length).length<=1000000:=by
   have bn:=qO.2.2.2;rw[al',au9]at bn;have PX:i<=n.F.length:=hi;rw[<-qj];split
   ·have ami:=JY o ai k below (fl aU) s.aE.length (bT+1) gx;rw[ami.2.2 s.aE.length auD];omega
   omega
  have YH:hV o ai (n.F.take (i+1)) qt s.aE.length path bT fb=hU ip s.aE.length ⟨fl aU,k.n4,o.c6,if k.kind=0 then 2 else 0,e0,.e4⟩:=by
   rw[Df];unfold A3
   rw[auO (by simpa using bx),amg,<-qj,<-J0];split<;>rfl
  obtain⟨gI,dg⟩:∃gI:Int,(if k.kind=0 then(2:Int)else 0)=gI:=⟨_,rfl⟩;rw[dg]at YH;have PF:=lw.mk<|CW (B:=B) o ia k bW bG (fl aU) e0 gI (by rw[<-dg,<-J0];split<;>simp<;>omega)
  refine Y.B_ (f2:=.row (sq s.aE.length) ((ip.ba s.aE.length).map (jA ri)) 12 234) 7500 (10000+s.aE.length) rfl (gE _ _ _) (PH PW) rfl auG λGt=>?_;refine go ?_
  refine' eU [(7500,.row (sq s.aE.length) ((ip.ba s.aE.length).map (jA ri)) 12 234),(4103,.mp bW (br az ai)),(4104,.mp bG (br bj [])),(4,.box cJ [.fn (.func 181) [] [.a7 1 [.box 4110 dN 0] 0 0,.a7 1 [.a7 26 [dH o ia bW bG] 0 0] 0 0,.box 4 cJ 0]]),(4110,.box dN [.bool true,.am zb,u 0,u 0,u 0]),(4111,.row zb (eZ ip.aE sq (λ_=>0) (λ_=>0)) 5 249)] 0
   (λy=>[_,_,_,_,_,_,_,_,ot (fl aU) k.n4 o.c6 gI e0 .bd,.box 23 y 0,.any]) (λy=>[(9,23,some (.box y [.N [],u 0,u 0,u 0,u 0,u 0,u 0,.N [],u 0,.am .nilFunc,.bd,.bd])),(10,23,some (.box y (ot (fl aU) k.n4 o.c6 gI e0 .bd).cells))]) [0,0,0,0,0,30,0,0,255,0,1023] [(9,23),(10,23)] ?_ ?_
  rotate_left 8
  ·refine dB ?_;refine⟨λy=>.inl ?_,dB ?_⟩
   ·(conv=>whnf)
    refine⟨_,_,λ_=>PF.ck,ja,?_⟩;exact E
   refine bQ (λy=>ah.EM rfl [.a7 26 [dH o ia bW bG] 0 0,ot (fl aU) k.n4 o.c6 gI e0 .bd,az k,.N below] [(4104,4104)] (by exact rV) (Yl o ia k bW bG (fl aU) below k.n4 o.c6 gI e0) rfl (by exact ja) (cB y)) ?_;refine wR ?_;exact trivial
  intro YI
  (conv=>whnf)
  refine go ?_;have lJ:=C_ (vs:=sq) (aY:=λ_=>0) (lM:=λ_=>0) PW
  refine' eU [(7500,.row (sq s.aE.length) ((ip.ba s.aE.length).map (jA ri)) 12 234),(4103,.mp bW (br az ai)),(4104,.mp bG (br bj [])),(4,.box cJ [.fn (.func 181) [] [.a7 1 [.box 4110 dN 0] 0 0,.a7 1 [.a7 26 [dH o ia bW bG] 0 0] 0 0,.box 4 cJ 0]]),(4110,.box dN [.bool true,.am zb,u 0,u 0,u 0]),(4111,.row zb (eZ ip.aE sq (λ_=>0) (λ_=>0)) 5 249),(23,.box YI (ot (fl aU) k.n4 o.c6 gI e0 .bd).cells)] (α:=Option Addr×Nat×Nat) (none,0,0)
   (λy=>[_,_,_,_,_,_,_,_,_,_,_,_,_,_,.T .dZ 12 [ot (fl aU) k.n4 o.c6 gI e0 .bd],.am (.slice y.1 y.2.1 y.2.2),_,_,.any])
   (λy=>[(15,7500,none),(15,139,some (.row (.slice y.1 y.2.1 y.2.2) (((ip.ba s.aE.length).map (jA ri))++[ot (fl aU) k.n4 o.c6 gI e0 .bd]) 12 234)),
    (18,4111,some (.row zb ((eZ ip.aE sq (λ_=>0) (λ_=>0)).set s.aE.length (nI ip.aE[s.aE.length].1 ip.aE[s.aE.length].2 (.slice y.1 y.2.1 y.2.2) 0 0)) 5 249))]) [0,1,3,7,0,0,32,96,224,0,992,2016,4064,0,8192,32736,65535,131071,262143] [(15,7500),(15,139),(18,4111)] ?_ ?_
  rotate_left 16
  ·refine dB ?_;refine bQ (λy=>ah.eG aN 4111 rfl rfl rfl rfl rfl rfl rfl auD (by rw[ib];omega) (cB y)) ?_;refine bQ (λy=>ah.js aN 4111 (i:=s.aE.length) rfl rfl (by rw[ib];omega) rfl rfl rfl auG (cB y)) ?_;refine bQ (λy=>ah.n9 aN 4111 (i:=s.aE.length) (j:=2) rfl rfl rfl lJ (cB y)) ?_;refine bQ (λy=>ah.ph aN 7500 rfl rfl rfl auK rfl rfl rfl auF (by rw[auS];show(_+1)*144<=_;omega) (by rw[auS];show _+1<=_;omega) (λbS ho cap=>ed (bS,ho,cap))) ?_;refine bQ (λy=>ah.eG aN 4111 rfl rfl rfl rfl rfl rfl rfl auD (by rw[ib];omega) (cB y)) ?_;refine bQ (λy=>ah.js aN 4111 (i:=s.aE.length) rfl rfl (by rw[ib];omega) rfl rfl rfl auG (cB y)) ?_;refine bQ (λy=>ah.vj aN 4111 (i:=s.aE.length) (j:=2) rfl rfl rfl rfl lJ auG rfl (cB y)) ?_;exact trivial
  rintro⟨bS,ho,cap⟩
  (conv=>whnf)
  have ku:=al6 (vs:=sq) (v:=.slice bS ho cap) PW;have amj:=al7 (s:=ip) (vs:=sq) (i:=s.aE.length) (x:=⟨fl aU,k.n4,o.c6,gI,e0,.e4⟩) (v:=.slice bS ho cap)
  refine Y.jK [(1,.N path),(4,u (bT:Nat)),(5,.a7 1 [.box 4110 dN 0] 0 0),(6,.a7 1 [.a7 26 [dH o ia bW bG] 0 0] 0 0),(7,.box 4 cJ 0),(13,u (s.aE.length:Nat)),(15,.T .none 1 PT),(70,.T .none 12 amc),(71,u (n.F.length:Nat)),(72,u (i:Nat))]
   (cV [(4103,.mp bW (br az ai)),(4104,.mp bG (br bj [])),(4,.box cJ [.fn (.func 181) [] [.a7 1 [.box 4110 dN 0] 0 0,.a7 1 [.a7 26 [dH o ia bW bG] 0 0] 0 0,.box 4 cJ 0]]),(4110,.box dN [.bool true,.am zb,u 0,u 0,u 0]),(4111,.row zb (eZ (hU ip s.aE.length ⟨fl aU,k.n4,o.c6,gI,e0,.e4⟩).aE (λj=>if j=s.aE.length then .slice bS ho cap else sq j) (λ_=>0) (λ_=>0)) 5 249)] (nd (hU ip s.aE.length ⟨fl aU,k.n4,o.c6,gI,e0,.e4⟩) (λj=>if j=s.aE.length then .slice bS ho cap else sq j)))
   (wY (f2:=.row (.slice bS ho cap) ((ip.ba s.aE.length).map (jA ri)++[jA ri ⟨fl aU,k.n4,o.c6,gI,e0,.e4⟩]) 12 234) [(4103,4103),(4104,4104),(4,4),(4110,4110),(4111,4111)] (10000+s.aE.length) 139 auD (C7 (gE _ _ _) _) amj (gT:=⟨rfl,rfl,rfl,rfl,rfl,rfl,rfl,rfl,rfl,sS ku,ak⟩)) ?_
  rw[<-YH];refine go ?_;exact ym (i+1,zb,λj=>if j=s.aE.length then .slice bS ho cap else sq j) c1 (xB [(4103,4103),(4104,4104),(4,4),(4110,4110),(4111,4111)] (gE _ _ _))
 have cr:i=n.F.length:=by have:=ava hc;omega
 subst cr;rw[au2]at kz;rw[kz];refine Y.exit ?_
 (conv=>whnf)
 exact⟨.bm [],ak,za,xC,rfl,rfl⟩
def j1(o:fk)(ai:List (auM×U))(n:U):kr:=ix o ai n [] [0] 0 1 ⟨[],λ_=>[]⟩
theorem amk(aX:dk B)(o:fk)(n:U)(bW bG:Nat)(ai:List (auM×U))(k_:y_ n)(cz:o7 n<1000000): c4 B 111 [.a7 26 [dH o n bW bG] 0 0] (aM [(4103,.mp bW (br az ai)),(4104,.mp bG (br bj []))]) λd aO=>∃dW cJ b3 vs,d=.box 4110 dW 0/\aO=cV [(4103,.mp bW (br az ai)),(4104,.mp bG (br bj [])),(4,.box cJ [.fn (.func 181) [] [.a7 1 [.box 4110 dW 0] 0 0,.a7 1 [.a7 26 [dH o n bW bG] 0 0] 0 0,.box 4 cJ 0]]),(4110,.box dW [.bool true,.am b3,u 0,u 0,u 0]),(4111,.row b3 (eZ (j1 o ai n).aE vs (λ_=>0) (λ_=>0)) 5 249)] (nd (j1 o ai n) vs):=by refine yf Tryz.func111 Tryz.ntmps111 λW=>?_;refine go ?_;intro dI;(conv=>whnf);refine dc ?_;refine jb 1 1 1 (.a7 26 [dH o n bW bG] 0 0) ?_;refine go ?_;intro dW;(conv=>whnf);refine dc ?_;intro el;(conv=>whnf);refine dc ?_;refine Y.jo 6 (dA:=[.bool true,.am (.slice none 0 0),u 0,u 0,u 0]) rfl ⟨E,ap.rO,E,E,E,ak⟩ ?_;refine Y.jo 3 (dA:=[.box 4110 dW 0]) rfl ⟨ap.box,ak⟩ ?_;refine Y.qF 4111 5 249 ?_;refine jb 3 3 1 (.box 4110 dW 0) ?_;refine Y.fc [(1,.a7 1 [.a7 26 [dH o n bW bG] 0 0] 0 0),(3,.a7 1 [.box 4110 dW 0] 0 0)] [(4103,.mp bW (br az ai)),(4104,.mp bG (br bj [])),(4110,.box dW [.bool true,.am (.slice none 0 0),u 0,u 0,u 0]),(4111,.row (.slice none 0 0) [] 5 249)] [(4103,4103),(4104,4104),(4110,6),(4111,4111)] ⟨cX,rfl,cX⟩ ?_;refine go ?_;intro cJ;(conv=>whnf);refine go ?_;refine Y.x2 aN 5 mixed auH ?_;(conv=>whnf);refine go ?_;have aml:=al8 (B:=B) aX o n bW bG dW cJ ai (o7 n) n [] [0] 0 1 ⟨[],λ_=>[]⟩ (λ_=>.nilFunc) (.slice none 0 0) (auW _) k_ (by have:=A4 n;simp;omega);refine .inr (ah.y6 rfl [az n,.N [],.N [0],u ((0:Nat):Int),u ((1:Nat):Int),.a7 1 [.box 4110 dW 0] 0 0,.a7 1 [.a7 26 [dH o n bW bG] 0 0] 0 0,.box 4 cJ 0] (qs [(4103,.mp bW (br az ai)),(4104,.mp bG (br bj [])),(4,.box cJ [.fn (.func 181) [] [.a7 1 [.box 4110 dW 0] 0 0,.a7 1 [.a7 26 [dH o n bW bG] 0 0] 0 0,.box 4 cJ 0]]),(4110,.box dW [.bool true,.am (.slice none 0 0),u 0,u 0,u 0]),(4111,.row (.slice none 0 0) [] 5 249)]) (PQ (gE _ _ _) (λk o Z h=>by unfold iT at h;rw[auN auF]at h;cases h)) aml ?_ ?_);exact ja;rintro d aO ⟨te,gv,rfl,rfl⟩;refine⟨_,E,?_⟩;(conv=>whnf);refine Y.jK [(3,.a7 1 [.box 4110 dW 0] 0 0)] (cV [(4103,.mp bW (br az ai)),(4104,.mp bG (br bj [])),(4,.box cJ [.fn (.func 181) [] [.a7 1 [.box 4110 dW 0] 0 0,.a7 1 [.a7 26 [dH o n bW bG] 0 0] 0 0,.box 4 cJ 0]]),(4110,.box dW [.bool true,.am te,u 0,u 0,u 0]),(4111,.row te (eZ (j1 o ai n).aE gv (λ_=>0) (λ_=>0)) 5 249)] (nd (j1 o ai n) gv)) (xB [(4103,4103),(4104,4104),(4,4),(4110,4110),(4111,4111)] (gE _ _ _) (sE:=λq o I ag=>JV I ag)) ?_;refine go ?_;exact⟨.box 4110 dW 0,E,dW,cJ,te,gv,rfl,rfl⟩
variable{c:Code}{ao:Value}{xs:List D}{k e:Nat}
theorem amm{W:b5 Tryz.prog B al}(s i j:Nat){x:D}(J:xs[i]?=some x)(ad:j<k)(au:x.cells[j]?=some (.am ao))(h:ao.oneCell'=true->Y W c z K)(hs:z.H s=some (.row v xs k e):=by exact rfl):Y W c z K :=
 ⟨λa w C M=>by
  have hi:=fu J;obtain⟨b,cap,vs,_,_,_,Z,_,_,_,af⟩:=ks.pos (M.heap.cl s _ hs) hi;obtain⟨afS,_,h1,A⟩:=af (i*k+j) (.am ao) (by rw[wD Z J ad];exact au);rw[h1.gh]at A
  exact(h A).run a w C M⟩
def mB(aE:List (auM×Int))(aY:Nat->Int):List f4:=aE.mapIdx λj d=>⟨d.1,aY j,d.2+1⟩
theorem Dg{aY:Nat->Int}:(mB aE aY).length=aE.length:=by simp[mB]
theorem amn{aY:Nat->Int}(h:i<aE.length):(mB aE aY).take (i+1)=(mB aE aY).take i++[⟨aE[i].1,aY i,aE[i].2+1⟩]:=by rw[auU (by rw[Dg];exact h)];simp[mB]
theorem amo(aE:List (auM×Int))(vs:Nat->Value)(aY lM:Nat->Int)(wide:Bool)(b3:Value)(bP iN CX:Int)(dN:Nat)(V:List f4)(fK:List Int)(yg:Int)(ar:aE.length<=1000000)(aw:∀d∈aE,0<=d.2/\d.2<=1000000000)(PY:aT B 239 [.T .none 3 (ec (mB aE aY)),.bool wide] (.bm [.T .none 3 (ec V),.T .none 1 (bo fK),u yg])): c4 B 170 [.box 4110 dN 0] (aM [(4110,.box dN [.bool wide,.am b3,u bP,u iN,u CX]),(4111,.row b3 (eZ aE vs aY lM) 5 249)]) λd aO=>d=.T .none 3 (ec V)/\aO=aM [(4110,.box dN [.bool wide,.am b3,u bP,u iN,u CX]),(4111,.row b3 (eZ aE vs aY lM) 5 249)]:=by refine kv Tryz.func170 Tryz.ntmps170 λW=>?_;refine go ?_;refine dR (ah.sK aN 4111 rfl rfl rfl rfl) ?_;rw[ib];refine Y.own 3 1000 3 320 rfl (λw0=>?_);refine hf (λx:Nat×Value=>x.1<=aE.length) [0,12,13] [4110,4111] (λx=>[(3,.T (.own 1000 x.2) 3 (ec ((mB aE aY).take x.1))),(14,u x.1)]) (λx=>[(1000,.own x.2 (ec ((mB aE aY).take x.1)).length 3 320)]) (λx=>aE.length-x.1) (0,w0) (au7 _) [(4110,4110),(4111,4111),(1000,1000)] ?_;rintro⟨i,w⟩ hi;dsimp only at hi⊢;refine go ?_;refine cb (t:=decide ((i:Int)<(aE.length:Nat))) ?_ ?_<;>intro hc;(have c1:i<aE.length:=by simpa using hc);have lJ:=C_ (vs:=vs) (aY:=aY) (lM:=lM) c1;have c2:=amn (aY:=aY) c1;have PZ:=aw _ (auT c1);generalize aE[i]=d at*;refine amm 4111 i 2 lJ (show 2<5 by decide) rfl λAT=>?_;refine go ?_;refine dR (ah.eG aN 4111 rfl rfl rfl rfl rfl rfl rfl auD (by rw[ib];omega)) ?_;refine dR (ah.n9 aN 4111 (i:=i) (j:=0) rfl rfl rfl lJ) ?_;intro cF;(conv=>whnf);refine dc ?_;rw[show[D.N d.1,u d.2,.am (vs i),u (aY i),u (lM i)].all D.one=true by simp only[axk,List.all_nil,D.one,AT,Bool.and_self]];(conv=>whnf);refine dc ?_;refine jb 5 5 5 (nI d.1 d.2 (vs i) (aY i) (lM i)) ?_ (en:=by show[D.N d.1,u d.2,.am (vs i),u (aY i),u (lM i)].all D.one=true;simp only[axk,List.all_nil,D.one,AT,Bool.and_self]);refine go ?_;refine MN (by show(_+1)*32<=_;simp only[ec,auS,au9,Dg];omega) (by show _+1<=_;simp only[ec,auS,au9,Dg];omega) λgO=>?_;(have qb:ec ((mB aE aY).take i)++[.agg [.N d.1,u (aY i),u (d.2+1)]]=ec ((mB aE aY).take (i+1)):=by rw[c2];simp[ec,kK]);exact fs (i+1,gO) [(4110,4110),(4111,4111),(1000,28)] c1 (A:=⟨⟨E,E,E,ap.i' qb,E,ak⟩,rfl,rfl,rfl,rfl,rfl,rfl,jq (by rw[<-qb];simp),ak⟩);(have qb:i=aE.length:=by simp at hc;omega);subst qb;rw[show(mB aE aY).take aE.length=mB aE aY by rw[<-Dg (aE:=aE) (aY:=aY),au2]];refine Y.exit ?_;(conv=>whnf);refine go ?_;refine bq PY ?_;exact⟨.T .none 3 (ec V),E,rfl,a_⟩
section
variable{bU:Type}
theorem J1(L:List bU)(i j:Nat):(mr L i j).Perm L:=by unfold mr;split;rename_i x y J hy;obtain⟨hi,rfl⟩:=avk.1 J;obtain⟨ad,rfl⟩:=avk.1 hy;exact List.set_set_perm hi ad;exact E
theorem J2(L:List bU)(a b:Nat):∀n,(k5 L a b n).Perm L
 |0=>.refl _
 |n+1=>(J1 _ _ _).trans (J2 L a b n)
theorem P0(m:Nat)(L:List bU)(i j:Nat):(lC m L i j).Perm L:=by
 rw[lC];split
 ·exact J2 ..
 split
 ·exact(P0 m _ _ _).trans (J2 ..)
 split
 ·exact(P0 m _ _ _).trans (J2 ..)
 exact E
termination_by i+j
variable(bF:bU->bU->Int)
theorem YJ(a:Nat):∀(j:Nat) (L:List bU),(qV bF a j L).Perm L
 |0,_=>.refl _
 |j+1,L=>by rw[qV];split;exact(YJ a j _).trans (J1 ..);exact E
theorem P1(a:Nat)(L:List bU):∀n,(oM bF a L n).Perm L
 |0=>.refl _
 |n+1=>(YJ bF a _ _).trans (P1 a L n)
theorem YK(L:List bU)(a:Nat):∀n,(oa L a n).Perm L
 |0=>.refl _
 |n+1=>(J1 _ _ _).trans (YK L a n)
theorem YL(L:List bU)(m:Nat):∀n,(ob L m n).Perm L
 |0=>.refl _
 |n+1=>(J1 _ _ _).trans (YL L m n)
theorem J3:∀(f:Nat) (L:List bU) (a m b:Nat),(l6 bF f L a m b).Perm L
 |0,_,_,_,_=>.refl _
 |f+1,L,a,m,b=>by rw[l6];split;exact YK ..;split;exact YL ..;simp only;(have h1:(if hg bF L a m b<m/\hg bF L a m b<(a+b)/2 then lC m L (m-hg bF L a m b) ((a+b)/2-hg bF L a m b)else L).Perm L:=by split;exact P0 ..;exact E);generalize(if hg bF L a m b<m/\hg bF L a m b<(a+b)/2 then lC m L (m-hg bF L a m b) ((a+b)/2-hg bF L a m b)else L)=qc at*;(have A:(if a<hg bF L a m b/\hg bF L a m b<(a+b)/2 then l6 bF f qc a (hg bF L a m b) ((a+b)/2)else qc).Perm L:=by split;exact(J3 f _ _ _ _).trans h1;exact h1);split;exact(J3 f _ _ _ _).trans A;exact A
theorem YM(n a:Nat)(L:List bU):(oc bF n a L).Perm L:=by
 rw[oc];split
 ·exact(YM n _ _).trans (P1 ..)
 exact P1 ..
termination_by n-a
theorem YN(n aP a:Nat)(L:List bU):(pu bF n aP a L).Perm L:=by
 rw[pu];split
 ·exact(YN n aP _ _).trans (J3 ..)
 split
 ·exact J3 ..
 exact E
termination_by n-a
theorem YO(n aP:Nat)(L:List bU):(qd bF n aP L).Perm L:=by
 rw[qd];split
 ·exact(YO n _ _).trans (YN ..)
 exact E
termination_by n-aP
theorem P2(L:List bU):(fR bF L).Perm L:=(YO bF _ _ _).trans (YM bF _ _ _)
end
theorem amp(e:f4):aT B 283 [kK e] (.bool (bif bif bif e.id !=[]then decide ((e.id.length:Int)<=255)else false then e.id !=[0]else false then e.id !=[1]else false)):=by refine fn Tryz.func283 Tryz.ntmps283 λW=>?_;refine go ?_;intro dI;(conv=>whnf);refine dc ?_;refine jb 1 1 3 (kK e) ?_;refine go ?_;exact E
theorem YP(aX:dk B)(l:List f4)(wide:Bool)(i j:Nat)(hi:i<l.length)(ad:j<l.length)(aj:∀x∈l,x.id.length<100000000/\(wide=false->iu x.id)):aT B 284 [u i,u j,.a7 1 [.T .none 3 (ec l)] 0 0,.a7 1 [.bool wide] 0 0] (u (xo l[i].id l[j].id wide)):=by have PG:=XF (B:=B) aX l[i].id l[j].id wide (aj _ (auT hi)).1 (aj _ (auT ad)).1 (λh=>⟨(aj _ (auT hi)).2 h,(aj _ (auT ad)).2 h⟩);(have amq:(ec l)[i]?=some (kK l[i]):=by simp[ec,hi]);(have amr:(ec l)[j]?=some (kK l[j]):=by simp[ec,ad]);refine fn Tryz.func284 Tryz.ntmps284 λW=>?_;refine go ?_;refine yh ?_;refine And.intro (λ_=>by simp only[ec,auS];omega) ?_;(conv=>whnf);refine dc ?_;refine bJ (kK l[i]) amq ?_;refine And.intro (λ_=>by simp only[ec,auS];omega) ?_;(conv=>whnf);refine dc ?_;refine bJ (kK l[j]) amr ?_;refine bq PG ?_;exact E
section
variable(L:List f4)(wide:Bool)
def jC(p:Int):Nat->List (Fin L.length)
 |0=>[]
 |m+1=>jC p m++if h:m+1<L.length then(if L[m+1].dp=p then[⟨m+1,h⟩]else[])else[]
theorem YQ{p:Int}{m:Nat}{x:Fin L.length}(h:x∈jC L p m):1<=x.1/\x.1<=m/\L[x].dp=p:=by induction m with|zero=>cases h|succ m aV =>rw[jC]at h;rcases avf.1 h with h|h;obtain⟨a,b,c⟩:=aV h;exact⟨a,by omega,c⟩;split at h;split at h;rw[avs]at h;subst h;exact⟨by simp,auW _,by assumption⟩;cases h;cases h
theorem P3{p:Int}{m:Nat}:(jC L p m).Nodup:=by induction m with|zero=>exact List.nodup_nil|succ m aV =>rw[jC];refine List.nodup_append.2 ⟨aV,?_,λx J y hy e=>?_⟩;split;split;simp;exact List.nodup_nil;exact List.nodup_nil;subst e;have:=(YQ L J).2.1;split at hy;split at hy;rw[avs]at hy;subst hy;simp at this;omega;cases hy;cases hy
def J4(x y:Fin L.length):Int:=xo L[x].id L[y].id wide
def A5(p:Int):List (Fin L.length):=fR (J4 L wide) (jC L p (L.length-1))
theorem YR{p:Int}{x:Fin L.length}(h:x∈A5 L wide p):1<=x.1/\L[x].dp=p:=by have:=YQ L ((P2 _ _).mem_iff.1 h);exact⟨this.1,this.2.2⟩
theorem YS{p:Int}:(A5 L wide p).Nodup:=(P2 _ _).nodup_iff.2 (P3 L)
def sr(l:List (Fin L.length)):Nat->Bool
 |0=>false
 |1=>false
 |k+2=>sr l (k+1)||(match l[k]?,l[k+1]? with|some x,some y=>J4 L wide x y==0|_,_=>false)
def eM(h0:0<L.length):Nat->List (Fin L.length)×Bool
 |0=>([⟨0,h0⟩],false)
 |a+1=>match(eM h0 a).1[a]? with
  |some x=>((eM h0 a).1++A5 L wide (x.1+1:Nat),(eM h0 a).2||sr L wide (A5 L wide (x.1+1:Nat)) (A5 L wide (x.1+1:Nat)).length)
  |none=>eM h0 a
theorem P4(h0:0<L.length):∀a,(eM L wide h0 a).1.Nodup/\(∀y∈(eM L wide h0 a).1,y.1=0\/(1<=y.1/\∃j,j<a/\∃x,(eM L wide h0 a).1[j]?=some x/\L[y].dp=((x.1+1:Nat):Int)))
 |0=>⟨by simp[eM],λy hy=>by rw[eM,avs]at hy;subst hy;exact .inl rfl⟩
 |a+1=>by obtain⟨h1,A⟩:=P4 h0 a;rw[eM];split;rename_i x J;have pv:=(avk.1 J).1;refine⟨List.nodup_append.2 ⟨h1,YS L wide,λy hy Q bn e=>?_⟩,λy hy=>?_⟩;subst e;obtain⟨cP,d0⟩:=YR L wide bn;rcases A y hy with aa|⟨_,j,ad,bw,Bp,aw⟩;omega;rw[d0]at aw;have:x=bw:=Fin.ext auD;subst this;obtain⟨vT,vU⟩:=avk.1 J;obtain⟨yO,YT⟩:=avk.1 Bp;have:=(List.getElem_inj h1).1 (vU.trans YT.symm);omega;rcases avf.1 hy with hy|hy;rcases A y hy with aa|⟨cP,j,ad,bw,Bp,aw⟩;exact .inl aa;exact .inr ⟨cP,j,by omega,bw,by rw[au3 auD];exact Bp,aw⟩;obtain⟨cP,d0⟩:=YR L wide hy;exact .inr ⟨cP,a,by omega,x,by rw[au3 pv];exact J,d0⟩;refine⟨h1,λy hy=>?_⟩;rcases A y hy with aa|⟨cP,j,ad,r⟩;exact .inl aa;exact .inr ⟨cP,j,by omega,r⟩
theorem YU{α:Type}[DecidableEq α]:∀(l m:List α),l.Nodup->(∀x∈l,x∈m)->l.length<=m.length
 |[],_,_,_=>au7 _
 |x::l,m,h,hs=>by obtain⟨h1,A⟩:=awO.1 h;have aa:=YU l (m.erase x) A λy hy=>(List.mem_erase_of_ne (λe:y=x=>h1 (e ▸ hy))).2 (hs y (auZ _ hy));have aF:=List.length_erase_of_mem (hs x auY);have a8:0<m.length:=axq (hs x auY);rw[auX];omega
theorem J5{n:Nat}{l:List (Fin n)}(h:l.Nodup):l.length<=n:=by have:=YU l (List.finRange n) h λx _=>List.mem_finRange x;rwa [List.length_finRange]at this
theorem YV(h0:0<L.length)(a:Nat):(eM L wide h0 a).1.length<=L.length:=J5 (P4 L wide h0 a).1
theorem YW(h0:0<L.length){a:Nat}(h:(eM L wide h0 a).1.length<=a):∀k,eM L wide h0 (a+k)=eM L wide h0 a
 |0=>rfl
 |k+1=>by have:=YW h0 h k;rw[<-awy,eM,this,au0 auD]
def J6(e:f4):Bool:=bif bif bif e.id !=[]then decide ((e.id.length:Int)<=255)else false then e.id !=[0]else false then e.id !=[1]else false
def xD(n:Nat)(e:f4):Bool:=bif bif !J6 e then true else decide (e.dp<1)then true else decide (e.dp>(n:Int))
def gF(l:List (Fin L.length)):Nat->List Int×List f4
 |0=>(List.replicate L.length 0,[])
 |k+1=>match l[k]? with
  |some x=>((gF l k).1.set x.1 (k+1:Nat),(gF l k).2++[⟨L[x].id,L[x].rb,(((gF l k).1.set x.1 (k+1:Nat))[(L[x].dp-1).toNat]?).getD 0⟩])
  |none=>gF l k
def nN:List f4×List Int×Int :=
 if 1024<L.length then([],[],7)
 else if h0:0<L.length then
  if(bif L[0].id==[0]then L[0].dp==1 else false)=false then([],[],1)
  else if(L.drop 1).any (xD L.length)=true then([],[],1)
  else if(eM L wide h0 L.length).1.length<L.length then([],[],13)
  else if 0<=fh (λx=>!C3 x.rb) L then([],[],2)
  else if(eM L wide h0 L.length).2=true then([],[],5)
  else((gF L (eM L wide h0 L.length).1 L.length).2,(gF L (eM L wide h0 L.length).1 L.length).1,0)
 else([],[],1)
end
variable{b:Nat}
theorem P5(h:(aJ.row (.slice none 0 0) [] k e).es b):False:=by obtain⟨n,cap,h,A⟩:=h;exact azc
theorem ams{W:b5 Tryz.prog B al}(n k e:Nat)(h:Y W c {t:=z.t,H:=λj=>if 10000<=j/\j<10000+n then some (.row (.slice none 0 0) [] k e)else z.H j} K):Y W c z K :=
 ⟨λa w C M=>h.run a w C ⟨M.tmps,⟨λs o ag=>by
   dsimp only at ag;split at ag
   ·cases ag;exact⟨none,0,rfl,auW _,au7 _,λx J=>(by cases J),λdT gR=>(by cases gR),λh=>absurd h auF⟩
   ·exact M.heap.cl s o ag,λs bp o bN b aZ h1 A au c0=>by
   dsimp only at h1 A;split at h1
   ·cases h1;exact P5 au
   ·split at A
    ·cases A;exact P5 c0
    exact M.heap.inj s bp o bN b aZ h1 A au c0,λs o b h1 au=>by
   dsimp only at h1;split at h1
   ·cases h1;exact(P5 au).elim
   exact M.heap.cQ s o b h1 au⟩,M.size,M.defers,M.step⟩⟩
variable{dst:Option Tmp}{em eB:TypeId}{x:Operand}{c9:TypeDesc}{cE:List (D×D)}
theorem YX{K:av->Prop}{t:TypeId}{m:Operand}(s:Nat){k:D}(hm:Tryz.prog.underlying t=some (.map em eB))(O:Tryz.prog.underlying em=some c9)(J:z.bb m=.am (.map (some b)))(hs:z.H s=some (.mp b cE))(I:z.bb x=k)(Z:mY c9 k=true)(b2:∀x∈cE,mY c9 x.1=true)(aS:j9 cE k=some (.am v)\/(j9 cE k=none/\v=.slice none 0 0))(bn:∀w,(zeroValue eB).run Tryz.prog w=.ok (.slice none 0 0) w)(hK:K (z.put dst (.am v))):ah Tryz.prog B al z dst (.lookup t m x false) K:=by rcases aS with aS|⟨aS,rfl⟩;exact ah.Id s hm O J hs I Z b2 aS hK;exact ah.MS s hm O J hs I Z b2 aS bn (λw C=>.am _) hK
def hG{n:Nat}(l:List (Fin n)):List D:=l.map λi=>u (i.1:Nat)
def o8(L:List f4)(vs:Nat->Value)(f:Nat->List (Fin L.length)):bH:=λk=>if 10000<=k/\k<10000+(L.length+1)then some (.row (vs (k-10000)) (hG (f (k-10000))) 1 3)else none
theorem A6(L:List f4)(vs:Nat->Value)(f:Nat->List (Fin L.length)):qa (o8 L vs f):=λk o h=>by
 unfold o8 at h;split at h
 ·omega
 cases h
theorem YY{L:List f4}{vs:Nat->Value}{f:Nat->List (Fin L.length)}(h:i<=L.length):o8 L vs f (10000+i)=some (.row (vs i) (hG (f i)) 1 3):=by unfold o8;rw[auO auD,av0]
variable{gv:Nat->Value}{row:List D}
theorem amt{L:List f4}{vs:Nat->Value}{f w1:Nat->List (Fin L.length)}(X:gv i=v)(gc:∀j,j≠i->gv j=vs j)(af:hG (w1 i)=row)(xn:∀j,j≠i->w1 j=f j):
  ∀k o,o8 L gv w1 k=some o->10000<=k/\((k=10000+i/\o=.row v row 1 3)\/(k≠10000+i/\l4 (o8 L vs f) (10000+i) k=some o)):=λk o h=>by
 unfold o8 at h;split at h
 ·rename_i Z;refine⟨Z.1,?_⟩;by_cases gd:k=10000+i
  ·subst gd;rw[av0,X,af]at h;exact .inl ⟨rfl,(avB h).symm⟩
  refine .inr ⟨gd,?_⟩;unfold l4 o8;rw[awv gd,auO Z,<-xn (k-10000) auD,<-gc (k-10000) auD];exact h
 cases h
def pP(l:List (Int×Value)):List (D×D):=l.map λx=>(u x.1,.am x.2)
def rj(l:List (Int×Value))(p:Int):Option Value:=(l.find? λx=>x.1==p).map (·.2)
def A7(l:List (Int×Value))(k:Int)(v:Value):List (Int×Value):=match rj l k with
 |some _=>l.map λx=>if x.1==k then(x.1,v)else x
 |none=>l++[(k,v)]
theorem YZ(l:List (Int×Value))(k:Int):j9 (pP l) (u k)=(rj l k).map D.am:=by unfold j9 rj pP;induction l with|nil=>rfl|cons x r aV =>rw[avc,awA,awA];show(match x.1==k with|true=>_|false=>_:Option (D×D)).map _=_;(cases x.1==k with|true=>rfl|false=>exact aV)
theorem amu(l:List (Int×Value))(k:Int)(v:Value):nu (pP l) (u k) (.am v)=pP (A7 l k v):=by unfold nu A7;rw[YZ];cases h:rj l k with|none=>simp[pP]|some y =>simp only[av5,pP,avR];apply avM;intro x J;show(if(x.1==k)=true then _ else _)=(λx:Int×Value=>(u x.1,D.am x.2)) (if(x.1==k)=true then(x.1,v)else x);split<;>rfl
theorem amv(l:List (Int×Value))(k p:Int)(v:Value):rj (l.map λx=>if x.1==k then(x.1,v)else x) p=if p=k then(rj l k).map (λ_=>v)else rj l p:=by unfold rj;induction l with|nil=>split<;>rfl|cons x r aV =>rw[avc,awA,awA,awA];by_cases J:x.1=k;rw[auO (by simpa using J)];by_cases aw:p=k;subst aw;rw[auO rfl,show(x.1==p)=true by simpa using J];rfl;(have amw:(x.1==p)=false:=by rw[J];simpa using λe:k=p=>aw e.symm);rw[auN aw]at aV⊢;rw[show((x.1,v).1==p)=false from amw];exact aV;rw[auN (by simpa using J)];by_cases aw:p=k;subst aw;rw[auO rfl]at aV⊢;rw[show(x.1==p)=false by simpa using J];exact aV;rw[auN aw]at aV⊢;(cases x.1==p with|true=>rfl|false=>exact aV)
theorem amx(l:List (Int×Value))(k p:Int)(v:Value):rj (A7 l k v) p=if p=k then some v else rj l p:=by unfold A7;cases h:rj l k with|some y=>simp only;rw[amv,h];rfl|none =>simp only;unfold rj at h⊢;rw[List.find?_append];by_cases aw:p=k;subst aw;rw[auO rfl];rw[axP]at h;rw[h];simp;rw[auN aw];(cases M:l.find? (λx=>x.1==p)with|some y=>rfl|none=>simp[show¬k=p from λe=>aw e.symm])
def GA(l:List (Int×Value))(vs:Nat->Value):Prop:=∀p:Nat,rj l p=some (vs p)\/(rj l p=none/\vs p=.slice none 0 0)
theorem amy:GA [] (λ_=>.slice none 0 0):=λp=>.inr ⟨rfl,rfl⟩
theorem amz{l:List (Int×Value)}{vs:Nat->Value}(h:GA l vs)(P:Nat)(v:Value):GA (A7 l P v) (λj=>if j=P then v else vs j):=λp=>by
 rw[amx];by_cases aw:p=P
 ·subst aw;rw[auO rfl];exact .inl (auP some (auO rfl).symm)
 rw[auN auD];dsimp only;rw[auN aw];exact h p
theorem Y0{l:List (Int×Value)}{vs:Nat->Value}(h:GA l vs)(p:Nat):j9 (pP l) (u p)=some (.am (vs p))\/(j9 (pP l) (u p)=none/\vs p=.slice none 0 0):=by rw[YZ];rcases h p with h|⟨h,A⟩;rw[h];exact .inl rfl;rw[h];exact .inr ⟨rfl,A⟩
theorem P6(l:List (Int×Value)):∀x∈pP l,mY (.int .i64) x.1=true:=λx J=>by
 obtain⟨y,_,rfl⟩:=au_.1 J;rfl
theorem amA{L:List f4}{H:bH}(hH:H 34=some (.mp b [])){o:aJ}(h:cV [(34,.mp b [])] (o8 L (λ_=>.slice none 0 0) λp=>jC L p 0) k=some o):(if 10000<=k/\k<10000+(L.length+1)then some (.row (.slice none 0 0) [] 1 3)else H k)=some o:=by unfold cV aM o8 at h;by_cases Z:k=34;subst Z;rw[auN auD,hH];exact h;rw[awv Z]at h;simp only[avZ,aM]at h;split at h;rename_i af;rw[auO af];exact h;cases h
def ss(L:List f4)(vs:Nat->Value)(f:Nat->List (Fin L.length))(tf:Nat->Bool):bH:=λk=>if tf (k-10000)=true then none else o8 L vs f k
theorem Y1(L:List f4)(vs:Nat->Value)(f:Nat->List (Fin L.length))(tf:Nat->Bool):qa (ss L vs f tf):=λk o h=>by
 unfold ss at h;split at h
 ·cases h
 exact A6 _ _ _ k o h
variable{tf:Nat->Bool}
theorem amB{L:List f4}{vs:Nat->Value}{f:Nat->List (Fin L.length)}(h:i<=L.length)(O:tf i=false):ss L vs f tf (10000+i)=some (.row (vs i) (hG (f i)) 1 3):=by unfold ss;rw[av0,auN (by rw[O];decide),YY h]
theorem amC{L:List f4}{vs:Nat->Value}{f:Nat->List (Fin L.length)}{P7:Nat->Bool}{P:Nat}(O:∀p,P7 p=(tf p||p==P)):ss L vs f P7=l4 (ss L vs f tf) (10000+P):=by funext k;unfold l4;cases G:Nat.beq k (10000+P)with|true =>have:=avb G;subst this;unfold ss;rw[av0,O,auO auF];rfl|false =>show ss L vs f P7 k=ss L vs f tf k;unfold ss;rw[O];by_cases Z:10000<=k;rw[show(k-10000==P)=false by(have:k≠10000+P:=λe=>by rw[e,av9]at G;cases G);simp;omega];simp;(have:o8 L vs f k=none:=by unfold o8;rw[auN auD]);rw[this];split<;>split<;>rfl
variable{dj dt:aJ}
theorem amD{L:List f4}{vs:Nat->Value}{f:Nat->List (Fin L.length)}{H:bH}(h1:H 34=some dj)(A:H 1000=some dt)(af:∀k o,10000<=k->o8 L vs f k=some o->H k=some o){o:aJ}(h:cV [(34,dj),(1000,dt)] (ss L vs f tf) k=some o):H k=some o:=by unfold cV aM at h;by_cases Z:k=34;subst Z;rw[h1];exact h;rw[awv Z]at h;simp only[avZ]at h;unfold aM at h;by_cases s8:k=1000;subst s8;rw[A];exact h;rw[awv s8]at h;simp only[avZ,aM]at h;unfold ss at h;split at h;cases h;exact af k o (A6 _ _ _ k o h) h
def Dh(L:List f4)(wide:Bool)(h0:0<L.length)(a:Nat)(p:Nat):Bool:=((eM L wide h0 a).1.take a).any λx=>x.1+1==p
variable{wide:Bool}
theorem amE{L:List f4}{h0:0<L.length}{a:Nat}{x:Fin L.length}(J:(eM L wide h0 a).1[a]?=some x):Dh L wide h0 a (x.1+1)=false:=by
 unfold Dh;rw[List.any_eq_false];intro y hy e;have b0:y.1+1=x.1+1:=by simpa using e
 have amF:y=x:=Fin.ext auD;subst amF;obtain⟨j,ad,Y2⟩:=avm.1 hy;rw[au9]at ad;rw[List.getElem_take]at Y2;obtain⟨ha,P8⟩:=avk.1 J;have:=(List.getElem_inj (P4 L wide h0 a).1).1 (Y2.trans P8.symm);omega
theorem amG{L:List f4}{h0:0<L.length}{a:Nat}{x:Fin L.length}(J:(eM L wide h0 a).1[a]?=some x)(p:Nat):Dh L wide h0 (a+1) p=(Dh L wide h0 a p||p==x.1+1):=by obtain⟨ha,P8⟩:=avk.1 J;unfold Dh;(have h1:(eM L wide h0 (a+1)).1=(eM L wide h0 a).1++A5 L wide (x.1+1:Nat):=by rw[eM,J]);rw[h1,awl auD,auU ha,List.any_append,P8];simp only[axU,List.any_nil,Bool.or_false];(have hc:(x.1+1==p)=(p==x.1+1):=by by_cases h:x.1+1=p;rw[h];rw[show(x.1+1==p)=false from avv.2 h,show(p==x.1+1)=false from avv.2 λe=>h e.symm]);rw[hc]
theorem J7{W:b5 Tryz.prog B al}(s j:Nat)(h:Y W c {t:=λi=>_root_.cond (Nat.beq i j) (.T .none k xs) (z.t i),H:=λi=>_root_.cond (Nat.beq i s) none (z.H i)} K)
  (hs:z.H s=some (.row v xs k e):=by exact rfl) (ad:z.t j=.am v:=by exact rfl):Y W c z K :=
 Y.commit s hs _ (λw C af i ao au=>by
   show bh w C (_root_.cond (Nat.beq i j) _ _) ao
   cases hi:Nat.beq i j with
   |false=>exact au
   |true =>
    have:=avb hi;subst this
    rw[ad]at au
    rw[au.gh];exact af.jk) (λi o ag=>by
   replace ag:_root_.cond (Nat.beq i s) none (z.H i)=some o:=ag
   cases hi:Nat.beq i s with
   |true=>rw[hi]at ag;cases ag
   |false =>
    rw[hi]at ag;refine .inr ⟨λe=>?_,ag⟩
    subst e;rw[av9]at hi;cases hi) h
theorem P9(L:List f4)(l:List (Fin L.length)):∀k,(gF L l k).1.length=L.length
 |0=>by rw[gF];simp
 |k+1=>by rw[gF];split;simp only;rw[awc,P9 L l k];exact P9 L l k
theorem Y3(L:List f4)(l:List (Fin L.length)):∀k,k<=l.length->(gF L l k).2.length=k
 |0,_=>by rw[gF];rfl
 |k+1,h=>by rw[gF,auR auD];simp only;rw[auV,Y3 L l k auD];rfl
theorem amH(aX:dk B)(L:List f4)(wide:Bool)(gb:∀x∈L,x.id.length<100000000/\(wide=false->iu x.id))(P_:∀x∈L,-1000000000<=x.dp/\x.dp<=1000000000)(mO:L.length<1000000): aT B 239 [.T .none 3 (ec L),.bool wide] (.bm [.T .none 3 (ec (nN L wide).1),.T .none 1 (bo (nN L wide).2.1),u (nN L wide).2.2]):=by have dh:(ec L).length=L.length:=auS _;refine fn Tryz.func239 Tryz.ntmps239 λW=>?_;refine go ?_;intro ca;(conv=>whnf);refine dc ?_;intro el;(conv=>whnf);refine dc ?_;refine jb 2 2 1 (.T .none 3 (ec L)) ?_;refine jb 3 3 1 (.bool wide) ?_;refine go ?_;rw[dh];refine cb (t:=decide ((L.length:Int)>1024)) ?_ ?_<;>intro hc;(have uI:nN L wide=([],[],7):=by unfold nN;rw[auO (by have:=avg hc;omega)]);rw[uI];refine go ?_;exact⟨.nil,.nil,E,ak⟩;(have Wz:L.length<=1024:=by have:=ava hc;omega);(obtain⟨eI,Di⟩:∃eI:f4,∀h:0<L.length,eI=L[0]:=by by_cases h:0<L.length;exact⟨L[0],λ_=>rfl⟩;exact⟨⟨[],0,0⟩,λA=>absurd A h⟩);have Y4:=akk (B:=B) eI.id eI.rb eI.dp;(have pF:0<L.length->(ec L)[0]?=some (kK eI):=λh=>by rw[Di h];simp[ec,h]);(have J8:(!(L.length:Int)==0)=true->0<L.length:=λh=>by rcases avA L.length with h0|h0;rw[h0]at h;cases h;exact h0);refine go ?_;rw[dh];refine And.intro (λh=>⟨by decide,by have:=J8 h;omega⟩) ?_;(conv=>whnf);refine dc ?_;refine⟨kK eI,λh=>pF (J8 h),?_⟩;(conv=>whnf);refine dc ?_;refine bq Y4 ?_;refine cb ?_ ?_<;>intro hc;(have uI:nN L wide=([],[],1):=by unfold nN;rw[auN auD];split;rename_i h0;rw[auO];rw[<-Di h0];(cases af:(bif eI.id==[0]then eI.dp==1 else false)with|false=>rfl|true=>rw[af]at hc;simp at hc;first|omega|(rw[hc]at h0;simp at h0));rfl);rw[uI];refine go ?_;exact⟨.nil,.nil,E,ak⟩;(have h0:0<L.length:=by rcases avA L.length with h0|h0;rw[h0]at hc;simp at hc;exact h0);(have uJ:(bif L[0].id==[0]then L[0].dp==1 else false)=true:=by rw[<-Di h0];cases af:(bif eI.id==[0]then eI.dp==1 else false)with|true=>rfl|false=>rw[af]at hc;simp at hc);clear Y4 pF J8 hc Di;refine go ?_;refine .inr (ah.vu λbO=>?_);(conv=>whnf);refine dc ?_;refine go ?_;rw[dh,show List.drop (Int.toNat 1) (List.take ((L.length:Nat):Int).toNat (ec L))=ec (L.drop 1) by rw[avq,<-dh,au2];simp[ec],show(ec (L.drop 1)).length=L.length-1 by simp[ec]];refine ams (L.length+1) 1 3 ?_;refine z_ (λx:Nat×List (Int×Value)×(Nat->Value)=>x.1<=L.length-1/\(∀j (ad:j<L.length),1<=j->j<=x.1->xD L.length L[j]=false)/\GA x.2.1 x.2.2) [2,3,7,36,37] [] (λx=>[(38,u x.1)]) (λx=>[(34,.mp bO (pP x.2.1))]) (λx=>o8 L x.2.2 λp=>jC L p x.1) (λx=>L.length-1-x.1) (0,[],λ_=>.slice none 0 0) ⟨au7 _,λj ad h1 A=>absurd h1 (by dsimp only at A;omega),amy⟩ ?_ (h1:=by exact fQ.same cX λk o h=>by exact amA rfl h);rintro⟨m,cE,vs⟩ ⟨hm,G,P'⟩;(have jG:(ec (L.drop 1)).length=L.length-1:=by simp[ec]);rcases au6 m (L.length-1)with gs|gs;(·(have mt:m+1<L.length:=by omega);(have v':(ec (L.drop 1))[m]?=some (kK L[m+1]):=by simp only[ec,au',awK];rw[axu,auR mt];rfl);have PZ:=P_ _ (auT mt);(have gd:∀p:Nat,jC L (p:Int) (m+1)=jC L p m++if L[m+1].dp=(p:Int)then[⟨m+1,mt⟩]else[]:=λp=>by rw[jC,awu mt]);have Qa:=amp (B:=B) L[m+1];rw[show(bif bif bif L[m+1].id !=[]then decide ((L[m+1].id.length:Int)<=255)else false then L[m+1].id !=[0]else false then L[m+1].id !=[1]else false)=J6 L[m+1]from rfl]at Qa;have oN:=G;cases xE:xD L.length L[m+1]with|true =>(have uI:nN L wide=([],[],1):=by unfold nN;rw[auN auD,awu h0,auN (by rw[uJ];decide),auO];rw[av'];exact⟨L[m+1],by rw[avm];exact⟨m,by simp;omega,by simp[axu]⟩,xE⟩);rw[uI];have A8:=xE;unfold xD at A8;generalize L[m+1]=e at*;rw[<-dh]at A8;refine Y.qU rfl (A6 _ _ _) λiL=>?_;refine go ?_;refine wX (t:=decide ((m:Int)<((L.length-1:Nat):Int))) (by simpa using gs) ?_;refine bJ (kK e) v' ?_;intro jd;(conv=>whnf);refine dc ?_;refine jb 9 9 3 (kK e) ?_;refine go ?_;refine bq Qa ?_;refine wX A8 ?_;exact⟨.nil,.nil,E,ak⟩|false =>have A8:=xE;unfold xD at A8;(obtain⟨P,Y5,xw,hE⟩:∃P:Nat,1<=P/\P<=L.length/\L[m+1].dp=(P:Int):=by unfold xD at xE;cases ar:J6 L[m+1]with|false=>rw[ar]at xE;cases xE|true =>rw[ar]at xE;simp at xE;exact⟨L[m+1].dp.toNat,by omega,by omega,by omega⟩);generalize i1:L[m+1]=e at*;rw[<-dh]at A8;refine Y.B_ (f2:=.row (vs P) (hG (jC L P m)) 1 3) 7500 (10000+P) rfl (A6 _ _ _) (YY xw) rfl auG λGt=>?_;refine go ?_;refine wX (t:=decide ((m:Int)<((L.length-1:Nat):Int))) (by simpa using gs) ?_;refine bJ (kK e) v' ?_;intro jd;(conv=>whnf);refine dc ?_;refine jb 9 9 3 (kK e) ?_;refine go ?_;refine bq Qa ?_;refine H' A8 ?_;have eK:(jC L (P:Int) m).length<=L.length:=J5 (P3 L);refine' eU [(34,.mp bO (pP cE)),(7500,.row (vs P) (hG (jC L P m)) 1 3)] (α:=Option Addr×Nat×Nat) (none,0,0) (λy=>[_,_,_,_,_,_,.am (vs P),_,u ((m:Int)+1),.T .dZ 1 [u ((m:Int)+1)],.am (.slice y.1 y.2.1 y.2.2),.any]) (λy=>[(10,7500,none),(10,68,some (.row (.slice y.1 y.2.1 y.2.2) (hG (jC L P m)++[u ((m:Int)+1)]) 1 3)),(11,34,some (.mp bO (nu (pP cE) (u e.dp) (.am (.slice y.1 y.2.1 y.2.2)))))]) [0,0,2,0,0,16,56,0,128,384,1016,2047] [(10,7500),(10,68),(11,34)] ?_ ?_;rotate_left 7;refine dB ?_;refine bQ (λy=>YX 34 rfl rfl rfl rfl rfl rfl (P6 cE) (by rw[hE];exact Y0 P' P) auL (cB y)) ?_;refine bQ (λy=>ah.ph aN 7500 rfl rfl rfl auK rfl rfl rfl auF (by show(_+1)*8<=_;simp only[hG,auS];omega) (by show _+1<=_;simp only[hG,auS];omega) (λbS ho cap=>ed (bS,ho,cap))) ?_;refine bQ (λy=>ah.z' 34 rfl rfl rfl rfl rfl rfl (P6 cE) (cB y)) ?_;exact trivial;rintro⟨bS,ho,cap⟩;(conv=>whnf);refine go ?_;(have af:hG (jC L (P:Int) (m+1))=hG (jC L P m)++[u ((m:Int)+1)]:=by rw[gd P,auO hE];simp[hG]);(have xn:∀j:Nat,j≠P->jC L (j:Int) (m+1)=jC L j m:=λj ad=>by rw[gd j,auN (by rw[hE];omega),avC]);(have hQ:nu (pP cE) (u e.dp) (.am (.slice bS ho cap))=pP (A7 cE P (.slice bS ho cap)):=by rw[hE];exact amu _ _ _);(have g_:∀j (ad:j<L.length),1<=j->j<=m+1->xD L.length L[j]=false:=λj ad h1 A=>by rcases au6 m j with h|h;(have amI:j=m+1:=by omega);subst amI;rw[i1];exact xE;exact G j ad h1 h);exact ym (m+1,A7 cE P (.slice bS ho cap),λj=>if j=P then .slice bS ho cap else vs j) ⟨gs,g_,amz P' P _⟩ (wY (f2:=.row (.slice bS ho cap) (hG (jC L P m)++[u ((m:Int)+1)]) 1 3) [(34,34)] (10000+P) 68 auD (C7 (A6 _ _ _) _) (amt (auO rfl) (λj ad=>auN ad) af xn) (gT:=⟨rfl,ML hQ,ak⟩)));(have PP:m=L.length-1:=by omega);subst PP;refine Y.qU rfl (A6 _ _ _) λiL=>?_;refine go ?_;refine cb (t:=decide (((L.length-1:Nat):Int)<((L.length-1:Nat):Int))) (λhc=>by simp at hc) (λhc=>?_);refine Y.exit ?_;(conv=>whnf);refine Y.jK [(2,.a7 1 [.T .none 3 (ec L)] 0 0),(3,.a7 1 [.bool wide] 0 0),(7,.am (.map (some bO)))] (cV [(34,.mp bO (pP cE))] (o8 L vs λp=>jC L p (L.length-1))) (pt [(34,34)] (A6 _ _ _)) ?_;refine go ?_;refine Y.own 10 1000 1 3 rfl (λw0=>?_);refine z_ (λx:Nat×Value=>x.1<=(eM L wide h0 x.1).1.length) [2,3,7] [34] (λx=>[(10,.T (.own 1000 x.2) 1 (hG (eM L wide h0 x.1).1)),(11,.bool (eM L wide h0 x.1).2),(12,u x.1)]) (λx=>[(1000,.own x.2 (hG (eM L wide h0 x.1).1).length 1 3)]) (λx=>ss L vs (λp=>jC L p (L.length-1)) (Dh L wide h0 x.1)) (λx=>L.length-x.1) (0,w0) (au7 _) ?_ (h1:=by exact fQ.same cX λk o h=>amD rfl rfl (λk o Z h=>by(have bZ:¬k=1000:=by omega);(have b0:¬k=34:=by omega);show(bif Nat.beq k 1000 then _ else cV [(34,.mp bO (pP cE))] (o8 L vs λp=>jC L p (L.length-1)) k)=_;rw[awv bZ];simp only[avZ,cV,aM,awv b0];exact h) h);rintro⟨q,w⟩ I;dsimp only at I;cases J:(eM L wide h0 q).1[q]? with|none =>(have ats:q=(eM L wide h0 q).1.length:=by have:=List.getElem?_eq_none_iff.1 J;omega);have hlen:=YV L wide h0 q;(have a1:eM L wide h0 L.length=eM L wide h0 q:=by have h1:=YW L wide h0 (a:=q) auD (L.length-q);rwa [show q+(L.length-q)=L.length by omega]at h1);(have we:¬(L.drop 1).any (xD L.length)=true:=λh=>by obtain⟨e,aq,qX⟩:=av'.1 h;obtain⟨j,ad,rfl⟩:=avm.1 aq;rw[List.getElem_drop]at qX;rw[avX]at ad;have:=G (1+j) auD auD auD;rw[this]at qX;cases qX);(have oZ:∀j (ad:j<L.length),1<=L[j].dp/\L[j].dp<=(L.length:Int):=λj ad=>by rcases avA j with h|h;subst h;(cases af:L[0].id==[0]with|false=>rw[af]at uJ;cases uJ|true =>rw[af]at uJ;(have:L[0].dp=1:=by simpa using uJ);omega);have:=G j ad h auD;unfold xD at this;cases ar:J6 L[j]with|false=>rw[ar]at this;cases this|true=>rw[ar]at this;simp at this;omega);(have uI:nN L wide=if(eM L wide h0 q).1.length<L.length then([],[],13)else if 0<=fh (λx=>!C3 x.rb) L then([],[],2)else if(eM L wide h0 q).2=true then([],[],5)else((gF L (eM L wide h0 q).1 L.length).2,(gF L (eM L wide h0 q).1 L.length).1,0):=by unfold nN;rw[auN auD,awu h0,auN (by rw[uJ];decide),auN we,a1]);refine Y.jK [(2,.a7 1 [.T .none 3 (ec L)] 0 0),(10,.T (.own 1000 w) 1 (hG (eM L wide h0 q).1)),(11,.bool (eM L wide h0 q).2),(12,u q)] (aM [(1000,.own w (hG (eM L wide h0 q).1).length 1 3)]) (fQ.same cX λk o h=>?_) ?_;simp only[aM]at h;(cases Z:Nat.beq k 1000 with|false=>rw[Z]at h;cases h|true =>rw[Z]at h;have:=avb Z;subst this;exact h);generalize(eM L wide h0 q).1=cL at*;generalize(eM L wide h0 q).2=eu at*;have eK:(hG cL).length=cL.length:=auS _;rw[uI];refine go ?_;rw[eK];refine H' (t:=decide ((q:Int)<(cL.length:Nat))) auE ?_;rw[eK,dh];refine cb (t:=decide ((cL.length:Int)<(L.length:Nat))) ?_ ?_<;>intro hc;rw[auO (by have:=avg hc;omega)];refine go ?_;exact⟨.nil,.nil,E,ak⟩;(have Jz:cL.length=L.length:=by have:=ava hc;omega);rw[auN auD];have Y6:=akN (B:=B) L auD 287 (λx=>!C3 x.rb) λk _=>akK k;refine go ?_;refine bq Y6 ?_;refine cb (t:=decide (0<=fh (λx=>!C3 x.rb) L)) ?_ ?_<;>intro hc;rw[auO (avg hc)];refine go ?_;exact⟨.nil,.nil,E,ak⟩;rw[auN (ava hc)];refine go ?_;refine cb (t:=eu) ?_ ?_<;>intro hc;rw[auO hc];refine go ?_;exact⟨.nil,.nil,E,ak⟩;rw[auN (by rw[hc];decide)];clear Y6 uI J a1;refine go ?_;rw[dh];refine .inr (ah.x4 aN (n:=L.length) (cP:=.i64) (d0:=.i64) (Q:=u 0) rfl rfl rfl rfl rfl rfl rfl (by show 8*L.length<=_;omega) auD λdD=>?_);(conv=>whnf);refine go ?_;rw[dh];refine .inr (ah.L9 aN (n:=L.length) (cP:=.i64) (d0:=.i64) rfl rfl rfl rfl rfl rfl (by show 32*L.length<=_;omega) auD λamJ=>?_);(conv=>whnf);refine go ?_;rw[show List.replicate L.length (u 0)=bo (gF L cL 0).1 by simp[bo,gF],eK];refine hf (λx:Nat×Value=>x.1<=cL.length) [2,16,129,130] [1000] (λx=>[(17,.T (.own 128 x.2) 3 (ec (gF L cL x.1).2)),(131,u x.1)]) (λx=>[(125,.row dD (bo (gF L cL x.1).1) 1 3),(128,.own x.2 (ec (gF L cL x.1).2).length 3 320)]) (λx=>cL.length-x.1) (0,amJ) (au7 _) [(1000,1000),(125,125),(128,128)] ?_;rintro⟨k,Y7⟩ Z;dsimp only at Z⊢;refine go ?_;refine cb (t:=decide ((k:Int)<(cL.length:Nat))) ?_ ?_<;>intro bx;(have Qb:k<cL.length:=by have:=avg bx;omega);have kA:=P9 L cL k;have nw:=Y3 L cL k auD;(obtain⟨fK,e,ih,Qc,i1,hj,jP,rI⟩:∃(fK:Nat) (e:f4),fK<L.length/\(hG cL)[(k:Int).toNat]?=some (.int .i64 (fK:Nat))/\(ec L)[((fK:Nat):Int).toNat]?=some (kK e)/\1<=e.dp/\e.dp<=(L.length:Nat)/\gF L cL (k+1)=((gF L cL k).1.set fK ((k+1:Nat):Int),(gF L cL k).2++[⟨e.id,e.rb,(((gF L cL k).1.set fK ((k+1:Nat):Int))[(e.dp-1).toNat]?).getD 0⟩]):=by refine⟨cL[k].1,L[cL[k].1],cL[k].2,?_,?_,(oZ cL[k].1 cL[k].2).1,(oZ cL[k].1 cL[k].2).2,?_⟩;rw[avq];simp only[hG,au'];rw[auR Qb];rfl;rw[avq];simp[ec];rw[gF,auR Qb];rfl);obtain⟨GB,Y8⟩:∃GB,((gF L cL k).1.set fK ((k+1:Nat):Int))[(e.dp-1).toNat]?=some GB:=⟨_,auR (by rw[awc,kA];omega)⟩;rw[Y8]at rI;(have p':(bo (gF L cL k).1).length=L.length:=by simp[bo,kA]);(have alP:(ec (gF L cL k).2).length=k:=by simp[ec,nw]);(have x3:(bo (gF L cL k).1).set fK (u ((k:Int)+1))=bo ((gF L cL k).1.set fK ((k+1:Nat):Int)):=by simp[bo,axG]);(have qu:(bo ((gF L cL k).1.set fK ((k+1:Nat):Int)))[(e.dp-1).toNat]?=some (.int .i64 GB):=by simp only[bo,au',Y8];rfl);(have amK:((bo (gF L cL k).1).set fK (.int .i64 ((k:Int)+1)))[(e.dp-1).toNat]?=some (.int .i64 GB):=by rw[x3];exact qu);(have amL:(bo (gF L cL k).1).set fK (u ((k:Int)+1))=bo (gF L cL (k+1)).1:=by rw[x3,rI]);(have Y9:ec (gF L cL k).2++[kK ⟨e.id,e.rb,GB⟩]=ec (gF L cL (k+1)).2:=by rw[rI];simp[ec]);refine go ?_;refine bJ _ Qc ?_;refine .inr (ah.eG aN 125 rfl rfl rfl rfl rfl rfl rfl auD (by rw[p'];omega) ?_);(conv=>whnf);refine dc ?_;refine .inr (ah.nl aN 125 (i:=fK) rfl rfl rfl rfl (by rw[p'];omega) rfl ?_);(conv=>whnf);refine go ?_;refine bJ (kK e) i1 ?_;intro ra;(conv=>whnf);refine go ?_;refine .inr (ah.eG aN 125 rfl rfl rfl rfl rfl rfl rfl auD (by rw[awc,p'];omega) ?_);(conv=>whnf);refine dc ?_;refine .inr (ah.mh aN 125 (i:=(e.dp-1).toNat) rfl rfl rfl amK ?_);(conv=>whnf);refine go ?_;intro Y_;(conv=>whnf);refine go ?_;exact fs (k+1,Y_) [(1000,1000),(125,125),(128,155)] Qb (A:=⟨⟨E,E,E,E,ap.i' Y9,E,ak⟩,rfl,rfl,rfl,rfl,sS amL,rfl,jq (by rw[<-Y9,auV];rfl),ak⟩);(have gd:k=L.length:=by have:=ava bx;omega);subst gd;refine Y.exit ?_;(conv=>whnf);refine J7 125 16 ?_;refine go ?_;exact⟨.jk _,E,E,ak⟩|some x =>have lA:=(avk.1 J).1;have hE:=amB (L:=L) (vs:=vs) (f:=λp=>jC L (p:Nat) (L.length-1)) (i:=x.1+1) auD (amE J);refine Y.B_ (f2:=.row (vs (x.1+1)) (hG (jC L ((x.1+1:Nat):Int) (L.length-1))) 1 3) 7500 (10000+(x.1+1)) rfl (Y1 _ _ _ _) hE rfl auG λGt=>?_;(have Qc:(hG (eM L wide h0 q).1)[q]?=some (.int .i64 (x.1:Nat)):=by simp only[hG,au',J];rfl);have hx:(hG (eM L wide h0 q).1).length=(eM L wide h0 q).1.length:=auS _;have amM:=l7.M1 (B:=B) (bU:=Fin L.length) (λi=>u (i.1:Nat)) (λi=>⟨_,rfl,ak,ak⟩) (J4 L wide) 284 [.a7 1 [.T .none 3 (ec L)] 0 0,.a7 1 [.bool wide] 0 0] (λi j=>YP aX L wide i.1 j.1 i.2 j.2 gb) (vs (x.1+1)) (jC L ((x.1+1:Nat):Int) (L.length-1)) (by have:=J5 (P3 L (p:=((x.1+1:Nat):Int)) (m:=L.length-1));omega);refine go ?_;refine wX (t:=decide ((q:Int)<((hG (eM L wide h0 q).1).length:Nat))) (by rw[hx];simpa using lA) ?_;refine bJ (u (x.1:Nat)) Qc ?_;refine dR (YX 34 rfl rfl rfl rfl rfl rfl (P6 cE) (Y0 P' (x.1+1)) auL) ?_;refine mq [(2000,7500)] amM ?_;refine J7 7500 13 ?_;obtain⟨bY,gi⟩:∃bY,A5 L wide ((x.1+1:Nat):Int)=bY:=⟨_,rfl⟩;rw[show(fR (J4 L wide) (jC L ((x.1+1:Nat):Int) (L.length-1))).map (λi=>u (i.1:Nat))=hG bY from by rw[<-gi];rfl];(have att:(eM L wide h0 q).2=((eM L wide h0 q).2||sr L wide bY 1):=by simp[sr]);have amN:(hG bY).length=bY.length:=auS _;(have atu:bY.length<=L.length:=by rw[<-gi];exact J5 (YS L wide));refine go ?_;refine hf (λk:Nat=>1<=k/\(k=1\/k<=bY.length)) [2,3,7,10,12,13,14] [34,1000] (λk=>[(11,.bool ((eM L wide h0 q).2||sr L wide bY k)),(15,u k)]) (λ_=>[]) (λk=>bY.length+1-k) 1 ⟨auW _,.inl rfl⟩ [(34,34),(1000,1000)] ?_;rintro k ⟨yR,s8⟩;refine go ?_;rw[amN];refine cb (t:=decide ((k:Int)<(bY.length:Nat))) ?_ ?_<;>intro hc;obtain⟨eu,mV⟩:∃eu,((eM L wide h0 q).2||sr L wide bY k)=eu:=⟨_,rfl⟩;(have eK:k<bY.length:=by have:=avg hc;omega);(have CC:(hG bY)[((k:Int)-1).toNat]?=some (.int .i64 (bY[k-1].1:Nat)):=by rw[show((k:Int)-1).toNat=k-1 by omega];simp only[hG,au'];rw[auR auD];rfl);(have FB:(hG bY)[(k:Int).toNat]?=some (.int .i64 (bY[k].1:Nat)):=by rw[avq];simp only[hG,au'];rw[auR auD];rfl);have amO:=YP (B:=B) aX L wide bY[k-1].1 bY[k].1 bY[k-1].2 bY[k].2 gb;(have amP:sr L wide bY (k+1)=(sr L wide bY k||xo L[bY[k-1].1].id L[bY[k].1].id wide==0):=by obtain⟨bE,rfl⟩:∃bE,k=bE+1:=⟨k-1,by omega⟩;rw[sr,auR auD,auR auD];rfl);generalize xo L[bY[k-1].1].id L[bY[k].1].id wide=bF at*;rw[mV];refine go ?_;refine yh ?_;refine bJ _ CC ?_;refine bJ _ FB ?_;refine bq amO ?_;(have dg:(bif eu then true else bF==0)=((eM L wide h0 q).2||sr L wide bY (k+1)):=by rw[amP,<-Bool.or_assoc,mV];cases eu<;>rfl);exact fs (k+1) [(34,34),(1000,1000)] ⟨by omega,.inr auD⟩;(have amQ:sr L wide bY k=sr L wide bY bY.length:=by have lm:=ava hc;rcases s8 with h|h;subst h;(match G:bY.length with|0=>rfl|1=>rfl|n+2=>omega);rw[show k=bY.length by omega]);have atv:=YV L wide h0 q;(have xZ:eM L wide h0 (q+1)=((eM L wide h0 q).1++bY,(eM L wide h0 q).2||sr L wide bY bY.length):=by rw[eM,J];simp only;rw[gi]);have amR:=amC (L:=L) (vs:=vs) (f:=λp=>jC L (p:Nat) (L.length-1)) (amG (L:=L) (wide:=wide) (h0:=h0) J);(have iI:hG (eM L wide h0 q).1++hG bY=hG (eM L wide h0 (q+1)).1:=by rw[xZ];simp[hG]);rw[amQ];refine Y.exit ?_;(conv=>whnf);refine go ?_;intro gO;(conv=>whnf);refine go ?_;refine ym (q+1,gO) (by dsimp only;rw[xZ];simp only[auV];omega) (by dsimp only;rw[amR];exact pt [(34,34),(1000,111)] (C7 (Y1 _ _ _ _) _) (h1:=⟨E,E,E,ap.i' iI,TC (by rw[xZ]),E,ak⟩) (gT:=⟨rfl,rfl,rfl,jq (by rw[<-iI,auV]),ak⟩))
theorem Y'(L:List f4)(l:List (Fin L.length)):∀k,(gF L l k).2.length<=k/\∀x∈(gF L l k).2,∃y∈L,x.id=y.id
 |0=>by rw[gF];exact⟨auW _,λx J=>by cases J⟩
 |k+1=>by have aV:=Y' L l k;rw[gF];split;simp only[auV,auX,avh];refine⟨by omega,λx J=>?_⟩;rcases avf.1 J with h|h;exact aV.2 x h;rw[avs]at h;subst h;exact⟨_,auT _,rfl⟩;exact⟨by omega,aV.2⟩
theorem Za(L:List f4)(wide:Bool):(nN L wide).1.length<=L.length/\∀x∈(nN L wide).1,∃y∈L,x.id=y.id:=by unfold nN;repeat (first|(exact⟨au7 _,λx J=>by cases J⟩)|(exact Y' L _ _)|split)
noncomputable def pQ(aC:bz->List c7)(wide:Bool)(aE:List (auM×Int))(ba:Nat->List bz)(a:Int):Int×Int :=
 if sn aC ba aE.length=0 then(xz aC wide ba aE.length (a+2*kc (kL (nN (mB aE λ_=>0) wide).1)),0)else(0,sn aC ba aE.length)
theorem Zb(aX:dk B)(bR:bz->D)(hs:∀x,(bR x).one=true)(aC:bz->List c7)(wide:Bool)(j0:aJ)(aE:List (auM×Int))(ba:Nat->List bz)(vs:Nat->Value)(b3:Value)(dN:Nat)(a:Int)(ha:0<=a/\a<=1000000000000000)(ar:aE.length<=100000)(M:∀p∈aE,p.1.length<=10000/\(wide=false->iu p.1)/\0<=p.2/\p.2<=1000000)(aj:∀i,i<aE.length->(ba i).length<400000)(PJ:fP (λi=>((ba i).length:Nat)) 0 aE.length<=10000000)(gb:∀i,i<aE.length->∀x∈ba i,x.id.length<1000000/\(wide=false->iu x.id)/\(aC x).length<1000000/\∀y∈aC x,y.ql.length<1000000/\y.data.length<1000000)(nL:∀i,i<aE.length->∀x∈ba i,A0 B j0 (bR x) (aC x)): c4 B 110 [.box 4110 dN 0,u a] (cV [(4110,.box dN [.bool wide,.am b3,u 0,u 0,u 0]),(4111,.row b3 (eZ aE vs (λ_=>0) (λ_=>0)) 5 249),(7100,j0)] (iT vs (λi=>(ba i).map (jA bR)) aE.length)) λd _=>d=.bm [u (pQ aC wide aE ba a).1,u (pQ aC wide aE ba a).2]:=by(have J9:∀x∈mB aE (λ_=>0),x.id.length<=10000/\(wide=false->iu x.id)/\1<=x.dp/\x.dp<=1000001:=λx J=>by obtain⟨j,ad,rfl⟩:=ax8.1 J;have:=M aE[j] (auT _);exact⟨this.1,this.2.1,by dsimp only;omega,by dsimp only;omega⟩);have dh:=Dg (aE:=aE) (aY:=λ_=>0);have ag:=Za (mB aE λ_=>0) wide;have PY:=amH (B:=B) aX (mB aE λ_=>0) wide (λx J=>⟨by have:=(J9 x J).1;omega,(J9 x J).2.1⟩) (λx J=>by have:=(J9 x J).2.2;omega) auD;have amS:=amo (B:=B) aE vs (λ_=>0) (λ_=>0) wide b3 0 0 0 dN _ _ _ auD (λd O=>by have:=(M d O).2.2;omega) PY;have GC:=alJ aX bR hs aC wide j0 aE ba vs b3 dN a (nN (mB aE λ_=>0) wide).1 ha auD ⟨by omega,λx J=>by obtain⟨y,hy,aq⟩:=ag.2 x J;rw[aq];exact(J9 y hy).1⟩ aj PJ gb nL amS;refine GC.mono ?_;intro d aO h;rw[h];unfold Gw pQ;split<;>rfl
theorem amT(aL:List eE)(vs:Nat->Value):lh aL vs aL.length=eZ (aL.map λd=>(d.id,d.cv)) vs (λ_=>0) (λ_=>0):=by unfold lh eZ;apply av1;simp;intro j h1 A;simp
theorem amU(bY:D)(bO:Nat)(aL:List eE)(vs:Nat->Value)(ba:Nat->List bz)(n:Nat):nJ bY bO aL vs ba n=iT vs (λi=>(ba i).map (jA λx=>kp bY bO aL x.g0)) n:=rfl
variable{f:FuncId}{ds:List D}{d:D}
theorem mH.Qd(hs:List (Nat×aJ))(h:aT B f ds d):c4 B f ds (aM hs) λd' aO=>d'=d/\aO=aM hs :=
 ⟨h.1,λw C args Ft G aj hH af=>(h.2 w C args G af).mono λe w' ⟨v,aW,aq,X,a1⟩ =>
  ⟨v,d,aW,aM hs,aq,⟨rfl,rfl⟩,X,⟨a1.ext,a1.os,a1.tape,a1.output,λb sI ar=>a1.iB b sI λh=>h.elim⟩,
   ⟨(hH.tH a1).cl,(hH.tH a1).inj,λs o b ag au=>.inl ((hH.tH a1).cQ s o b ag au)⟩⟩⟩
theorem Zc(j0:aJ):A0 B j0 (.fn (.func 229) [] []) []:=⟨229,[],[],rfl,mH.Qd _ (ahK 173)⟩
theorem ap.Zd{o:Nat}:ap (.box k b o) (.am (.pointer (some ⟨b,o,none⟩))):=⟨λw C ao h=>by rw[h.wy];exact .am _⟩
def Ze:Option Nat->D
 |none=>.am (.pointer none)
 |some b=>.box 4110 b 0
theorem amV(x:Option Nat):∃p,ap (Ze x) (.am (.pointer p)):=by cases x with|none=>exact⟨_,E⟩|some b=>exact⟨_,ap.Zd⟩
variable{cx:bH}
theorem Zf{aY:List (Nat × aJ)}(ae : List (Nat × aJ))(cA : qa cx)(sE : ∀k o,10000<=k->cx k = some o->z.H k = some o)(h1 : mI z aY := by repeat (first|exact trivial|refine⟨rfl,?_⟩))(Z : ∀k,(aM aY k).isSome = (aM ae k).isSome := by
      intro k;simp only[aM]
      repeat (first|rfl|(cases Nat.beq k _;simp only[avZ];rotate_left;rfl))):∀k o,cV aY cx k=some o->qs ae k=true/\z.H k=some o:=λk o h=>by
 have:=PQ cA sE h1 k o h;exact⟨by have A:=this.1;unfold qs at A⊢;rw[<-Z];exact A,this.2⟩
structure Qe (o:fk) (ai:List (auM×U)) (n:U):Prop where
 wO:y_ n
 w:o7 n<1000000
 len:(j1 o ai n).aE.length<=100000
 aE:∀p∈(j1 o ai n).aE,p.1.length<=10000/\0<=p.2/\p.2<=1000000
 ba:∀i,i<(j1 o ai n).aE.length->((j1 o ai n).ba i).length<400000
 sum:fP (λi=>(((j1 o ai n).ba i).length:Nat)) 0 (j1 o ai n).aE.length<=10000000
 id:∀i,∀x∈(j1 o ai n).ba i,x.id.length<1000000
noncomputable def li(o:fk)(ai:List (auM×U))(aL:List eE)(b7:List gf)(aC:bz->List c7):Int×Int:=pQ aC false (aL.map λd=>(d.id,d.cv)) (eT o ai aL b7) 1
noncomputable def lj(o:fk)(ai:List (auM×U))(n:U)(aL:List eE)(b7:List gf)(aC:bz->List c7):Int×Int :=
 if(li o ai aL b7 aC).2=0/\o.qY=true then pQ (λ_=>[]) true (j1 o ai n).aE (j1 o ai n).ba (li o ai aL b7 aC).1 else li o ai aL b7 aC
theorem amW(aX:dk B)(o:fk)(n:U)(bW bG:Nat)(ai:List (auM×U))(aL:List eE)(b7:List gf)(y5:Int)(Gq:aT B 158 [az n,.bool o.rock] (.bm [.T .none 6 (aL.map gD),.T .none 7 (b7.map fo),u y5]))(O:aL.length<=1000)(fr:b7.length<=1000)(s4:∀d∈aL,0<=d.cv/\d.cv<(aL.length:Nat))(mV:∀e∈b7,0<=e.eW/\e.eW<(aL.length:Nat))(Qf:∀d∈aL,d.id.length<=10000/\iu d.id)(aC:bz->List c7)(nL:∀bO i,i<aL.length->∀x∈eT o ai aL b7 i,A0 B (.mp bO (br (D.int .i64) (o4 aL aL.length))) (kp (.a7 26 [dH o n bW bG] 0 0) bO aL x.g0) (aC x))(gb:∀i,i<aL.length->∀x∈eT o ai aL b7 i,x.id.length<1000000/\iu x.id/\(aC x).length<1000000/\∀y∈aC x,y.ql.length<1000000/\y.data.length<1000000)(Cc:o.qY=true->Qe o ai n)(lo:0<=(li o ai aL b7 aC).1/\(li o ai aL b7 aC).1<=1000000000000)(g_:0<=(lj o ai n aL b7 aC).1/\(lj o ai n aL b7 aC).1<=1000000000000): c4 B 77 [.a7 26 [dH o n bW bG] 0 0,u 1] (aM [(4103,.mp bW (br az ai)),(4104,.mp bG (br bj []))]) λd aO=>∃jr v2,d=.bm [.agg [.am (.pointer jr),.am (.pointer v2),u (lj o ai n aL b7 aC).1,u ((lj o ai n aL b7 aC).1+if 0<o.gM.length then 1 else 0)],u (lj o ai n aL b7 aC).2]:=by have Qg:=ald (B:=B) o n bW bG ai aL b7 y5 Gq auD auD s4 mV;simp only[amT,amU]at Qg;have dg:(aL.map λd=>(d.id,d.cv)).length=aL.length:=auS _;obtain⟨aE,sG⟩:∃aE,(aL.map λd=>(d.id,d.cv))=aE:=⟨_,rfl⟩;(have xv:∀p∈aE,p.1.length<=10000/\(false=false->iu p.1)/\0<=p.2/\p.2<=1000000:=λp aw=>by rw[<-sG]at aw;obtain⟨d,rW,rfl⟩:=au_.1 aw;have:=Qf d rW;have:=s4 d rW;exact⟨(Qf d rW).1,λ_=>(Qf d rW).2,by dsimp only;omega,by dsimp only;omega⟩);(have Zg:∀i,i<aL.length->(eT o ai aL b7 i).length<400000:=λi _=>by have:=Gp (o:=o) (ai:=ai) (aL:=aL) (b7:=b7) (i:=i);omega);(have AM:fP (λi=>((eT o ai aL b7 i).length:Nat)) 0 aL.length<=10000000:=by have:=C' (bA:=λi=>((eT o ai aL b7 i).length:Nat)) (a:=0) (b:=1002) (n:=aL.length) (λi hi=>⟨by omega,by have:=Gp (o:=o) (ai:=ai) (aL:=aL) (b7:=b7) (i:=i);omega⟩) aL.length (auW _);omega);(have Y5:li o ai aL b7 aC=pQ aC false aE (eT o ai aL b7) 1:=by unfold li;rw[sG]);have xw:lj o ai n aL b7 aC=if(li o ai aL b7 aC).2=0/\o.qY=true then pQ (λ_=>[]) true (j1 o ai n).aE (j1 o ai n).ba (li o ai aL b7 aC).1 else li o ai aL b7 aC:=rfl;rw[sG]at Qg dg;rw[<-dg]at Zg AM;have GC:=λbO vs b3 dN=>Zb (B:=B) aX (λx=>kp (.a7 26 [dH o n bW bG] 0 0) bO aL x.g0) (λx=>JE _ _ _ _) aC false (.mp bO (br (D.int .i64) (o4 aL aL.length))) aE (eT o ai aL b7) vs b3 dN 1 auD auD xv Zg AM (λi hi x J=>by have:=gb i auD x J;exact⟨this.1,λ_=>this.2.1,this.2.2.1,this.2.2.2⟩) (λi hi x J=>nL bO i auD x J);rw[<-Y5]at GC;simp only[dg]at GC;generalize NZ:li o ai aL b7 aC=Dj at*;generalize N0:lj o ai n aL b7 aC=zc at*;refine yf Tryz.func77 Tryz.ntmps77 λW=>?_;refine go ?_;intro cJ;(conv=>whnf);refine go ?_;refine .inr (ah.y6 rfl [.a7 26 [dH o n bW bG] 0 0] (qs [(4103,.mp 0 []),(4104,.mp 0 []),(4110,.mp 0 []),(4111,.mp 0 []),(7100,.mp 0 [])]) (λk o ag=>?_) Qg ?_ ?_);simp only[aM]at ag;(cases h1:Nat.beq k 4103 with|true=>have:=avb h1;subst this;exact⟨rfl,ag⟩|false =>rw[h1]at ag;(cases A:Nat.beq k 4104 with|true=>have:=avb A;subst this;exact⟨rfl,ag⟩|false=>rw[A]at ag;cases ag));exact ja;rintro d aO ⟨lO,bO,b3,vs,rfl,rfl⟩;refine⟨_,E,?_⟩;(conv=>whnf);refine dc ?_;intro dW;(conv=>whnf);refine go ?_;refine .inr (ah.y6 rfl [.box 4110 lO 0,u 1] (qs [(4110,.mp 0 []),(4111,.mp 0 []),(7100,.mp 0 [])]) (Zf [(4110,.mp 0 []),(4111,.mp 0 []),(7100,.mp 0 [])] (gE _ _ _) (λq o I ag=>by(repeat (refine JU I ?_));exact JV I ag)) (GC bO vs b3 lO) ?_ ?_);exact ja;rintro d aO rfl;refine⟨_,E,?_⟩;(conv=>whnf);refine go ?_;refine Y.jo 6 (dA:=[.am (.pointer (some ⟨lO,0,none⟩)),.am (.pointer none),u 0,u 0]) rfl ⟨ap.Zd,E,E,E,ak⟩ ?_;refine Y.qF 7100 12 234 ?_;refine nt (α:=Option Nat) (λ_=>True) [0,4] [4103,4104,4] (λ_=>[(6,.box 6 dW 0),(7,u zc.1),(8,u zc.2)]) (λx=>[(6,.box dW [.am (.pointer (some ⟨lO,0,none⟩)),Ze x,u 0,u 0])]) ?_ ?_;(·refine cb (t:=bif Dj.2==0 then o.qY else false) ?_ ?_<;>intro hc;(·(have e6:Dj.2=0/\o.qY=true:=by cases h:Dj.2==0 with|true=>rw[h]at hc;exact⟨by simpa using h,hc⟩|false=>rw[h]at hc;cases hc);rw[auO e6]at xw;have ad:=Cc e6.2;have amX:=amk (B:=B) aX o n bW bG ai ad.wO ad.w;have Zh:=λvs b3 dN=>Zb (B:=B) aX ri (λ_=>rfl) (λ_=>[]) true (.row (.slice none 0 0) [] 12 234) (j1 o ai n).aE (j1 o ai n).ba vs b3 dN Dj.1 auD ad.len (λp aw=>⟨(ad.aE p aw).1,λh=>(by cases h),(ad.aE p aw).2⟩) ad.ba ad.sum (λi hi x J=>⟨ad.id i x J,λh=>(by cases h),auF,λy hy=>(by cases hy)⟩) (λi hi x J=>Zc _);rw[<-xw]at Zh;generalize j1 o ai n=oe at*;refine go ?_;refine .inr (ah.y6 rfl [.a7 26 [dH o n bW bG] 0 0] (qs [(4103,.mp 0 []),(4104,.mp 0 []),(4110,.mp 0 []),(4111,.mp 0 [])]) (λk o ag=>?_) amX ?_ ?_);simp only[aM]at ag;(cases h1:Nat.beq k 4103 with|true=>have:=avb h1;subst this;exact⟨rfl,by rw[h1]at ag;exact ag⟩|false =>rw[h1]at ag;(cases A:Nat.beq k 4104 with|true=>have:=avb A;subst this;exact⟨rfl,by rw[A]at ag;exact ag⟩|false=>rw[A]at ag;cases ag));exact ja;rintro d jM ⟨Qh,atw,te,gv,rfl,rfl⟩;refine⟨_,E,?_⟩;(conv=>whnf);refine go ?_;refine .inr (ah.y6 rfl [.box 4110 Qh 0,u Dj.1] (qs [(4110,.mp 0 []),(4111,.mp 0 []),(7100,.mp 0 [])]) (Zf [(4110,.mp 0 []),(4111,.mp 0 []),(7100,.mp 0 [])] (gE _ _ _) (λq o I ag=>by(repeat (refine JU I ?_));exact JV I ag)) (Zh gv te Qh) ?_ ?_);exact ja;rintro d atx rfl;refine⟨_,E,?_⟩;(conv=>whnf);refine go ?_;exact gL (some Qh) [(4103,4103),(4104,4104),(4,4),(6,6)] trivial);(have e6:¬(Dj.2=0/\o.qY=true):=λh=>by rw[h.1,h.2]at hc;cases hc);rw[auN e6]at xw;subst xw;refine go ?_;exact gL none [(4103,4103),(4104,4104),(4,4),(6,6)] trivial (A:=⟨cX,rfl,a_⟩));intro Og _;obtain⟨v2,amY⟩:=amV Og;refine Y.jo 6 (dA:=[.am (.pointer (some ⟨lO,0,none⟩)),.am (.pointer v2),u 0,u 0]) rfl ⟨E,amY,E,E,ak⟩ ?_;refine go ?_;have fg:(o.gM.map pw).length=o.gM.length:=auS _;rw[fg];obtain⟨mi,pF⟩:∃mi,(zc.1+if 0<o.gM.length then(1:Int)else 0)=mi:=⟨_,rfl⟩;rw[pF];refine nt (α:=Unit) (λ_=>True) [4,6,8] [4,6] (λ_=>[(7,u mi)]) (λ_=>[]) ?_ ?_;refine cb (t:=decide ((0:Int)<(o.gM.length:Nat))) ?_ ?_<;>intro hc;rw[auO (by have:=avg hc;omega)]at pF;refine go ?_;exact gL () [(4,4),(6,6)] trivial;rw[auN (by have:=ava hc;omega),Int.add_zero]at pF;refine go ?_;exact gL () [(4,4),(6,6)] trivial;intro _ _;refine go ?_;refine⟨.bm [.agg [.am (.pointer (some ⟨lO,0,none⟩)),.am (.pointer v2),u zc.1,u mi],u zc.2],?_,_,v2,by rfl⟩;(conv=>whnf);apply cj;(conv=>whnf);exact an
end Go.bV.ct
namespace Go.bV
open Go Go.RowKit
variable{P:Program}{B:World}{f:FuncId}{bp b:Nat}{aD ds:List D}{a6:D->bH->Prop}
theorem c8.freeze(s:Nat){x:D}{H:bH}(hs:H s=some (.box b aD))(J:x.cells=aD)(en:aD.all D.one=true)(h:c8 P B f (.a7 aD.length [x] 0 0::ds) (λi=>_root_.cond (Nat.beq i s) none (H i)) a6):c8 P B f (.box bp b 0::ds) H a6:=by refine⟨h.1,λw C args Ft G qE hH kX=>?_⟩;obtain⟨vs,e,h1,A,aa⟩:=hH.cl s _ hs;have tE:Ft b:=hH.cQ s _ b hs rfl;have j5:nQ w C w (gw C b aD.length):=⟨auW _,λx _=>Ei C b _ auD x,λ_ _ _ _=>rfl⟩;have a1:de Ft w C w (gw C b aD.length):=⟨j5,rfl,rfl,rfl,λy _ hy=>⟨rfl,rC _ _ (λe=>hy (e ▸ tE))⟩⟩;have qO:=A.ext j5;have dQ:bh w (gw C b aD.length) (.T .none aD.length [x]) (.slice (some ⟨b,0,none⟩) 1 1) := xX (xs:=[x]) (vs:=vs) (kv:=(0,0)) (e:=e) h1 (λy hy=>by rw[avs.1 hy,J]) (auW _) auG (by rw[h2];simp) (λi d O=>by(have hu:aD[i]?=some d:=by simpa[b4,J]using O);obtain⟨ao,au⟩:=lU (l:=vs) (i:=i) (by rw[<-A.1];exact fu hu);exact⟨ao,au,qO.2 i d ao hu au,A.one en ao (avd.2 ⟨i,au⟩)⟩) trivial;(have aZ:∀{j:Nat} {o:aJ},_root_.cond (Nat.beq j s) none (H j)=some o->j≠s/\H j=some o:=λ{j o} ag=>by cases ad:Nat.beq j s with|true=>rw[ad]at ag;cases ag|false=>rw[ad]at ag;exact⟨(λe=>(by subst e;rw[av9]at ad;cases ad)),ag⟩);(have ER:mc Ft w (gw C b aD.length) (λi=>_root_.cond (Nat.beq i s) none (H i)):=by refine⟨λj o ag=>?_,λj ez o bN y ar aF a8 au c0=>hH.inj j ez o bN y ar (aZ aF).2 (aZ a8).2 au c0,λj o y ag au=>hH.cQ j o y (aZ ag).2 au⟩;obtain⟨ad,po⟩:=aZ ag;exact(hH.cl j o po).iB j5 λy hy=>⟨rfl,rC _ _ (λe=>by subst e;exact hH.inj s j _ o y (Ne.symm ad) hs po rfl hy)⟩);(have amZ:db w (gw C b aD.length) (.a7 aD.length [x] 0 0::ds) args:=by refine⟨by have:=kX.1;simpa using this,λi d v aF a8=>?_⟩;cases i with|zero =>simp at aF;subst aF;have cN:=kX.2 0 _ v rfl a8;(have e2:v=.pointer (some ⟨b,0,none⟩):=by cases cN;rfl);rw[e2];have:=bh.a7 aD.length [x] 0 0 b 0 1 dQ;simpa using this|succ i=>exact(kX.2 (i+1) d v (by simpa using aF) a8).ext j5);refine(h.2 w _ args Ft G qE ER amZ).mono ?_;rintro e w' ⟨v,d,aW,aO,aq,I,af,am0,nk⟩;exact⟨v,d,aW,aO,aq,I,af,a1.trans am0 (λ_ _ h=>h),nk⟩
end Go.bV
namespace Go.bV.ct
open Go Go.Proofs
variable{B:World}
structure am1 (B:World) (o:fk) (n:U) (ai:List (auM×U)) (aL:List eE) (b7:List gf) (aC:bz->List c7):Prop where
 am2:∃y5,aT B 158 [az n,.bool o.rock] (.bm [.T .none 6 (aL.map gD),.T .none 7 (b7.map fo),u y5])
 J_:aL.length<=1000
 bJ:b7.length<=1000
 Gm:∀d∈aL,0<=d.cv/\d.cv<(aL.length:Nat)
 J':∀e∈b7,0<=e.eW/\e.eW<(aL.length:Nat)
 Ka:∀d∈aL,d.id.length<=10000/\iu d.id
 am3:∀bW bG bO i,i<aL.length->∀x∈eT o ai aL b7 i,A0 B (.mp bO (br (D.int .i64) (o4 aL aL.length))) (kp (.a7 26 [dH o n bW bG] 0 0) bO aL x.g0) (aC x)
 am4:∀i,i<aL.length->∀x∈eT o ai aL b7 i,x.id.length<1000000/\iu x.id/\(aC x).length<1000000/\∀y∈aC x,y.ql.length<1000000/\y.data.length<1000000
 qY:o.qY=true->Qe o ai n
 dI:0<=(li o ai aL b7 aC).1/\(li o ai aL b7 aC).1<=500000000
 ca:0<=(lj o ai n aL b7 aC).1/\(lj o ai n aL b7 aC).1<=900000000
noncomputable def th(o:fk)(n:U)(ai:List (auM×U))(aL:List eE)(b7:List gf)(aC:bz->List c7):Int×Int :=
 if oW n o=0 then(if(lj o ai n aL b7 aC).2=0 then((lj o ai n aL b7 aC).1+(if 0<o.gM.length then 1 else 0)-1,0)else(0,(lj o ai n aL b7 aC).2))else(0,oW n o)
theorem Zi(aX:dk B)(o:fk)(n:U)(bn:aB n+n.name.length<10000000)(cw:auM->U×Int)(bP:List auM)(sa:bP.length<1000000)(hE:aT B 96 [az n] (.T .none 1 (aQ bP)))(k_:∀p∈bP,aT B 17 [az n,.N p] (.bm [az (cw p).1,u (cw p).2]))(aL:List eE)(b7:List gf)(aC:bz->List c7)(hO:oW n o=0->am1 B o n (fM cw n bP) aL b7 aC): aT B 30 [az n,r2 o] (.bm [u (th o n (fM cw n bP) aL b7 aC).1,u (th o n (fM cw n bP) aL b7 aC).2]):=by have am5:=ag9 (B:=B) aX n o bn;have am6:=akP (B:=B) cw n o bP sa hE k_;have X:th o n (fM cw n bP) aL b7 aC=if oW n o=0 then(if(lj o (fM cw n bP) n aL b7 aC).2=0 then((lj o (fM cw n bP) n aL b7 aC).1+(if 0<o.gM.length then 1 else 0)-1,0)else(0,(lj o (fM cw n bP) n aL b7 aC).2))else(0,oW n o):=rfl;generalize fM cw n bP=ai at*;generalize oW n o=Zj at*;refine fn Tryz.func30 Tryz.ntmps30 λW=>?_;refine go ?_;intro ca;(conv=>whnf);refine dc ?_;intro el;(conv=>whnf);refine go ?_;refine bq am5 ?_;refine cb (t:=!(Zj==0)) ?_ ?_<;>intro hc;rw[auN (by simpa using hc)]at X;rw[X];refine go ?_;exact an;(have Dk:Zj=0:=by simpa using hc);rw[auO Dk]at X;have aw:=hO Dk;obtain⟨y5,dh⟩:=aw.am2;have Zk:=λbW bG=>amW (B:=B) aX o n bW bG ai aL b7 y5 dh aw.J_ aw.bJ aw.Gm aw.J' aw.Ka aC (aw.am3 bW bG) aw.am4 aw.qY (by have:=aw.dI;omega) (by have:=aw.ca;omega);have g_:=aw.ca;generalize lj o ai n aL b7 aC=zc at*;obtain⟨mi,pF⟩:∃mi,(zc.1+if 0<o.gM.length then(1:Int)else 0)=mi:=⟨_,rfl⟩;(have CC:0<=mi/\mi<=900000001:=by rw[<-pF];split<;>omega);rw[pF]at X Zk;refine go ?_;refine .inr (ah.y6 rfl [XV,az n,.bd,r2 o] (qs [(4102,.mp 0 []),(4103,.mp 0 []),(4104,.mp 0 [])]) (λk o ag=>by cases ag) am6 ?_ ?_);exact ja;rintro d aO ⟨d_,bW,bG,rfl,rfl⟩;refine⟨_,E,?_⟩;(conv=>whnf);have am7:c4 B 77 (.box 4102 d_ 0::[u 1]) (aM (AS d_ bW bG o n ai)) _:=c8.freeze 4102 (x:=dH o n bW bG) (aD:=(dH o n bW bG).cells) rfl rfl rfl (by(have e:(λi=>_root_.cond (Nat.beq i 4102) none (aM (AS d_ bW bG o n ai) i))=aM [(4103,.mp bW (br az ai)),(4104,.mp bG (br bj []))]:=by funext i;simp only[AS,aM];cases h1:Nat.beq i 4102 with|true=>have:=avb h1;subst this;rfl|false=>rfl);rw[e];exact Zk bW bG);refine go ?_;refine .inr (ah.y6 rfl [.box 4102 d_ 0,u 1] (qs [(4102,.mp 0 []),(4103,.mp 0 []),(4104,.mp 0 [])]) (λk o ag=>?_) am7 ?_ ?_);simp only[aM,AS]at ag;(cases h1:Nat.beq k 4102 with|true=>have:=avb h1;subst this;exact⟨rfl,by rw[h1]at ag;exact ag⟩|false =>rw[h1]at ag;(cases A:Nat.beq k 4103 with|true=>have:=avb A;subst this;exact⟨rfl,by rw[A]at ag;exact ag⟩|false =>rw[A]at ag;(cases aa:Nat.beq k 4104 with|true=>have:=avb aa;subst this;exact⟨rfl,by rw[aa]at ag;exact ag⟩|false=>rw[aa]at ag;cases ag)));exact ja;rintro d jM ⟨jr,v2,rfl⟩;refine⟨_,E,?_⟩;(conv=>whnf);refine dc ?_;intro dM;(conv=>whnf);refine go ?_;refine cb (t:=!(zc.2==0)) ?_ ?_<;>intro bx;rw[auN (by simpa using bx)]at X;rw[X];refine go ?_;exact an;rw[auO (by simpa using bx)]at X;rw[X];refine go ?_;exact an
structure nO (m:auM) (bc:Bool) (bL bY:auM):Prop where
 a:oo bL 8=true
 IK:(46:UInt8)∉bL
 k4:(46:UInt8)∉bY
 eq:(bY=[]/\m=bL)\/(bY≠[]/\bc=false/\oo bY 3=true/\m=bL++46::bY)
variable{bL bY:auM}{bc:Bool}
theorem nO.name{m:auM}(h:nO m bc bL bY):Ye m bc:=akY h.a h.IK h.k4 h.eq
theorem nO.file{m:auM}(h:nO m bc bL bY):nO m false bL bY:=⟨h.a,h.IK,h.k4,by
 rcases h.eq with h|⟨h1,A,aa,aF⟩
 ·exact .inl h
 exact .inr ⟨h1,rfl,aa,aF⟩⟩
variable{s:auM}
theorem Zl{m:Int}(h:oo s m=true):(s.length:Int)<=m:=by simp[oo]at h;exact h.2.1
theorem nO.len{m:auM}(h:nO m bc bL bY):m.length<=12:=by have:=Zl h.a;rcases h.eq with⟨_,rfl⟩|⟨_,_,aa,rfl⟩;omega;have:=Zl aa;simp;omega
variable{k:Nat}
theorem am8(hs:dS s=true)(bc:Bool)(Z:k<100):∃bL bY,nO (ki 0 (fV 0 s bc).1 (fV 0 s bc).2 k) bc bL bY:=by obtain⟨l,e,h0,h1⟩:=ajN (.inl rfl) hs bc Z;obtain⟨a,b,h⟩:=h0 rfl;rw[e];(have Zm:q_ 46=false:=by decide);refine⟨cy a,cy b,Ya (m:=8) h.bq h.gn h.zZ auG,Yb h.bq Zm,Yb h.cb Zm,?_⟩;have I:=h.eq;by_cases G:b=[];rw[auO G]at I;exact .inl ⟨by rw[G];rfl,by rw[I]⟩;rw[auN G]at I;refine .inr ⟨λe=>G (Ja.1 e),?_,Ya (m:=3) h.cb ?_ h.el auG,?_⟩;(cases bc with|false=>rfl|true=>exact absurd (h.bc rfl) G);(cases b with|nil=>exact absurd rfl G|cons x r=>simp);rw[I,AJ,W0,Oo 46 auG auG];rfl
variable{ae:List U}{i:Nat}
theorem Zn(hF:ae.length<=64)(h:∀k∈ae,dS k.name=true)(hi:i<ae.length):∃bL bY,nO ((cd 0 ae)[i]'(by rw[om];exact hi)) (ae[i].kind==0) bL bY:=by rw[ajU hi];obtain⟨j,ad,e⟩:=ak0 (.inl rfl) (g5 0 (ae.take i)) ae[i] (by rw[s_,au9];omega);rw[e];exact am8 (h _ (auT hi)) _ ad
theorem am9(i:Nat):[82,82,95,77,79,86]++Lib.decDigits (i+1)=jg (i+1):=by rw[jg,auN auD]
theorem Zo:∀k,k<100->(Lib.decDigits k).length<=2:=by decide +kernel
theorem am_(aX:dk B)(F:List U)(hF:F.length<=64)(cD:∀k∈F,dS k.name=true/\k.name.length<1000000000)(my:f3 F):aT B 228 [.T .none 12 (F.map enc)] (.N (jg (lN (cd 0 F)))):=by obtain⟨mw,nB,oi⟩:=Pu (gq:=cd 0 F) (by rw[om];exact hF);have gk:=om 0 F;refine bB Tryz.func228 Tryz.ntmps228 λW=>?_;refine go ?_;refine bq (((OG aX (v:=0) auG).call F hF my cD).1) ?_;refine .inr (ah.makeMap λl_=>?_);refine go ?_;refine Y.ee (α:={i:Nat // i<=F.length}×List auM) (λx=>[(5,.am (.map (some l_))),(16,.T .none 1 (aQ (cd 0 F))),(17,u (aQ (cd 0 F)).length),(18,u x.1.1)]) (λx=>[(15,.set l_ ((cd 0 F).take x.1.1).reverse)]) (λx=>F.length-x.1.1) (⟨0,au7 _⟩,[]) [(15,15)] ⟨an,rfl,a_⟩ ?_;rintro⟨⟨i,hi⟩,_⟩;dsimp only;refine go ?_;refine aI (decide ((i:Int)<(aQ (cd 0 F)).length)) rfl ?_ ?_<;>intro hc;refine eY ?_;(have aG:i<F.length:=by simpa[aQ,gk]using hc);(have CZ:i<(cd 0 F).length:=by omega);refine gJ ?_;refine⟨λ_=>by simp[aQ];omega,?_⟩;refine go ?_;refine⟨.N (cd 0 F)[i],λ_=>by simp[aQ,CZ],?_⟩;refine go ?_;refine .inr (ah.Ej 15 (em:=9) (eB:=4) rfl rfl rfl rfl rfl rfl ?_);refine go ?_;exact⟨(⟨i+1,aG⟩,[]),[(15,15)],by show _-(i+1)<_-i;omega,an,rfl,rfl,auP (λQ=>some (aJ.set l_ Q)) (by rw[auU CZ,List.reverse_append];rfl),ak⟩;refine go ?_;(have cr:i=F.length:=by simp[aQ,gk]at hc;omega);have hL:(cd 0 F).take i=cd 0 F:=ave auD;rw[hL];refine go ?_;refine Y.ee (α:={i:Nat // i<=lN (cd 0 F)}) (λx=>[(5,.am (.map (some l_))),(8,.N (jg x.1)),(9,u ((x.1:Int)+1))]) (λx=>[(15,.set l_ (cd 0 F).reverse)]) (λx=>lN (cd 0 F)-x.1) ⟨0,au7 _⟩ [(15,15)] ⟨an,rfl,a_⟩ ?_;rintro⟨i,hi⟩;dsimp only;refine go ?_;refine .inr (ah.L_ 15 (em:=9) (eB:=4) rfl rfl auL rfl rfl rfl ?_);refine go ?_;refine aI _ rfl ?_ ?_<;>intro hc;refine eY ?_;(have hm:jg i∈cd 0 F:=by simpa using hc);(have aG:i<lN (cd 0 F):=by rcases au6 i (lN (cd 0 F))with h|h;exact h;(have:i=lN (cd 0 F):=by omega);subst this;exact absurd hm nB);have jG:=Zo (i+1) auD;refine jJ ?_;refine lZ ?_;refine⟨[u ((i+1:Nat):Int)],_,λ_=>Ol (i+1) auD,an,?_⟩;(conv=>whnf);refine mS ?_;exact⟨⟨i+1,aG⟩,[(15,15)],by show _-(i+1)<_-i;omega,⟨E,ap.of_eq (auP D.N (am9 i)),E,ak⟩,rfl,a_⟩;refine go ?_;(have hm:jg i∉cd 0 F:=by simpa using hc);(have:i=lN (cd 0 F):=by rcases au6 i (lN (cd 0 F))with h|h;exact absurd (oi i h) hm;omega);subst this;exact E
theorem GD(i:Int)(s:Nat)(hi:-1<=i/\i<1000000)(hs:s<=1):aT B 227 [u i,.a7 1 [u (s:Int)] 0 0] (u (if i<=0 then i else i+s)):=by refine bB Tryz.func227 Tryz.ntmps227 λW=>?_;refine go ?_;refine aI _ rfl ?_ ?_<;>intro hc;refine go ?_;(have h0:i<=0:=by simpa using hc);rw[auO h0];exact E;apply ci;apply b1;refine wQ (u (s:Int)) ?_;refine go ?_;(have h0:¬i<=0:=by simpa using hc);rw[auN h0];exact E
theorem Qi(x:aK):∀{ae:List U} {cm:List auM} {i:Nat} (h:i<ae.length) (bt:i<cm.length) (c:ex),e9 (ae.take (i+1)) (cm.take (i+1)) x c=e9 (ae.take i) (cm.take i) x c++(if(bX x ae[i] cm[i] (c.iQ (e9 (ae.take i) (cm.take i) x c))).any then bX x ae[i] cm[i] (c.iQ (e9 (ae.take i) (cm.take i) x c))::fA ae[i] (bX x ae[i] cm[i] (c.iQ (e9 (ae.take i) (cm.take i) x c))) ((c.iQ (e9 (ae.take i) (cm.take i) x c)).add (bX x ae[i] cm[i] (c.iQ (e9 (ae.take i) (cm.take i) x c))))else[])
 |k::r,m::cm,0,_,_,c=>by simp only[awi,aw2,e9,ex.ak1,awQ,avC,av4]
 |k::r,m::cm,i+1,h,bt,c=>by(have hi:i<r.length:=by simpa using h);(have hm:i<cm.length:=by simpa using bt);simp only[awi,e9,av8];by_cases ha:(bX x k m c).any=true;rw[auO ha,auO ha];have aV:=Qi x hi hm ((c.add (bX x k m c)).iQ (fA k (bX x k m c) (c.add (bX x k m c))));(have e:c.iQ (bX x k m c::(fA k (bX x k m c) (c.add (bX x k m c))++e9 (r.take i) (cm.take i) x ((c.add (bX x k m c)).iQ (fA k (bX x k m c) (c.add (bX x k m c))))))=((c.add (bX x k m c)).iQ (fA k (bX x k m c) (c.add (bX x k m c)))).iQ (e9 (r.take i) (cm.take i) x ((c.add (bX x k m c)).iQ (fA k (bX x k m c) (c.add (bX x k m c))))):=by rw[ex.JC,ex.ak2]);rw[e,aV,avQ,avr];rw[auN ha,auN ha];exact Qi x hi hm c
mutual
theorem Qj:∀(n:U) (x:aK) (c:ex),(fA n x c).length+1<=fd n
 |.mk _ _ _ _ _ _ _ _ _ _ ae _,x,c=>by
  have:=Kb ae (cd 0 ae) x c;simp only[fA,fd];omega
theorem Kb:∀(ae:List U) (cm:List auM) (x:aK) (c:ex),(e9 ae cm x c).length<=eQ ae
 |[],_,_,_=>by simp[e9]
 |k::r,[],_,_=>by simp[e9]
 |k::r,m::cm,x,c=>by
  simp only[e9,eQ];split
  ·have h1:=Qj k (bX x k m c) (c.add (bX x k m c));have A:=Kb r cm x ((c.add (bX x k m c)).iQ (fA k (bX x k m c) (c.add (bX x k m c))));simp only[auX,auV];omega
  have:=Kb r cm x c;omega
end
theorem Zp:∀{ae:List U} {i:Nat} (h:i<ae.length),eQ (ae.take i)+fd ae[i]<=eQ ae
 |k::r,0,_=>by simp[eQ]
 |k::r,i+1,h=>by have:=Zp (ae:=r) (i:=i) (by simpa using h);simp only[awi,eQ,av8];omega
mutual
def rk:U->Prop
 |.mk _ xY _ _ _ _ _ _ _ _ ae _=>(xY≠0->ae=[])/\ti ae
def ti:List U->Prop
 |[]=>True
 |k::r=>rk k/\ti r
end
theorem Kc(n:U):rk n↔(n.kind≠0->n.F=[])/\ti n.F:=by cases n;simp only[rk]
theorem Qk:∀{l:List U} (_:ti l) {k:U} (_:k∈l),rk k
 |x::r,h,k,Z=>by simp only[ti]at h;rcases au8.1 Z with rfl|Z;exact h.1;exact Qk h.2 Z
structure GF (l:List aK) (s:aK) (p:aK):Prop where
 si:s.si=l.length
 ab:s.ab<l.length
 dp:l[s.ab]?=some p
 bc:p.c_=true
 fi:s.fi=p.di
 any:s.any=true
 iso:s.iso=true->p.iso=true
 rock:s.rock=true->p.rock=true
 lv:s.lv=p.lv+1
 path:s.path=below p.path s.n.name (p.lv+1)
 Ql:s.n∈p.n.F
 lev:s.lev=if s.c_ then(if p.lev+1=9 then 3 else p.lev+1)else 0
 mv:s.mv=(s.c_&&p.lev+1==9)
 di:s.di=(bM l).length
 mno:s.mno=(ef l).length+1
inductive ft (bi:Bool) (n:U):List aK->Prop
 |zd (h0:n.kind=0):ft bi n [cT bi n]
 |wg {l:List aK} {s p:aK} (h:ft bi n l) (hs:GF l s p):ft bi n (l++[s])
variable{α:Type}
theorem Zq(f:α->Bool)(l:List α)(s:α):((l++[s]).filter f).length=if f s then(l.filter f).length+1 else(l.filter f).length:=by rw[av7,auV];cases h:f s<;>simp[h]
def tj(c:ex)(l:List aK):Prop:=c.dv=l.length/\c.uF=(bM l).length/\c.aU=(ef l).length
theorem tj.add{c:ex}{l:List aK}(h:tj c l)(s:aK):tj (c.add s) (l++[s]):=by obtain⟨h1,A,aa⟩:=h;refine⟨by simp[ex.add,h1],?_,?_⟩;simp only[ex.add,bM,Zq];split<;>simp[A,bM];simp only[ex.add,ef,Zq];split<;>simp[aa,ef]
theorem tj.iQ:∀{m:List aK} {c:ex} {l:List aK} (h:tj c l),tj (c.iQ m) (l++m)
 |[],c,l,h=>by rw[avC];exact h
 |s::r,c,l,h=>by have:=(h.add s).iQ (m:=r);rw[avr,ax1]at this;exact this
variable{l:List aK}
theorem Qm{x:aK}{k:U}{m:auM}{c:ex}(J:l[x.si]?=some x)(O:x.c_=true)(hc:tj c l)(Z:k∈x.n.F)(ha:(bX x k m c).any=true):GF l (bX x k m c) x:=by obtain⟨h1,A,aa⟩:=hc;(have bg:x.si<l.length:=by rcases au6 x.si l.length with h|h;exact h;rw[au0 h]at J;cases J);refine⟨h1,bg,J,O,rfl,ha,λh=>?_,λh=>?_,rfl,rfl,Z,rfl,rfl,A,by show c.aU+1=_;rw[aa]⟩;simp only[bX,auQ]at h;exact h.1;simp only[bX,auQ]at h;exact h.1
mutual
theorem Qn(bi:Bool)(gW:U):∀(n:U) (x:aK) (c:ex) (l:List aK),ft bi gW l->x.n=n->rk n->l[x.si]?=some x->tj c l->ft bi gW (l++fA n x c)
 |.mk aU xY t tg gn a2 a3 a4 a5 zY ae ch,x,c,l,G,ze,cD,J,hc=>by
  simp only[fA];have GG:=(Kc _).1 cD;by_cases O:xY=0
  ·refine Kd bi gW ae (cd 0 ae) x c l G (by rw[aK.c_,ze,O];rfl) (λk Z=>?_) GG.2 J hc;rw[ze];exact Z
  have:ae=[]:=GG.1 O;subst this;simpa[e9]using G
theorem Kd(bi:Bool)(gW:U):∀(ae:List U) (cm:List auM) (x:aK) (c:ex) (l:List aK),ft bi gW l->x.c_=true->(∀k∈ae,k∈x.n.F)->ti ae->l[x.si]?=some x->tj c l->ft bi gW (l++e9 ae cm x c)
 |[],_,x,c,l,G,_,_,_,_,_=>by simpa[e9]using G
 |k::r,[],x,c,l,G,_,_,_,_,_=>by simpa[e9]using G
 |k::r,m::cm,x,c,l,G,O,b2,cD,J,hc=>by
  simp only[ti]at cD;simp only[e9];split
  ·rename_i ha;have a1:=Qm (m:=m) J O hc (b2 k auY) ha;have lo:=G.wg a1;have e6:=hc.add (bX x k m c)
   have CV:(l++[bX x k m c])[(bX x k m c).si]?=some (bX x k m c):=by
    rw[a1.si];simp
   have g_:=Qn bi gW k (bX x k m c) (c.add (bX x k m c)) (l++[bX x k m c]) lo rfl cD.1 CV e6;have bx:=e6.iQ (m:=fA k (bX x k m c) (c.add (bX x k m c)))
   have bg:x.si<l.length:=by
    rcases au6 x.si l.length with h|h
    ·exact h
    rw[au0 h]at J;cases J
   have Ge:(l++[bX x k m c]++fA k (bX x k m c) (c.add (bX x k m c)))[x.si]?=some x:=by
    rw[avr,au3 bg];exact J
   have Ce:=Kd bi gW r cm x _ _ g_ O (λbE fv=>b2 bE (auZ _ fv)) cD.2 Ge bx;simpa using Ce
  exact Kd bi gW r cm x c l G O (λbE fv=>b2 bE (auZ _ fv)) cD.2 J hc
end
theorem Zr(bi:Bool){n:U}(cD:rk n)(h0:n.kind=0):ft bi n (Gj bi n):=by have:=Qn bi n n (cT bi n) ⟨1,1,0⟩ [cT bi n] (.zd h0) rfl cD rfl (by refine⟨rfl,?_,?_⟩;simp[bM,aK.c_,cT,h0];simp[ef,cT]);exact this
theorem ft.tk{bi:Bool}{n:U}(h:ft bi n l):l[0]?=some (cT bi n)/\0<l.length:=by induction h with|zd h0=>exact⟨rfl,by simp⟩|wg h hs aV=>exact⟨by rw[au3 aV.2];exact aV.1,by simp⟩
theorem ft.kind{bi:Bool}{n:U}{l:List aK}(h:ft bi n l):n.kind=0:=by induction h with|zd h0=>exact h0|wg h hs aV=>exact aV
theorem ft.at{bi:Bool}{n:U}{l:List aK}(h:ft bi n l):∀{i:Nat} {s:aK},0<i->l[i]?=some s->∃p,GF (l.take i) s p:=by induction h with|zd h0=>intro i s hi hs;rw[au0 auE]at hs;cases hs|@wg l s p h a1 aV =>intro i t hi ax;rcases au6 i l.length with aj|aj;rw[au3 aj]at ax;rw[awl auD];exact aV hi ax;rcases au6 l.length i with aS|aS;rw[au0 auE]at ax;cases ax;(have:i=l.length:=by omega);subst this;rw[awN]at ax;cases ax;rw[awl (auW _),au2];exact⟨p,a1⟩
theorem ft.si{bi:Bool}{n:U}{l:List aK}(h:ft bi n l){i:Nat}{s:aK}(hs:l[i]?=some s):s.si=i:=by rcases avA i with rfl|hi;rw[h.tk.1]at hs;cases hs;rfl;obtain⟨p,a1⟩:=h.at hi hs;(have bg:i<l.length:=by rcases au6 i l.length with h|h;exact h;rw[au0 h]at hs;cases hs);rw[a1.si,au9];omega
theorem ft.lev{bi:Bool}{n:U}{l:List aK}(G:ft bi n l):∀(i:Nat) (s:aK),l[i]?=some s->0<=s.lev/\s.lev<=8/\(s.c_=true->1<=s.lev)/\(s.c_=false->s.lev=0/\s.mv=false):=by intro i;induction i using Nat.strongRecOn with|_ i aV =>intro s hs;rcases avA i with rfl|hi;rw[G.tk.1]at hs;cases hs;have Z:=G.kind;refine⟨by show(0:Int)<=1;decide,by show(1:Int)<=8;decide,λ_=>by show(1:Int)<=1;decide,λh=>?_⟩;rw[aK.c_,cT,Z]at h;cases h;obtain⟨p,a1⟩:=G.at hi hs;have bg:=a1.ab;rw[au9]at bg;(have aw:l[s.ab]?=some p:=azk);obtain⟨h1,A,aa,aF⟩:=aV s.ab auD p aw;have aj:=a1.lev;have hm:=a1.mv;have a8:=aa a1.bc;(cases O:s.c_ with|true =>rw[O,auO rfl]at aj;split at aj<;>exact⟨by omega,by omega,λ_=>by omega,λh=>(by cases h)⟩|false =>rw[O]at aj hm;rw[auN auG]at aj;exact⟨by omega,by omega,λh=>(by cases h),λ_=>⟨aj,by rw[hm];rfl⟩⟩)
section
variable{f:α->D}{Q:D}{L:List α}
end
variable{t:Nat}
theorem Zs{V:List α}{s:α}(h:V[t]?=some s):V.take (t+1)=V.take t++[s]:=by obtain⟨aj,rfl⟩:=avk.1 h;exact auU aj
def iy(aR:Nat)(bs:auM)(k:Nat):List gf:=if k=0/\aR≠0 then[⟨[47],bs,0,1,true,false,false⟩]else[]
theorem ft.Ke{bi:Bool}{n:U}(h:ft bi n l):∀(j:Nat) (s:aK),(bM l)[j]?=some s->s.di=j:=by induction h with|zd h0 =>intro j s hs;(have e:bM [cT bi n]=[cT bi n]:=by simp[bM,aK.c_,cT,h0]);rw[e]at hs;(cases j with|zero=>cases hs;rfl|succ j=>cases hs)|@wg l t p h a1 aV =>intro j s hs;(cases O:t.c_ with|false =>(have e:bM (l++[t])=bM l:=by rw[bM,av7];simp[bM,O]);rw[e]at hs;exact aV j s hs|true =>(have e:bM (l++[t])=bM l++[t]:=by rw[bM,av7];simp[bM,O]);rw[e]at hs;rcases au6 j (bM l).length with ad|ad;rw[au3 ad]at hs;exact aV j s hs;rcases au6 (bM l).length j with aS|aS;rw[au0 auE]at hs;cases hs;(have:j=(bM l).length:=by omega);subst this;rw[awN]at hs;cases hs;exact a1.di)
theorem am'(V:List aK):∀m:Nat,(((List.range m).map λi=>(V.filter λx=>x.fi==i).length).sum)<=V.length:=by
 induction V with
 |nil=>intro m;induction m with
  |zero=>simp
  |succ m aV=>rw[awh,avo,List.sum_append];simpa using aV
 |cons s r aV =>
  intro m
  have key:∀m,((List.range m).map λi=>((s::r).filter λx=>x.fi==i).length).sum<=((List.range m).map λi=>(r.filter λx=>x.fi==i).length).sum+(if s.fi<m then 1 else 0):=by
   intro m
   induction m with
   |zero=>simp
   |succ m Qo =>
    rw[awh,avo,avo,List.sum_append,List.sum_append];simp only[avc,awp,axV,List.sum_nil,aw9];rw[avJ];by_cases h:s.fi=m
    ·subst h;rw[auN (axW _)]at Qo;rw[auO auF,auO auD,auX];omega
    rw[auN (by simpa using h)];by_cases A:s.fi<m
    ·rw[auO A]at Qo;rw[auO auD];omega
    rw[auN A]at Qo;rw[auN auD];omega
  have h1:=key m;have A:=aV m;rw[auX];split at h1<;>omega
theorem Zt(s:Nat)(V:List aK)(i:Nat):(lf s V i).length=(V.filter λx=>x.fi==i).length:=by rw[lf,auS]
theorem ana(bs:auM){V:List aK}(j7:∀x∈V,x.fi<=(bM V).length):(qr bs V).length<=2*V.length+1:=by rw[qr];simp only[auV,auS,List.length_flatMap,Zt];have h1:=am' V (1+(bM V).length);(have A:(List.range (1+(bM V).length)).map (λi=>(V.filter λx=>x.fi==i).length)=(V.filter λx=>x.fi==0).length::(List.range (bM V).length).map (λi=>(V.filter λx=>x.fi==i+1).length):=by rw[axu,List.range_succ_eq_map,avc,avR];rfl);rw[A,axV]at h1;have aa:(ef V).length<=V.length:=avn _ _;(have aF:(if eF V=0 then([]:List gf)else[⟨[47],bs,0,1,true,false,false⟩]).length<=1:=by split<;>simp);omega
theorem anb(f:α->Bool)(l:List α)(t:Nat):((l.take t).filter f).length<=(l.filter f).length:=((List.take_sublist t l).filter f).length_le
mutual
theorem Zu:∀(n:U) (l:Int),gB n l=true->rk n
 |.mk a b c d e f g h i j ae ch,l,aS=>by
  obtain⟨h1,A⟩:=vR aS;simp only[rk];exact⟨h1.bc,Zv ae (l+1) A⟩
theorem Zv:∀(ae:List U) (l:Int),jT ae l=true->ti ae
 |[],l,aS=>trivial
 |k::r,l,aS=>by
  simp only[jT,auQ]at aS;simp only[ti];exact⟨Zu k l aS.1,Zv r l aS.2⟩
end
theorem Qp{n:U}(h:valid n=true):rk n/\n.kind=0:=by rw[q7,auQ]at h;exact⟨Zu n 1 h.2,(vR (l:=1) (by cases n;exact h.2)).1.CL rfl⟩
def rl(s:aK):List D:=[.N s.path,.N (if s.si=0 then[0]else if s.mv then 68::Lib.decDigits s.mno else s.id),u s.lev,u (if s.mv then -1 else(s.fi:Int)),u (s.fi:Int),.bool s.mv]
def tl(s:aK):List D:=[.N s.path,.N (if s.mv then s.file else s.id),u 0,u (-1),.bool (!s.iso),.bool s.rock,.bool s.mv,u (if s.c_ then(s.di:Int)else -1)]
def pR(s:aK):D:=.agg (tl s)
def Dl(l:List aK)(i:Nat):List aK:=(l.drop 1).filter λx=>x.fi==i
def hW(l:List aK)(i:Nat):List D:=(Dl l i).map pR
def Dm(vs:Nat->Value)(e_:List aK)(i:Nat)(s:aK):D:=.agg (rl s++[.T (.own 0 (vs i)) 8 (hW e_ i)])
def hp(vs:Nat->Value)(e0 e_:List aK):List D:=(bM e0).mapIdx λi s=>Dm vs e_ i s
def e'(l:List aK):List D:=(ef l).map λs=>u (s.di:Int)
def kP(vs:Nat->Value)(e0 e_:List aK):bH:=λk=>if 300<=k/\k<300+(bM e0).length then some (.own (vs (k-300)) (hW e_ (k-300)).length 8 310)else none
def xF(fF bO fG:Nat):D:=.fn (.func 224) [] [.box 200 fF 0,.box 201 bO 0,.box 202 fG 0]
def Qq(fF bO fG:Nat)(b3 mv:Value)(b' cm:List D):List (Nat×aJ) :=
 [(200,.box fF [.am b3]),(201,.box bO [.T (.own 204 mv) 1 cm]),(202,.box fG [xF fF bO fG]),(203,.row b3 b' 7 305),(204,.own mv cm.length 1 3)]
def uK(fF bO fG:Nat)(b3 mv:Value)(vs:Nat->Value)(e0 e_:List aK):bH:=cV (Qq fF bO fG b3 mv (hp vs e0 e_) (e' e0)) (kP vs e0 e_)
theorem lP(vs:Nat->Value)(e0 e_:List aK):(hp vs e0 e_).length=(bM e0).length:=by simp[hp]
variable{e0 e_:List aK}
theorem GH{vs:Nat->Value}{s:aK}(h:(bM e0)[i]?=some s):(hp vs e0 e_)[i]?=some (Dm vs e_ i s):=by rw[hp,avI,h];rfl
theorem Qr{vs:Nat->Value}(h:i<(bM e0).length):kP vs e0 e_ (i+300)=some (.own (vs i) (hW e_ i).length 8 310):=by rw[kP,auO auD,Nat.add_sub_cancel]
theorem tm{vs:Nat->Value}{o:aJ}(h:kP vs e0 e_ k=some o):∃i,k=i+300/\i<(bM e0).length/\o=.own (vs i) (hW e_ i).length 8 310:=by unfold kP at h;split at h;rename_i h1;refine⟨k-300,by omega,by omega,?_⟩;exact(avB h).symm;cases h
variable{fF bO fG:Nat}{b3 mv:Value}
theorem anc{b' cm:List D}(h:k<200\/300<=k):aM (Qq fF bO fG b3 mv b' cm) k=none:=by refine HZ λp aw=>?_;simp only[Qq,au8,axe,axy]at aw;rcases aw with rfl|rfl|rfl|rfl|rfl<;>simp<;>omega
theorem Zw{vs:Nat->Value}(h:k<200):uK fF bO fG b3 mv vs e0 e_ k=none:=by rw[uK,Tl (anc (.inl h)),kP,auN auD]
def st(vs:Nat->Value)(i:Nat)(v:Value):Nat->Value:=λj=>if j=i then v else vs j
theorem Kf(vs:Nat->Value)(i:Nat)(v:Value):st vs i v i=v:=auO rfl
variable{j:Nat}{v:Value}
theorem Kg{vs:Nat->Value}(h:j≠i):st vs i v j=vs j:=auN h
theorem Dn{s:aK}(h:s.c_=true):bM (l++[s])=bM l++[s]:=by rw[bM,av7];simp[bM,h]
theorem Kh{s:aK}(h:s.c_=false):bM (l++[s])=bM l:=by rw[bM,av7];simp[bM,h]
theorem Zx{s:aK}(h:s.mv=true):ef (l++[s])=ef l++[s]:=by rw[ef,av7];simp[ef,h]
theorem Qs{s:aK}(h:s.mv=false):ef (l++[s])=ef l:=by rw[ef,av7];simp[ef,h]
theorem ane(h:∀x∈l,x.fi<i):hW l i=[]:=by rw[hW,Dl,axQ.2];rfl;intro x J;have:=h x (awU J);simp;omega
theorem Ki{s:aK}(h0:0<l.length)(i:Nat):hW (l++[s]) i=if s.fi=i then hW l i++[pR s]else hW l i:=by rw[hW,hW,Dl,Dl,awZ auD,av7];by_cases h:s.fi=i<;>simp[h]
theorem anf{vs:Nat->Value}{s:aK}(h:s.c_=true)(af:hW e_ (bM l).length=[]): hp vs l e_++[.agg (rl s++[.T (.own 0 v) 8 []])]=hp (st vs (bM l).length v) (l++[s]) e_:=by apply av2;intro i;rcases au6 i (bM l).length with hi|hi;rw[au3 (by rw[lP];exact hi),hp,hp,avI,avI,Dn h,au3 hi,auR hi];simp only[av5,Dm,Kg (show i≠(bM l).length by omega)];rcases au6 (bM l).length i with aS|aS;rw[au0 (by simp[lP];omega),au0 (by rw[lP,Dn h];simp;omega)];(have:i=(bM l).length:=by omega);subst this;have e:(hp vs l e_).length=(bM l).length:=lP _ _ _;rw[avl auD,e,axt,GH (s:=s) (by rw[Dn h,awN])];simp only[List.getElem?_cons_zero,Dm,Kf,af]
theorem Zy(a b:List D):b4 (a++b)=b4 a++b4 b:=by simp[b4]
theorem Qt{vs:Nat->Value}:∀y∈hp vs e0 e_,y.cells.length=7:=λy hy=>by
 obtain⟨i,hi⟩:=avd.1 hy;rw[hp,avI]at hi
 cases h:(bM e0)[i]? with
 |none=>rw[h]at hi;cases hi
 |some s=>rw[h]at hi;cases hi;rfl
theorem ft.A9{bi:Bool}{n:U}(G:ft bi n l){s:aK}(hs:l[s.si]?=some s)(O:s.c_=true):(bM l)[s.di]?=some s/\s.di<(bM l).length:=by obtain⟨j,ad⟩:=avd.1 (avy.2 ⟨au5 hs,O⟩:s∈bM l);have:=G.Ke j s ad;subst this;refine⟨ad,?_⟩;rcases au6 s.di (bM l).length with h|h;exact h;exact absurd ((au0 h).symm.trans ad) auF
theorem ft.lv{bi:Bool}{n:U}{l:List aK}(G:ft bi n l):∀(i:Nat) (s:aK),l[i]?=some s->1<=s.lv/\(i=0->s.lv=1)/\(0<i->2<=s.lv)/\(0<i->s.c_=true->0<s.di):=by intro i;induction i using Nat.strongRecOn with|_ i aV =>intro s hs;rcases avA i with rfl|hi;rw[G.tk.1]at hs;cases hs;exact⟨avK _,λ_=>rfl,λh=>by omega,λh=>by omega⟩;obtain⟨p,a1⟩:=G.at hi hs;have bg:=a1.ab;rw[au9]at bg;(have aw:l[s.ab]?=some p:=azk);obtain⟨h1,_,_,_⟩:=aV s.ab auD p aw;have aj:=a1.lv;refine⟨by omega,λh=>by omega,λ_=>by omega,λ_ O=>?_⟩;rw[a1.di];have h0:=G.tk.1;have Z:=G.kind;(have:cT bi n∈l.take i:=by have:=au5 (l:=l.take i) (i:=0) (a:=cT bi n) (by rw[avE,auO hi];exact h0);exact this);exact axq (avy.2 ⟨this,by rw[aK.c_,cT,Z];rfl⟩)
theorem ft.Kj{bi:Bool}{n:U}(G:ft bi n l):∀x∈l,x.fi<(bM l).length:=λx J=>by
 obtain⟨i,hi⟩:=avd.1 J;rcases avA i with rfl|h0
 ·rw[G.tk.1]at hi;cases hi
  have:=G.kind;exact axq (avy.2 ⟨au5 G.tk.1,by rw[aK.c_,cT,this];rfl⟩)
 obtain⟨p,a1⟩:=G.at h0 hi;have bg:=a1.ab;rw[au9]at bg
 have aw:l[x.ab]?=some p:=by
  have:=a1.dp
  rwa [avE,auO auD]at this
 rw[a1.fi];have sa:=G.si aw;exact(G.A9 (by rw[sa];exact aw) a1.bc).2
variable{d:D}{xs:List D}
theorem Zz{b:Bool}(h:k<xs.length):(k:Int)<((bif b then xs.set i d else xs).length:Int):=by cases b<;>simp only[awo,avZ,awc]<;>exact aw8.2 h
theorem ZA{b:Bool}(h:k<xs.length):k<(bif b then xs.set i d else xs).length:=by cases b<;>simp only[awo,avZ,awc]<;>exact h
variable{cx:bH}
theorem y8{L:List (Nat×aJ)}(aX:(L.all λp=>Nat.blt p.1 300)=true)(Z:300<=k):cV L cx k=cx k :=
 Tl (HZ λp aw=>by
  have:=avz.1 aX p aw;have:p.1<300:=by simpa using this
  omega)
def Do(d:Nat)(cx:bH):bH:=λk=>if k=d+300 then none else cx k
theorem Qu{d:Nat}{vs:Nat->Value}{o:aJ}(h:Do d (kP vs e0 e_) k=some o):k≠d+300/\300<=k/\kP vs e0 e_ k=some o:=by unfold Do at h;split at h;cases h;rename_i h1;obtain⟨i,rfl,_,_⟩:=tm h;exact⟨h1,by omega,h⟩
theorem ang{vs:Nat->Value}{o:aJ}(h:kP vs e0 e_ k=some o):300<=k:=by obtain⟨i,rfl,_,_⟩:=tm h;omega
theorem anh{vs:Nat->Value}{s x:aK}(rm:(bM (l++[s]))[x.di]?=some x)(wh:s.fi=x.di)(r_:0<l.length):
  ∀(i:Nat) (a b:D),((hp vs (l++[s]) l).set x.di (.agg (iD (rl x++[.T (.own 0 (vs x.di)) 8 (hW l x.di)]) 6 (.T (.own 148 v) 8 (hW l x.di++[pR s])))))[i]?=some a->
   (hp (st vs x.di v) (l++[s]) (l++[s]))[i]?=some b->dO a.cells b.cells:=λi a b ha G=>by
 have bg:x.di<(bM (l++[s])).length:=by
  rcases au6 x.di (bM (l++[s])).length with h|h
  ·exact h
  rw[au0 h]at rm;cases rm
 by_cases hi:x.di=i
 ·subst hi;rw[aw3 (by rw[lP];exact bg)]at ha;rw[GH rm]at G;cases ha;cases G
  simp only[Dm,Kf,Ki r_,auO wh];exact⟨E,E,E,E,E,E,ap.own _ _,ak⟩
 rw[ax6 hi]at ha;rw[hp,avI]at ha G
 cases h:(bM (l++[s]))[i]? with
 |none=>rw[h]at ha;cases ha
 |some y =>
  rw[h]at ha G;cases ha;cases G
  simp only[Dm,Kg (show i≠x.di from λe=>hi e.symm),Ki r_,auN (show¬s.fi=i by omega)];exact dO.refl _
theorem ani{H:bH}{d:Nat}(ZB:H 148=none):∀k bE o bN,H k=some o->H bE=some bN->(if k=d+300 then 148 else k)=(if bE=d+300 then 148 else bE)->k=bE:=λk bE o bN h bt e=>by
 by_cases h1:k=d+300<;>by_cases A:bE=d+300
 ·omega
 ·rw[auO h1,auN A]at e;rw[<-e,ZB]at bt;cases bt
 ·rw[auN h1,auO A]at e;rw[e,ZB]at h;cases h
 rw[auN h1,auN A]at e;exact e
variable{z:av}
theorem anj{L:List (Nat×aJ)}{vs:Nat->Value}{s x:aK}(aX:(L.all λp=>Nat.blt p.1 300)=true)(gU:mI z L)(X:z.H 148=some (.own v ((hW l x.di).length+1) 8 310))
  (O:∀k o,Do x.di (kP vs (l++[s]) l) k=some o->z.H k=some o) (wh:s.fi=x.di) (r_:0<l.length) :
  ∀k o,cV L (kP (st vs x.di v) (l++[s]) (l++[s])) k=some o->z.H (if k=x.di+300 then 148 else k)=some o:=λk o h=>by
 unfold cV at h
 cases aj:aM L k with
 |some bN =>
  rw[aj]at h;cases h
  have Z:k<300:=by
   rcases au6 k 300 with h1|h1
   ·exact h1
   have:aM L k=none:=HZ λp aw=>by
    have:=avz.1 aX p aw;have:p.1<300:=by simpa using this
    omega
   rw[this]at aj;cases aj
  rw[auN auD];exact gU.aM k _ aj
 |none =>
  rw[aj]at h;obtain⟨i,rfl,hi,rfl⟩:=tm h;by_cases Dp:i=x.di
  ·subst Dp;rw[auO rfl,X,Kf,Ki r_,auO wh];simp
  rw[auN auD];refine O _ _ ?_;rw[Do,auN auD,Qr hi,Kg Dp,Ki r_,auN auD]
def A_:pn:=pn.same λk=>Nat.ble 200 k
theorem ank{H:bH}{vs:Nat->Value}(h:∀k,200<=k->H k=uK fF bO fG b3 mv vs e0 e_ k):x8 H A_=uK fF bO fG b3 mv vs e0 e_:=by funext k;unfold x8 A_ pn.same;cases Z:Nat.ble 200 k with|true=>simp only[Z,awo];exact h k (avj Z)|false =>simp only[Z,avZ];(have:k<200:=by rcases au6 k 200 with h1|h1;exact h1;rw[ax2 h1]at Z;cases Z);exact(Zw this).symm
variable{aO:bH}
theorem anl{H:bH}(Z:200<=k):BR H aO A_ k=aO k:=by unfold BR A_ pn.same;simp only[ax2 Z,awo]
theorem Kk{vs:Nat->Value}{o:aJ}(h:uK fF bO fG b3 mv vs e0 e_ k=some o):200<=k:=by rcases au6 k 200 with h1|h1;rw[Zw h1]at h;cases h;exact h1
theorem ZC{a b:Nat×aJ}{L:List (Nat×aJ)}(ha:a.1<200)(G:b.1<200)(Z:200<=k):cV (a::b::L) cx k=cV L cx k:=by obtain⟨i,o⟩:=a;obtain⟨j,bN⟩:=b;(have h1:Nat.beq k i=false:=ayM);(have A:Nat.beq k j=false:=by cases h:Nat.beq k j with|false=>rfl|true=>have:=awI h;simp at G;omega);unfold cV;simp only[aM,h1,A,avZ]
theorem anm{s:aK}(O:s.c_=false)(hm:s.mv=false):tl s=[.N s.path,.N s.id,u 0,u (-1),.bool (!s.iso),.bool s.rock,.bool false,u (-1)]:=by rw[tl,O,hm];rfl
theorem ann{s:aK}(O:s.c_=true)(hm:s.mv=false):tl s=[.N s.path,.N s.id,u 0,u (-1),.bool (!s.iso),.bool s.rock,.bool false,u (s.di:Int)]:=by rw[tl,O,hm];rfl
theorem ano{s:aK}(O:s.c_=true)(hm:s.mv=true):tl s=[.N s.path,.N s.file,u 0,u (-1),.bool (!s.iso),.bool s.rock,.bool true,u (s.di:Int)]:=by rw[tl,O,hm];rfl
theorem anp{s:aK}(hs:s.si≠0)(hm:s.mv=false):rl s=[.N s.path,.N s.id,u s.lev,u (s.fi:Int),u (s.fi:Int),.bool false]:=by rw[rl,auN hs,hm];rfl
theorem anq{s:aK}(hs:s.si≠0)(hm:s.mv=true):rl s=[.N s.path,.N (68::Lib.decDigits s.mno),u s.lev,u (-1),u (s.fi:Int),.bool true]:=by rw[rl,auN hs,hm];rfl
theorem anr{vs:Nat->Value}{s:aK}(h:s.c_=false):hp vs (l++[s]) e_=hp vs l e_:=by rw[hp,hp,Kh h]
theorem ans{vs:Nat->Value}{s:aK}(h:s.c_=false):kP vs (l++[s]) e_=kP vs l e_:=by funext k;rw[kP,kP,Kh h]
theorem ant{vs:Nat->Value}{s:aK}(h:s.c_=true){o:aJ}(Z:kP (st vs (bM l).length v) (l++[s]) e_ k=some o): (k=(bM l).length+300/\o=.own v (hW e_ (bM l).length).length 8 310)\/(k≠(bM l).length+300/\kP vs l e_ k=some o):=by obtain⟨i,rfl,hi,rfl⟩:=tm Z;rw[Dn h,auV]at hi;by_cases e:i=(bM l).length;subst e;rw[Kf];exact .inl ⟨rfl,rfl⟩;rw[Kg e,Qr (by simp at hi;omega)];exact .inr ⟨by omega,rfl⟩
theorem Dq:∀{m:List (Nat×Nat)} {k s:Nat},j4 m=true->(k,s)∈m->m.lookup k=some s
 |(a,b)::r,k,s,hm,h=>by rcases au8.1 h with e|bt;cases e;simp[List.lookup];have h1:=wL hm a b k s auY h;(have af:j4 r=true:=by simp only[j4,auQ]at hm;exact hm.2);(have aZ:(k==a)=false:=by rw[avv];intro e;have A:=h1.1 e.symm;simp only[j4,auQ,avz,awY]at hm;have aa:=(hm.1 (k,s) bt).1;rw[e,av9]at aa;cases aa);rw[List.lookup,aZ];exact Dq af bt
variable{m:List (Nat×Nat)}
theorem fQ.zf{l:List (Nat×D)}{L:List (Nat×aJ)}(h1:jD z l)(ok:j4 m=true)(gT:tO z m L)(hm:(m.all λp=>Nat.blt p.1 300&&Nat.blt p.2 300)=true)(O:∀k o,cx k=some o->300<=k/\z.H k=some o):fQ z l (cV L cx):=by(have bg:∀k s,(k,s)∈m->k<300/\s<300:=λk s h=>by have:=avz.1 hm _ h;simpa using this);(have key:∀k o,cV L cx k=some o->(∃s,(k,s)∈m/\z.H s=some o)\/(300<=k/\z.H k=some o):=λk o h=>by unfold cV at h;cases aj:aM L k with|some bN=>rw[aj]at h;cases h;exact .inl (gT.aM k _ aj)|none=>rw[aj]at h;exact .inr (O k o h));refine⟨h1,λk=>if 300<=k then k else(m.lookup k).getD 0,λk bE o bN h bt e=>?_,λk o h=>?_⟩;dsimp only at e;rcases key k o h with⟨s,hs,_⟩|⟨A,_⟩<;>rcases key bE bN bt with⟨bp,dn,_⟩|⟨yl,_⟩;have aa:=(bg k s hs).1;have aty:=(bg bE bp dn).1;rw[auN auD,auN auD,Dq ok hs,Dq ok dn]at e;exact(wL ok k s bE bp hs dn).2 e;have aa:=bg k s hs;rw[auN auD,auO yl,Dq ok hs]at e;simp at e;omega;have aa:=bg bE bp dn;rw[auO A,auN auD,Dq ok dn]at e;simp at e;omega;rw[auO A,auO yl]at e;exact e;dsimp only;rcases key k o h with⟨s,hs,aa⟩|⟨A,aa⟩;have aF:=(bg k s hs).1;rw[auN auD,Dq ok hs];exact aa;rw[auO A];exact aa
variable{al:Nat}{K:cM->av->Prop}{c:Code}
theorem Y.anu{W:b5 Tryz.prog B al}(l:α->List (Nat×D))(H:α->bH)(h:∀Q,Y W c (rR (l Q) (H Q)) K)(g:(∀Q,Y W c (rR (l Q) (H Q)) K)->Y W c z K):Y W c z K:=g h
variable{f:FuncId}{ds:List D}{a6:D->bH->Prop}
theorem c8.fJ{H:bH}{vs:Nat->Value}(h:∀k,200<=k->H k=uK fF bO fG b3 mv vs e0 e_ k)(hc:c4 B f ds (uK fF bO fG b3 mv vs e0 e_) a6):c4 B f ds (x8 H A_) a6:=by rw[ank h];exact hc
theorem ZD:∀{l:List U},(∀k∈l,rk k)->ti l
 |[],_=>trivial
 |k::r,h=>⟨h k auY,ZD λx J=>h x (auZ _ J)⟩
theorem ZE(m:auM)(b:Bool):(kk m b).1.length<=m.length+3:=by unfold kk;split;split;simp;split<;>simp;simp
theorem ZF(aX:dk B)(bi:Bool)(ia:U):∀(bA:Nat) (n:U),aB n<bA->gZ n->rk n->∀(x:aK) (c:ex) (kQ:List aK) (fF bO fG:Nat) (b3 mv:Value) (vs:Nat->Value),x.n=n->ft bi ia kQ->kQ[x.si]?=some x->x.c_=true->tj c kQ->kQ.length+fd n<100->x.path.length+1200*aB n<1000000000->x.lv+aB n<1000000000->c4 B 224 [az n,u (x.di:Int),u x.lv,.bool x.iso,.bool x.rock,.box 200 fF 0,.box 201 bO 0,.box 202 fG 0] (uK fF bO fG b3 mv vs kQ kQ) λd aO=>d=.bm []/\∃te anv gv,aO=uK fF bO fG te anv gv (kQ++fA n x c) (kQ++fA n x c):=by refine λbA=>Nat.rec (λn h=>absurd h (av_ _)) (λbA aV n hN cD xG x c kQ fF bO fG b3 mv vs ze G J zg jn hlen dh GI=>?_) bA;obtain⟨hF,_,my,xi⟩:=(sc n).1 cD;have ZG:=((Kc n).1 xG).2;have GJ:∀k∈n.F,dS k.name=true/\k.name.length<1000000000:=λk Z=>(q6 xi Z).1;have ky:=om 0 n.F;have BY:=EK n;obtain⟨atz,_⟩:=G.lv _ _ J;(have anw:x.si<kQ.length:=by rcases au6 x.si kQ.length with h|h;exact h;rw[au0 h]at J;cases J);(have anx:kQ++e9 (n.F.take 0) ((cd 0 n.F).take 0) x c=kQ:=by simp[e9]);refine jI Tryz.func224 Tryz.ntmps224 λW=>?_;refine cc ?_;intro cG;refine kB ?_;refine⟨[u 0,.T .none 12 (n.F.map enc)],_,λ_=>((OG aX (v:=0) auG).call n.F hF my GJ).1,an,?_⟩;refine gK ?_;apply n1;refine Y.HL (α:={i:Nat // i<=n.F.length}×Value×Value×(Nat->Value)) (λQ=>[(1,u (x.di:Int)),(2,u x.lv),(3,.bool x.iso),(4,.bool x.rock),(5,.box 200 fF 0),(6,.box 201 bO 0),(7,.box 202 fG 0),(13,.T .none 1 (aQ (cd 0 n.F))),(33,.T .none 12 (n.F.map enc)),(34,u (n.F.map enc).length),(35,u (Q.1.1:Int))]) (λQ=>uK fF bO fG Q.2.1 Q.2.2.1 Q.2.2.2 (kQ++e9 (n.F.take Q.1.1) ((cd 0 n.F).take Q.1.1) x c) (kQ++e9 (n.F.take Q.1.1) ((cd 0 n.F).take Q.1.1) x c)) (λQ=>n.F.length-Q.1.1) (⟨0,au7 _⟩,b3,mv,vs) (.same an (λq o h=>by rw[anx]at h;exact(mK _ _ (by have:=Kk h;omega)).trans h)) ?_;rintro⟨⟨i,hi⟩,b3,mv,vs⟩;(try dsimp only);apply b1;apply eh;refine aI (decide ((i:Int)<(n.F.map enc).length)) rfl ?_ ?_<;>intro hc;(·refine eY ?_;(have aG:i<n.F.length:=by simpa using hc);(have CZ:i<(cd 0 n.F).length:=by omega);obtain⟨bL,bY,vY⟩:=Zn hF (λk Z=>(GJ k Z).1) aG;have Of:=qT aG;have atA:=Zp aG;have fe:=Kb (n.F.take i) ((cd 0 n.F).take i) x c;have c2:=auP (λQ=>kQ++Q) (Qi x aG CZ c);(try dsimp only at c2);rw[<-avr]at c2;have j_:=auT aG;have fg:ft bi ia (kQ++e9 (n.F.take i) ((cd 0 n.F).take i) x c):=Kd bi ia _ _ x c kQ G zg (λk Z=>by rw[ze];exact avO Z) (ZD λk Z=>Qk ZG (avO Z)) J jn;have ZH:=jn.iQ (m:=e9 (n.F.take i) ((cd 0 n.F).take i) x c);(have ih:(kQ++e9 (n.F.take i) ((cd 0 n.F).take i) x c)[x.si]?=some x:=by rw[au3 anw];exact J);(have mO:(kQ++e9 (n.F.take i) ((cd 0 n.F).take i) x c).length<=kQ.length+eQ (n.F.take i):=by rw[auV];omega);have pg:(n.F.map enc)[i]?=some (az n.F[i]):=rU aG;have AU:gZ n.F[i]:=(q6 xi j_).2;have ZI:rk n.F[i]:=Qk ZG j_;have gd:=(GJ _ j_).2;(have anz:n.F[i]∈x.n.F:=by rw[ze];exact j_);have anA:=Qm (k:=n.F[i]) (m:=(cd 0 n.F)[i]) ih zg ZH anz;have atB:=vY.len;(have ZJ:(aQ (cd 0 n.F))[i]?=some (.N (cd 0 n.F)[i]):=by simp[aQ,CZ]);generalize n.F[i]=k at*;generalize(cd 0 n.F)[i]=m at*;generalize kQ++e9 (n.F.take i) ((cd 0 n.F).take i) x c=l at*;generalize c.iQ (e9 (n.F.take i) ((cd 0 n.F).take i) x c)=ea at*;have pi:(bX x k m ea).n=k:=rfl;have Qv:(bX x k m ea).path=below x.path k.name (x.lv+1):=rfl;have Kl:(bX x k m ea).id=(kk m (k.kind==0)).1:=rfl;have anB:(bX x k m ea).file=(kk m false).1:=rfl;have anC:(bX x k m ea).iso=(x.iso&&kb 0 k (x.lv+1)):=rfl;have anD:(bX x k m ea).rock=(x.rock&&kb 2 k (x.lv+1)):=rfl;have anE:(bX x k m ea).lv=x.lv+1:=rfl;have Qw:(bX x k m ea).c_=(k.kind==0):=rfl;have ZK:(bX x k m ea).any=((bX x k m ea).iso||(bX x k m ea).rock):=rfl;generalize bX x k m ea=s at*;have atC:=B3 x.path k.name (x.lv+1);have atD:=ZE m (k.kind==0);have wi:=ZE m false;obtain⟨rm,A'⟩:=fg.A9 ih zg;have r_:0<l.length:=fg.tk.2;have atE:=fg.lev _ _ ih;refine vg ?_;refine⟨az k,λ_=>pg,?_⟩;(conv=>whnf);intro m';apply cj;refine gK ?_;refine mR ?_;refine .inl ⟨λh=>by simp[dz];omega,?_⟩;refine hd ?_;refine⟨[u 0,az k,u (x.lv+1)],_,λh=>Fg 0 k (x.lv+1),an,?_⟩;refine tV ?_;refine gK ?_;refine mR ?_;refine .inl ⟨λh=>by simp[dz];omega,?_⟩;apply g';refine mR ?_;refine⟨[u 2,az k,u (x.lv+1)],_,λh=>Fg 2 k (x.lv+1),an,?_⟩;refine tV ?_;(conv=>whnf);rw[show(bif x.iso then kb 0 k (x.lv+1)else false)=s.iso by rw[jv,anC],show(bif x.rock then kb 2 k (x.lv+1)else false)=s.rock by rw[jv,anD]];refine gj ?_;refine il ?_;refine aI _ rfl ?_ ?_<;>intro hc;(·refine Y.exit ?_;refine ml ?_;(have fx:¬s.any=true:=ayE);rw[auN fx,avC]at c2;exact⟨(⟨i+1,aG⟩,b3,mv,vs),by show _-(i+1)<_-i;omega,.same an (λq o h=>by dsimp only at h;rw[c2]at h;have:=Kk h;exact(mK _ _ auD).trans ((mK _ _ auD).trans h))⟩);refine eY ?_;(have we:s.any=true:=ayE);rw[auO we]at c2;(have ZL:kQ++e9 (List.take (i+1) n.F) (List.take (i+1) (cd 0 n.F)) x c=(l++[s])++fA k s (ea.add s):=by rw[c2];simp);clear c2;have c2:=ZL;clear ZL;have a1:=anA we;have anF:=fg.wg a1;(have anG:(l++[s])[s.si]?=some s:=by rw[a1.si];simp);have sV:¬k.kind=0->k.F=[]:=((Kc k).1 ZI).1;have anH:=fg.Kj;refine np ?_;apply cj;refine jp ?_;refine⟨rfl,ak,.inr (ah.eG aN 203 rfl rfl rfl rfl rfl rfl rfl auD (by rw[lP];exact aw8.2 A') ?_)⟩;(conv=>whnf);refine⟨rfl,ak,.inr (ah.js aN 203 (i:=x.di) rfl rfl (by rw[lP];exact A') rfl rfl rfl auG ?_)⟩;(conv=>whnf);refine⟨rfl,ak,.inr (ah.mh aN 203 (i:=x.di) auJ rfl rfl (GH rm) ?_)⟩;refine jp ?_;intro Qx;apply ei;apply cj;refine kB ?_;refine Y.HK (α:=Unit) (λ_=>[(1,u (x.di:Int)),(2,u x.lv),(3,.bool x.iso),(4,.bool x.rock),(5,.box 200 fF 0),(6,.box 201 bO 0),(7,.box 202 fG 0),(13,.T .none 1 (aQ (cd 0 n.F))),(33,.T .none 12 (n.F.map enc)),(34,u (n.F.map enc).length),(35,u (i:Int)),(15,u (i:Int)),(16,.box 16 m' 0),(17,.bool s.iso),(18,.bool s.rock),(19,.box 19 Qx 0),(20,.N s.path)]) (λ_=>cV [(16,.box m' [.N k.name,u k.kind,.N k.cU,.N k.target,u k.cu,u k.n2,u k.n3,u k.n4,u k.n5,u k.n6,.T .none 12 (k.F.map enc),.T .none 2 (k.bD.map cW)]),(19,.box Qx (rl x)),(200,.box fF [.am b3]),(201,.box bO [.T (.own 204 mv) 1 (e' l)]),(202,.box fG [xF fF bO fG]),(203,.row b3 (hp vs l l) 7 305),(204,.own mv (e' l).length 1 3)] (kP vs l l)) ?_ ?_;apply b1;refine aI (decide ((0:Int)<(x.di:Int))) rfl ?_ ?_<;>intro hc;apply jH;refine ej ?_;refine nn ?_;refine k2 ?_;(have ZM:0<x.di:=by simpa using hc);(have Qy:¬x.lv+1<=2:=by rcases avA x.si with h|h;rw[h,fg.tk.1]at ih;cases ih;exact absurd ZM (axW 0);have:=(fg.lv _ _ ih).2.2.1 h;omega);exact⟨(),fQ.zf (m:=[(16,16),(19,19),(200,200),(201,201),(202,202),(203,203),(204,204)]) ⟨E,E,E,E,E,E,E,E,E,E,E,E,E,E,E,E,ap.of_eq (auP D.N (by rw[Qv,below,auN Qy])),ak⟩ rfl ⟨rfl,a_⟩ rfl (λq o h=>ay9)⟩;refine eY ?_;(have ZM:x.di=0:=by simp at hc;omega);(have Qy:x.lv+1<=2:=by rcases avA x.si with h|h;have:=(fg.lv _ _ ih).2.1 h;omega;have:=(fg.lv _ _ ih).2.2.2 h zg;omega);exact⟨(),fQ.zf (m:=[(16,16),(19,19),(200,200),(201,201),(202,202),(203,203),(204,204)]) ⟨E,E,E,E,E,E,E,E,E,E,E,E,E,E,E,E,ap.of_eq (auP D.N (by rw[Qv,below,auO Qy])),ak⟩ rfl ⟨rfl,a_⟩ rfl (λq o h=>ay9)⟩;rintro⟨⟩;refine kB ?_;rw[<-Qw];refine cc ?_;refine⟨λ_=>by simp[aQ];omega,?_⟩;(conv=>whnf);refine⟨.N m,λ_=>ZJ,?_⟩;(conv=>whnf);refine⟨[.N m,.bool (k.kind==0)],_,λ_=>Xx aX m _ auD,⟨E,ap.of_eq (auP D.bool Qw),ak⟩,?_⟩;(conv=>whnf);rw[<-Kl];refine cc ?_;intro su;refine ej ?_;refine Y.HK (α:=Value×Value×Nat) (λ_=>[(1,u (x.di:Int)),(2,u x.lv),(3,.bool x.iso),(4,.bool x.rock),(5,.box 200 fF 0),(6,.box 201 bO 0),(7,.box 202 fG 0),(13,.T .none 1 (aQ (cd 0 n.F))),(33,.T .none 12 (n.F.map enc)),(34,u (n.F.map enc).length),(35,u (i:Int)),(15,u (i:Int)),(16,.box 16 m' 0),(17,.bool s.iso),(18,.bool s.rock),(21,.bool s.c_),(24,.box 24 su 0)]) (λQ=>cV [(16,.box m' [.N k.name,u k.kind,.N k.cU,.N k.target,u k.cu,u k.n2,u k.n3,u k.n4,u k.n5,u k.n6,.T .none 12 (k.F.map enc),.T .none 2 (k.bD.map cW)]),(24,.box su (tl s)),(200,.box fF [.am Q.1]),(201,.box bO [.T (.own Q.2.2 Q.2.1) 1 (e' (l++[s]))]),(202,.box fG [xF fF bO fG]),(203,.row Q.1 (if s.c_ then hp vs l l++[.agg (rl s++[.bd])]else hp vs l l) 7 305),(204,.own Q.2.1 (e' (l++[s])).length 1 3)] (kP vs l l)) ?_ ?_;apply b1;refine Y.cond s.c_ rfl (λO=>?_) (λO=>?_);refine gK ?_;refine lq ?_;intro atF;apply cj;refine np ?_;refine ej ?_;refine⟨rfl,ak,.inr (ah.sK aN 203 rfl rfl rfl rfl ?_)⟩;apply ei;apply ei;refine ej ?_;(have dg:((hp vs l l).length:Int)=(s.di:Int):=by rw[lP,a1.di]);rw[dg];refine oK ?_;refine aI (decide ((8:Int)<x.lev+1)) rfl ?_ ?_<;>intro hc;refine gK ?_;refine ej ?_;refine mm ?_;refine⟨by show(_+_)*8<=_;rw[e',auS];have:=avn aK.mv l;simp only[avc,awp,auX,avh];unfold ef;omega,by show _+_<=_;rw[e',auS];have:=avn aK.mv l;simp only[avc,awp,auX,avh];unfold ef;omega,auK,λv=>?_⟩;apply cj;refine kB ?_;(have Qz:((e' l++[u (s.di:Int)]).length:Int)=(s.mno:Int):=by rw[auV,e',auS,a1.mno];rfl);(have ZN:s.mno<100:=by rw[a1.mno];have:=avn aK.mv l;unfold ef;omega);have atG:=Zo s.mno ZN;refine⟨[u (s.mno:Int)],_,λ_=>Ol s.mno ZN,⟨dx Qz,ak⟩,?_⟩;(conv=>whnf);refine nn ?_;apply cj;apply cj;apply cj;apply cj;refine cc ?_;refine⟨λ_=>by simp[aQ];omega,?_⟩;(conv=>whnf);refine⟨.N m,λ_=>ZJ,?_⟩;(conv=>whnf);refine⟨[.N m,.bool false],_,λ_=>Xx aX m _ auD,an,?_⟩;apply cj;apply jH;refine ej ?_;refine tW ?_;apply cj;apply ei;apply cj;apply ei;refine jp ?_;refine oJ ?_;refine⟨rfl,ak,.inr (ah.ph aN 203 rfl rfl rfl auK rfl rfl rfl (awV) (by show(_+1)*88<=_;exact aza) (by show _+1<=_;exact aza) λbS yU cap=>?_)⟩;apply ei;refine ej ?_;(have f1:x.lev=8:=by have hP:(8:Int)<x.lev+1:=(by simpa using hc);omega);(have gu:s.mv=true:=by rw[a1.mv,O,f1];rfl);(have QA:s.lev=3:=by rw[a1.lev,O,auO rfl,auO auD]);(have QB:s.si≠0:=by rw[a1.si];omega);(have uL:e' l++[u (s.di:Int)]=e' (l++[s]):=by rw[e',e',Zx gu,avo];rfl);exact⟨(.slice bS yU cap,v,113),fQ.zf (m:=[(16,16),(24,24),(200,200),(201,201),(202,202),(203,138),(204,113)]) an rfl ⟨rfl,rfl,rfl,auP (λQ=>some (aJ.box su Q)) (by rw[ano O gu,anB];rfl),rfl,rfl,rfl,auP (λQ=>some (aJ.box bO [.T (.own 113 v) 1 Q])) uL,rfl,rfl,rfl,auP (λQ=>some (aJ.row (.slice bS yU cap) Q 7 305)) (by rw[auO O,anq QB gu,QA,a1.fi];rfl),rfl,auP (λQ:Nat=>some (aJ.own v Q 1 3)) (by rw[<-uL,auV];rfl),ak⟩ rfl (λq o h=>ay9)⟩;refine eY ?_;refine tW ?_;apply cj;apply ei;apply cj;apply ei;refine jp ?_;refine oJ ?_;refine⟨rfl,ak,.inr (ah.ph aN 203 rfl rfl rfl auK rfl rfl rfl (awV) (by show(_+1)*88<=_;exact aza) (by show _+1<=_;exact aza) λbS yU cap=>?_)⟩;apply ei;refine ej ?_;(have f1:x.lev+1≠9:=by have hP:¬(8:Int)<x.lev+1:=(by simpa using hc);omega);(have gu:s.mv=false:=by rw[a1.mv,O,axC,avv];exact f1);(have QA:s.lev=x.lev+1:=by rw[a1.lev,O,auO rfl,auN f1]);(have QB:s.si≠0:=by rw[a1.si];omega);(have uL:e' l=e' (l++[s]):=by rw[e',e',Qs gu]);exact⟨(.slice bS yU cap,mv,204),fQ.zf (m:=[(16,16),(24,24),(200,200),(201,201),(202,202),(203,138),(204,204)]) an rfl ⟨rfl,rfl,rfl,auP (λQ=>some (aJ.box su Q)) (by rw[ann O gu];rfl),rfl,rfl,rfl,auP (λQ=>some (aJ.box bO [.T (.own 204 mv) 1 Q])) uL,rfl,rfl,rfl,auP (λQ=>some (aJ.row (.slice bS yU cap) Q 7 305)) (by rw[auO O,anp QB gu,QA,a1.fi];rfl),rfl,auP (λQ:List D=>some (aJ.own mv Q.length 1 3)) uL,ak⟩ rfl (λq o h=>ay9)⟩;refine eY ?_;(have gu:s.mv=false:=by rw[a1.mv,O];rfl);(have uL:e' l=e' (l++[s]):=by rw[e',e',Qs gu]);exact⟨(b3,mv,204),fQ.zf (m:=[(16,16),(24,24),(200,200),(201,201),(202,202),(203,203),(204,204)]) an rfl ⟨rfl,rfl,rfl,auP (λQ=>some (aJ.box su Q)) (by rw[anm O gu];rfl),rfl,rfl,rfl,auP (λQ=>some (aJ.box bO [.T (.own 204 mv) 1 Q])) uL,rfl,rfl,rfl,auP (λQ=>some (aJ.row b3 Q 7 305)) (by rw[auN (by rw[O];decide)]),rfl,auP (λQ:List D=>some (aJ.own mv Q.length 1 3)) uL,ak⟩ rfl (λq o h=>ay9)⟩;rintro⟨nM,uM,mW⟩;have atH:=rm;refine Y.anu (α:={l':Nat->Value // (bM (l++[s]))[x.di]?=some x/\x.di<(bM (l++[s])).length}) (λ_=>[(1,u (x.di:Int)),(2,u x.lv),(3,.bool x.iso),(4,.bool x.rock),(5,.box 200 fF 0),(6,.box 201 bO 0),(7,.box 202 fG 0),(13,.T .none 1 (aQ (cd 0 n.F))),(33,.T .none 12 (n.F.map enc)),(34,u (n.F.map enc).length),(35,u (i:Int)),(15,u (i:Int)),(16,.box 16 m' 0),(17,.bool s.iso),(18,.bool s.rock),(21,.bool s.c_),(24,.box 24 su 0)]) (λQ=>cV [(16,.box m' [.N k.name,u k.kind,.N k.cU,.N k.target,u k.cu,u k.n2,u k.n3,u k.n4,u k.n5,u k.n6,.T .none 12 (k.F.map enc),.T .none 2 (k.bD.map cW)]),(24,.box su (tl s)),(200,.box fF [.am nM]),(201,.box bO [.T (.own 204 uM) 1 (e' (l++[s]))]),(202,.box fG [xF fF bO fG]),(203,.row nM (hp Q.1 (l++[s]) l) 7 305),(204,.own uM (e' (l++[s])).length 1 3)] (kP Q.1 (l++[s]) l)) ?_ (λZO=>?_);rotate_left;refine Y.jo 201 (dA:=[.T (.own 204 uM) 1 (e' (l++[s]))]) rfl ⟨ap.own _ _,ak⟩ ?_;by_cases O:s.c_=true;have ZP:hW l (bM l).length=[]:=ane anH;have jm:=anf (vs:=vs) (l:=l) (e_:=l) (s:=s) (v:=.slice none 0 0) O ZP;refine Y.vk 203 (bl:=hp (st vs (bM l).length (.slice none 0 0)) (l++[s]) l) rfl (by rw[auO O,<-jm,auV,auV];rfl) Qt (by rw[auO O,<-jm,Zy,Zy];exact dO.l2 (dO.refl _) ⟨E,E,E,E,E,E,ap.vb,ak⟩) ?_;refine Y.tR ((bM l).length+300) 8 310 ?_;refine Y.jK _ _ ?_ (ZO ⟨st vs (bM l).length (.slice none 0 0),by rw[Dn O,au3 A'];exact rm,by rw[Dn O,auV];omega⟩);refine fQ.zf (m:=[(16,16),(24,24),(200,200),(201,201),(202,202),(203,203),(204,204)]) an rfl ⟨rfl,a_⟩ rfl (λq o h=>?_);rcases ant O h with⟨rfl,rfl⟩|⟨aZ,h⟩;refine⟨by omega,?_⟩;rw[rG,ZP];rfl;obtain⟨j,rfl,_,_⟩:=tm h;exact⟨by omega,(mK _ _ aZ).trans h⟩;(have hu:s.c_=false:=by simpa using O);refine Y.jK _ _ ?_ (ZO ⟨vs,by rw[Kh hu];exact rm,by rw[Kh hu];exact A'⟩);refine fQ.zf (m:=[(16,16),(24,24),(200,200),(201,201),(202,202),(203,203),(204,204)]) an rfl ⟨rfl,rfl,rfl,rfl,rfl,rfl,rfl,rfl,rfl,rfl,rfl,auP (λQ=>some (aJ.row nM Q 7 305)) (by rw[auN O,anr hu]),rfl,a_⟩ rfl (λq o h=>?_);rw[ans hu]at h;obtain⟨j,rfl,_,_⟩:=tm h;exact⟨by omega,h⟩;rintro⟨l',rm,ih⟩;(try dsimp only);have wh:s.fi=x.di:=a1.fi;(have hZ:(hW l x.di).length<=l.length:=by rw[hW,auS,Dl];exact av6 (avn _ _) auF);apply eh;refine Y.S6 aN mixed (α:=Value) (λv f=>[(1,u (x.di:Int)),(2,u x.lv),(3,.bool x.iso),(4,.bool x.rock),(5,.box 200 fF 0),(6,.box 201 bO 0),(7,.box 202 fG 0),(13,.T .none 1 (aQ (cd 0 n.F))),(33,.T .none 12 (n.F.map enc)),(34,u (n.F.map enc).length),(35,u (i:Int)),(15,u (i:Int)),(16,.box 16 m' 0),(17,.bool s.iso),(18,.bool s.rock),(21,.bool s.c_),(24,.box 24 su 0),(139,bif f 0 then .am nM else .any),(140,bif f 1 then u (x.di:Int)else .any),(141,bif f 2 then .am nM else .any),(142,bif f 3 then u (x.di:Int)else .any),(143,bif f 4 then .am (h5 nM (((x.di:Nat):Int).toNat*7))else .any),(144,bif f 5 then .am (h5 nM (((x.di:Nat):Int).toNat*7+6))else .any),(145,bif f 6 then .T (.own 0 (l' x.di)) 8 (hW l x.di)else .any),(146,bif f 7 then pR s else .any),(147,bif f 8 then .T .dZ 8 [pR s]else .any),(148,bif f 9 then .T (.own 148 v) 8 (hW l x.di++[pR s])else .any),(149,bif f 10 then .am (h5 nM (((x.di:Nat):Int).toNat*7))else .any),(150,bif f 11 then .am (h5 nM (((x.di:Nat):Int).toNat*7+6))else .any)]) (λv f=>cV ([(16,.box m' [.N k.name,u k.kind,.N k.cU,.N k.target,u k.cu,u k.n2,u k.n3,u k.n4,u k.n5,u k.n6,.T .none 12 (k.F.map enc),.T .none 2 (k.bD.map cW)]),(24,.box su (tl s)),(200,.box fF [.am nM]),(201,.box bO [.T (.own 204 uM) 1 (e' (l++[s]))]),(202,.box fG [xF fF bO fG]),(203,.row nM (bif f 12 then((hp l' (l++[s]) l).set x.di (.agg (iD (rl x++[.T (.own 0 (l' x.di)) 8 (hW l x.di)]) 6 (.T (.own 148 v) 8 (hW l x.di++[pR s])))))else(hp l' (l++[s]) l)) 7 305),(204,.own uM (e' (l++[s])).length 1 3)]++(bif f 9 then[(148,.own v ((hW l x.di).length+1) 8 310)]else[])) (bif f 9 then(Do x.di (kP l' (l++[s]) l))else kP l' (l++[s]) l)) auH (.bool true) ?_ ?_ ?_ ?_;exact⟨E,E,E,E,E,E,E,E,E,E,E,E,E,E,E,E,E,.any _,.any _,.any _,.any _,.any _,.any _,.any _,.any _,.any _,.any _,.any _,.any _,ak⟩;exact ns.My ⟨rfl,a_⟩ (λk o h=>(y8 rfl (ang h)).trans h);(conv=>whnf);refine⟨λv f bf=>?_,?_⟩;obtain⟨f,rfl⟩:= bf.o f 12 0;apply BN;refine ej ?_;exact f0 v;refine SU ?_;refine⟨λv f bf=>?_,?_⟩;obtain⟨f,rfl⟩:= bf.o f 9 6 (bf.n 6 5 (bf.n 5 4 (bf.n 4 2)));obtain⟨f,rfl⟩:= bf.o f 12 2;apply BN;refine ej ?_;exact f0 v;refine SU ?_;refine⟨λv f bf=>?_,?_⟩;obtain⟨f,rfl⟩:= bf.o f 9 6 (bf.n 6 5 (bf.n 5 4));obtain⟨f,rfl⟩:= bf.o f 12 4;apply p7;refine ah.eG aN 203 rfl rfl rfl rfl rfl rfl rfl auD (Zz (by rw[lP];exact ih)) ?_;exact f0 v;refine⟨λv f bf=>?_,?_⟩;obtain⟨f,rfl⟩:= bf.o f 9 6 (bf.n 6 5);obtain⟨f,rfl⟩:= bf.o f 12 5;apply p7;refine ah.js aN 203 (i:=x.di) rfl rfl (ZA (by rw[lP];exact ih)) rfl rfl rfl auG ?_;exact f0 v;refine⟨λv f bf=>?_,?_⟩;obtain⟨f,rfl⟩:= bf.o f 9 6;obtain⟨f,rfl⟩:= bf.o f 12 6;apply p7;refine ah.n9 aN 203 (i:=x.di) (j:=6) auJ rfl rfl (GH rm) ?_;(conv=>whnf);exact f0 v;refine⟨λv f bf=>?_,?_⟩;obtain⟨f,rfl⟩:= bf.o f 9 8 (bf.n 8 7);obtain⟨f,rfl⟩:= bf.o f 12 7;apply BN;refine ej ?_;exact f0 v;refine⟨λv f bf=>?_,?_⟩;obtain⟨f,rfl⟩:= bf.o f 9 8;obtain⟨f,rfl⟩:= bf.o f 12 8;apply BN;(conv=>whnf);refine oJ ?_;exact f0 v;refine⟨λv f bf=>?_,?_⟩;obtain⟨f,rfl⟩:= bf.o f 12 9;apply p7;refine ah.Tm aN (x.di+300) 0 rfl rfl rfl auK rfl (Qr ih) rfl (by show(_+1)*64<=_;omega) (by show _+1<=_;omega) (λv2=>?_);exact f0 v2 (ns.My ⟨rfl,a_⟩ (λk o h=>by obtain⟨h1,A,aa⟩:=Qu h;exact(mK _ _ auD).trans ((mK _ _ h1).trans ((y8 rfl A).trans aa))));refine⟨λv f bf=>?_,?_⟩;obtain⟨f,rfl⟩:= bf.o f 12 11 (bf.n 11 10);apply p7;refine ah.eG aN 203 rfl rfl rfl rfl rfl rfl rfl auD (Zz (by rw[lP];exact ih)) ?_;exact f0 v;refine⟨λv f bf=>?_,?_⟩;obtain⟨f,rfl⟩:= bf.o f 12 11;apply p7;refine ah.js aN 203 (i:=x.di) rfl rfl (ZA (by rw[lP];exact ih)) rfl rfl rfl auG ?_;exact f0 v;refine⟨λv f bf=>?_,?_⟩;(conv=>whnf);apply p7;refine ah.vj aN 203 (i:=x.di) (j:=6) auJ rfl rfl rfl (GH rm) auG rfl ?_;exact f0 v (ns.My ⟨rfl,a_⟩ (λk o h=>ayQ));exact trivial;intro v f M;(conv=>whnf);refine Y.jK [(1,u (x.di:Int)),(2,u x.lv),(3,.bool x.iso),(4,.bool x.rock),(5,.box 200 fF 0),(6,.box 201 bO 0),(7,.box 202 fG 0),(13,.T .none 1 (aQ (cd 0 n.F))),(33,.T .none 12 (n.F.map enc)),(34,u (n.F.map enc).length),(35,u (i:Int)),(15,u (i:Int)),(16,.box 16 m' 0),(17,.bool s.iso),(18,.bool s.rock),(21,.bool s.c_),(24,.box 24 su 0)] (cV [(16,.box m' [.N k.name,u k.kind,.N k.cU,.N k.target,u k.cu,u k.n2,u k.n3,u k.n4,u k.n5,u k.n6,.T .none 12 (k.F.map enc),.T .none 2 (k.bD.map cW)]),(24,.box su (tl s)),(200,.box fF [.am nM]),(201,.box bO [.T (.own 204 uM) 1 (e' (l++[s]))]),(202,.box fG [xF fF bO fG]),(203,.row nM ((hp l' (l++[s]) l).set x.di (.agg (iD (rl x++[.T (.own 0 (l' x.di)) 8 (hW l x.di)]) 6 (.T (.own 148 v) 8 (hW l x.di++[pR s]))))) 7 305),(204,.own uM (e' (l++[s])).length 1 3),(148,.own v ((hW l x.di).length+1) 8 310)] (Do x.di (kP l' (l++[s]) l))) (.same an (λk o h=>?_)) ?_;show cV (_++(bif f 9 then _ else _)) (bif f 9 then _ else _) k=_;rw[M 9 auH,M 12 auH];exact h;refine Y.vk 203 (bl:=hp (st l' x.di v) (l++[s]) (l++[s])) rfl (by rw[awc,lP,lP]) Qt (dO.b4 (by rw[awc,lP,lP]) (anh rm wh r_)) ?_;refine Y.jK [(1,u (x.di:Int)),(2,u x.lv),(3,.bool x.iso),(4,.bool x.rock),(5,.box 200 fF 0),(6,.box 201 bO 0),(7,.box 202 fG 0),(13,.T .none 1 (aQ (cd 0 n.F))),(33,.T .none 12 (n.F.map enc)),(34,u (n.F.map enc).length),(35,u (i:Int)),(15,u (i:Int)),(16,.box 16 m' 0),(17,.bool s.iso),(18,.bool s.rock),(21,.bool s.c_),(24,.box 24 su 0)] (cV [(16,.box m' [.N k.name,u k.kind,.N k.cU,.N k.target,u k.cu,u k.n2,u k.n3,u k.n4,u k.n5,u k.n6,.T .none 12 (k.F.map enc),.T .none 2 (k.bD.map cW)]),(24,.box su (tl s)),(200,.box fF [.am nM]),(201,.box bO [.T (.own 204 uM) 1 (e' (l++[s]))]),(202,.box fG [xF fF bO fG]),(203,.row nM (hp (st l' x.di v) (l++[s]) (l++[s])) 7 305),(204,.own uM (e' (l++[s])).length 1 3)] (kP (st l' x.di v) (l++[s]) (l++[s]))) ⟨an,λk=>if k=x.di+300 then 148 else k,?_,?_⟩ ?_;exact ani rfl;exact anj rfl ⟨rfl,a_⟩ rfl (λk o h=>ayQ) wh r_;apply b1;refine Y.cond s.c_ rfl (λO=>?_) (λO=>?_);refine tW ?_;apply cj;apply ei;apply cj;apply ei;apply ei;apply cj;apply ei;apply ei;refine hb ?_;apply ei;refine jp ?_;refine⟨rfl,ak,.inr (ah.S2 rfl [az k,u (s.di:Int),u s.lv,.bool s.iso,.bool s.rock,.box 200 fF 0,.box 201 bO 0,.box 202 fG 0] A_ (c8.fJ (λq I=>ZC (show(16:Nat)<200 by decide) (show(24:Nat)<200 by decide) I) (aV k auD AU ZI s (ea.add s) (l++[s]) fF bO fG nM uM (st l' x.di v) pi anF anG O (ZH.add s) (by rw[auV];simp;omega) (by rw[Qv];omega) auD)) ⟨E,dx (by rw[auO O]),dx anE.symm,E,E,E,E,E,ak⟩ ?_)⟩;rintro d aO ⟨rfl,za,anI,xC,rfl⟩;refine⟨_,E,?_⟩;refine ml ?_;exact⟨(⟨i+1,aG⟩,za,anI,xC),by show _-(i+1)<_-i;omega,.same an (λq o h=>by dsimp only at h;rw[c2]at h;exact(anl (Kk h)).trans h)⟩;(have anJ:fA k s (ea.add s)=[]:=by rw[Yg,sV (by simpa using Qw.symm.trans O)];rfl);rw[anJ,avC]at c2;refine qJ ?_;exact⟨(⟨i+1,aG⟩,nM,uM,st l' x.di v),by show _-(i+1)<_-i;omega,.same an (λq o h=>by dsimp only at h;rw[c2]at h;exact(ZC (show(16:Nat)<200 by decide) (show(24:Nat)<200 by decide) (Kk h)).trans h)⟩);(have cr:i=n.F.length:=by simp at hc;omega);(have bZ:e9 (n.F.take i) ((cd 0 n.F).take i) x c=fA n x c:=by rw[Yg,ave auD,ave auD]);rw[bZ];refine Y.jK [] (uK fF bO fG b3 mv vs (kQ++fA n x c) (kQ++fA n x c)) (.same trivial (λq o h=>h)) ?_;refine vf ?_;exact⟨.bm [],ak,rfl,_,_,_,rfl⟩
def wj(aR:Nat)(bs:auM)(k:Nat):List eE:=if k=0/\aR≠0 then[⟨[47],bs,2,0,0,false⟩]else[]
def rn(aR:Nat)(s:aK):eE:=if s.si=0 then y4 else s.jz aR
def jh(aR:Nat)(bs:auM)(D:List aK):Nat->List eE
 |0=>[]
 |i+1=>jh aR bs D i++(rn aR (D.getD i default)::wj aR bs i)
theorem anK(aR:Nat)(bs:auM)(k:Nat):(wj aR bs k).length<=1:=by unfold wj;split<;>simp
theorem QC(aR:Nat)(bs:auM)(k:Nat):(iy aR bs k).length<=1:=by unfold iy;split<;>simp
theorem ZQ(aR:Nat)(bs:auM)(D:List aK):∀i,(jh aR bs D i).length<=2*i
 |0=>auW _
 |i+1=>by have:=ZQ aR bs D i;have:=anK aR bs i;simp only[jh,auV,auX];omega
theorem ZR{aR:Nat}{bs:auM}{hC:aK}{eu:List aK}(h0:hC.si=0)(mV:∀s∈eu,s.si≠0):∀m,m<=eu.length->jh aR bs (hC::eu) (m+1)=y4::(wj aR bs 0++(eu.take m).map (aK.jz aR))
 |0,_=>by simp[jh,rn,h0]
 |m+1,hm=>by rw[jh,ZR h0 mV m auD];(have h1:(hC::eu).getD (m+1) default=eu[m]:=by rw[awE,List.getElem?_cons_succ,auR auD];rfl);(have A:wj aR bs (m+1)=[]:=by rw[wj,auN auD]);rw[h1,A,rn,auN (mV _ (auT _)),auU auD,avo];simp only[avr,avQ,av4,avc,awp]
def zh(aR:Nat)(V:List aK)(i:Nat):List gf:=if i=0 then(ef V).map (aK.ou aR)else[]
def f5(aR:Nat)(bs:auM)(V:List aK):Nat->List gf
 |0=>[]
 |i+1=>f5 aR bs V i++(iy aR bs i++(lf aR V i++zh aR V i))
theorem ZS(aR:Nat)(V:List aK)(i:Nat):(lf aR V i).length<=V.length:=by rw[Zt];exact avn _ _
theorem anL(aR:Nat)(V:List aK)(i:Nat):(zh aR V i).length<=V.length:=by unfold zh;split;rw[auS];exact avn _ _;simp
theorem ZT(aR:Nat)(bs:auM)(V:List aK):∀i,(f5 aR bs V i).length<=i*(2*V.length+1)
 |0=>by simp[f5]
 |i+1=>by have:=ZT aR bs V i;have:=ZS aR V i;have:=anL aR V i;have:=QC aR bs i;rw[awP];simp only[f5,auV];omega
variable{aR:Nat}{bs:auM}
theorem anM{V:List aK}(hi:i<=100)(hT:V.length<=100):(f5 aR bs V i).length<=20100:=by have h:=ZT aR bs V i;have A:i*(2*V.length+1)<=100*201:=Nat.mul_le_mul hi auD;omega
theorem ZU(aR:Nat)(bs:auM)(V:List aK):∀m,f5 aR bs V (m+1)=iy aR bs 0++lf aR V 0++(ef V).map (aK.ou aR)++((List.range m).flatMap λi=>lf aR V (i+1))
 |0=>by simp[f5,zh]
 |m+1=>by(have h1:iy aR bs (m+1)=[]:=by rw[iy,auN auD]);(have A:zh aR V (m+1)=[]:=by rw[zh,auN auD]);rw[f5,ZU aR bs V m,h1,A,awh,awx];simp
theorem anN(bs:auM)(V:List aK):f5 (eF V) bs V ((bM V).length+1)=qr bs V:=by rw[ZU,qr,iy];congr 3;by_cases h:eF V=0;rw[auN auD,auO h];rw[auO ⟨rfl,h⟩,auN h]
theorem anO(bs:auM){V:List aK}{hC:aK}(h0:hC.si=0)(mV:∀s∈bM V,s.si≠0):jh (eF V) bs (hC::bM V) ((bM V).length+1)=ko bs V:=by rw[ZR h0 mV _ (auW _),au2,ko,wj];congr 2;by_cases h:eF V=0;rw[auN auD,auO h];rw[auO ⟨rfl,h⟩,auN h]
def Km(L:List aK)(i:Nat)(s:aK):D:=.agg (rl s++[.T .none 8 (hW L i)])
def iU(L:List aK):List D:=(bM L).mapIdx (Km L)
theorem GK(L:List aK):(iU L).length=(bM L).length:=by simp[iU]
theorem ZV{L:List aK}{s:aK}(h:(bM L)[i]?=some s):(iU L)[i]?=some (Km L i s):=by rw[iU,avI,h];rfl
theorem anP{vs:Nat->Value}{L:List aK}:dO (b4 (hp vs L L)) (b4 (iU L)) :=
 dO.b4 (by rw[lP,GK]) λi a b ha G=>by
  rw[hp,avI]at ha;rw[iU,avI]at G
  cases h:(bM L)[i]? with
  |none=>rw[h]at ha;cases ha
  |some y =>
   rw[h]at ha G;cases ha;cases G
   exact⟨E,E,E,E,E,E,ap.mf,ak⟩
theorem anQ{L:List aK}:∀y∈iU L,y.cells.length=7:=λy hy=>by
 obtain⟨i,hi⟩:=avd.1 hy;rw[iU,avI]at hi
 cases h:(bM L)[i]? with
 |none=>rw[h]at hi;cases hi
 |some s=>rw[h]at hi;cases hi;rfl
def GL(d:eE):List D:=[.N d.path,.N d.id,u d.bT,u d.cv,u d.C4,.bool d.jQ]
def xH(aR:Nat)(i:Int):Int:=if i<=0 then i else i+aR
theorem Dr(aR i:Nat):xH aR (i:Int)=((h' aR i:Nat):Int):=by unfold xH h';split<;>split<;>omega
theorem anR{s:aK}(hs:s.si≠0)(hm:s.mv=true): ([.N s.path,.N (if s.si=0 then[0]else if s.mv then 68::Lib.decDigits s.mno else s.id),u s.lev,u 1,u (xH aR (s.fi:Int)),.bool s.mv]:List D)=GL (rn aR s):=by rw[rn,auN hs,auN hs,Dr];simp[GL,aK.jz,hm]
theorem anS{s:aK}{bi:Bool}{n:U}(h0:s.si=0->s=cT bi n)(hm:s.mv=false): ([.N s.path,.N (if s.si=0 then[0]else if s.mv then 68::Lib.decDigits s.mno else s.id),u s.lev,u (xH aR (if s.mv then -1 else(s.fi:Int))),u (xH aR (s.fi:Int)),.bool s.mv]:List D)=GL (rn aR s):=by by_cases hs:s.si=0;rw[h0 hs];rfl;rw[rn,auN hs,auN hs,hm];simp only[avT,awq];rw[Dr];simp[GL,aK.jz,hm]
theorem anT{a:Nat×aJ}{L:List (Nat×aJ)}(ha:a.1<200)(Z:200<=k):cV (a::L) cx k=cV L cx k:=by obtain⟨i,o⟩:=a;(have h1:Nat.beq k i=false:=ayM);unfold cV;simp only[aM,h1,avZ]
theorem anU(aX:dk B)(bi:Bool)(n:U)(ar:ev n)(jn:valid n=true->fd n<99/\aB n<800000):aT B 158 [az n,.bool bi] (.bm [.T .none 6 ((lg bi n).1.map gD),.T .none 7 ((lg bi n).2.1.map fo),u (lg bi n).2.2]):=by refine bB Tryz.func158 Tryz.ntmps158 λW=>?_;refine go ?_;intro ca;refine go ?_;refine bq (An aX n (azp)) ?_;refine aI _ rfl ?_ ?_<;>intro hc;refine go ?_;(have X:¬valid n=true:=by simpa using hc);rw[lg,auN X];exact⟨ap.nil,ap.nil,E,ak⟩;refine eY ?_;(have X:valid n=true:=by simpa using hc);obtain⟨Dd,hsz⟩:=jn X;have QD:=q8 X;obtain⟨xG,jN⟩:=Qp X;have G:=Zr bi xG jN;have Ds:Gj bi n=cT bi n::fA n (cT bi n) ⟨1,1,0⟩:=rfl;have anV:[cT bi n]++fA n (cT bi n) ⟨1,1,0⟩=Gj bi n:=rfl;have AR:=Qj n (cT bi n) ⟨1,1,0⟩;(have dh:lg bi n=(ko (jg (lN (cd 0 n.F))) (fA n (cT bi n) ⟨1,1,0⟩),qr (jg (lN (cd 0 n.F))) (fA n (cT bi n) ⟨1,1,0⟩),0):=by rw[lg,auO X]);(have Ba:(cT bi n).c_=true:=by rw[aK.c_,cT,jN];rfl);(have ly:bM [cT bi n]=[cT bi n]:=by rw[bM,avJ,auO Ba];rfl);have anW:=λ(dM cG jd:Nat) (vs:Nat->Value)=>ZF (B:=B) aX bi n (aB n+1) n (avt _) QD xG (cT bi n) ⟨1,1,0⟩ [cT bi n] dM cG jd;rw[dh];obtain⟨hF,_,my,xi⟩:=(sc n).1 QD;have GJ:∀k∈n.F,dS k.name=true/\k.name.length<1000000000:=λk Z=>(q6 xi Z).1;have anX:=am_ (B:=B) aX n.F hF GJ my;generalize jg (lN (cd 0 n.F))=bs at*;refine np ?_;refine jp ?_;refine⟨rfl,ak,.inr (ah.MK (q:=203) aN rfl rfl rfl rfl rfl rfl ?_)⟩;(conv=>whnf);refine⟨rfl,ak,λQE=>?_⟩;apply ei;refine go ?_;intro dM;apply ei;refine go ?_;intro cG;refine go ?_;intro jd;apply b1;(conv=>whnf);refine dc ?_;refine Y.vk 203 (bl:=hp (λ_=>.slice none 0 0) [cT bi n] [cT bi n]) rfl (by rw[lP,ly];rfl) Qt (by rw[hp,ly];exact⟨E,E,E,E,E,E,ap.vb,ak⟩) ?_;refine Y.jo 8 (dA:=[.T (.own 204 (.slice none 0 0)) 1 (e' [cT bi n])]) rfl ⟨ap.vb,ak⟩ ?_;refine Y.jo 9 (dA:=[xF dM cG jd]) rfl ⟨ap.fn trivial ⟨ap.box,ap.box,ap.box,ak⟩,ak⟩ ?_;refine Y.tR 204 1 3 ?_;refine Y.tR 300 8 310 ?_;refine Y.jK [(1,.bool bi),(2,.box 2 ca 0),(7,.box 200 dM 0),(8,.box 201 cG 0),(9,.box 202 jd 0)] (cV [(2,.box ca (yT n)),(200,.box dM [.am (.slice (some ⟨QE,0,none⟩) 1 1)]),(201,.box cG [.T (.own 204 (.slice none 0 0)) 1 (e' [cT bi n])]),(202,.box jd [xF dM cG jd]),(203,.row (.slice (some ⟨QE,0,none⟩) 1 1) (hp (λ_=>.slice none 0 0) [cT bi n] [cT bi n]) 7 305),(204,.own (.slice none 0 0) (e' [cT bi n]).length 1 3)] (kP (λ_=>.slice none 0 0) [cT bi n] [cT bi n])) (fQ.zf (m:=[(2,2),(200,7),(201,8),(202,9),(203,203),(204,204)]) ⟨E,E,ap.box,ap.box,ap.box,ak⟩ rfl ⟨rfl,a_⟩ rfl (λq o h=>?_)) ?_;obtain⟨j,rfl,ad,rfl⟩:=tm h;rw[ly]at ad;(have:j=0:=by simp at ad;omega);subst this;exact⟨by omega,rfl⟩;refine np ?_;apply cj;apply ei;apply cj;refine jp ?_;refine⟨rfl,ak,.inr (ah.S2 rfl [az n,u (((cT bi n).di:Nat):Int),u (cT bi n).lv,.bool (cT bi n).iso,.bool (cT bi n).rock,.box 200 dM 0,.box 201 cG 0,.box 202 jd 0] A_ (c8.fJ (λq I=>anT (show(2:Nat)<200 by decide) I) (ZF aX bi n (aB n+1) n (avt _) QD xG (cT bi n) ⟨1,1,0⟩ [cT bi n] dM cG jd (.slice (some ⟨QE,0,none⟩) 1 1) (.slice none 0 0) (λ_=>.slice none 0 0) rfl (.zd jN) rfl Ba ⟨rfl,by rw[ly];rfl,rfl⟩ auE (by show 0+_<_;omega) (by show(1:Int)+_<_;omega))) an ?_)⟩;rintro d aO ⟨rfl,b3,mv,vs,rfl⟩;refine rP ?_;rw[anV];clear anW;generalize fA n (cT bi n) ⟨1,1,0⟩=V at*;generalize atI:Gj bi n=L at*;refine Y.jK [(2,.box 2 ca 0),(7,.box 200 dM 0),(8,.box 201 cG 0)] (aM [(2,.box ca (yT n)),(200,.box dM [.am b3]),(201,.box cG [.T (.own 204 mv) 1 (e' L)]),(203,.row b3 (hp vs L L) 7 305)]) (.same an (ns.uZ ⟨rfl,a_⟩)) ?_;refine Y.vk 203 (bl:=iU L) rfl (by rw[lP,GK]) anQ anP ?_;refine Y.HH 203 200 0 rfl rfl auG rfl ?_;refine Y.jo 201 (dA:=[.T .none 1 (e' L)]) rfl ⟨ap.mf,ak⟩ ?_;refine Y.fc [(2,.box 2 ca 0),(7,.box 7 dM 0),(8,.box 8 cG 0)] [(2,.box ca (yT n)),(7,.box dM [.T .none 7 (iU L)]),(8,.box cG [.T .none 1 (e' L)])] [(2,2),(7,200),(8,201)] ⟨⟨E,ap.box,ap.box,ak⟩,rfl,a_⟩ ?_;obtain⟨aR,iG⟩:∃aR,eF V=aR:=⟨_,rfl⟩;(have GM:aR<=1:=by rw[<-iG];unfold eF;split<;>omega);(have Xc:L.length=V.length+1:=by rw[Ds];rfl);have uJ:=G.tk.1;(have uN:bM L=cT bi n::bM V:=by rw[Ds,bM,avJ,auO Ba];rfl);(have Kn:ef L=ef V:=by rw[Ds,ef,avJ,auN (by simp[cT])];rfl);have jG:(bM V).length<=V.length:=avn _ _;have gs:(ef V).length<=V.length:=avn _ _;(have atJ:(iU L).length=(bM V).length+1:=by rw[GK,uN];rfl);(have anY:(e' L).length=(ef V).length:=by rw[e',auS,Kn]);(have Jc:(if((e' L).length:Int)<1 then((e' L).length:Int)else 1)=(aR:Int):=by rw[<-iG,anY,eF];split<;>split<;>omega);(have qB:∀(t:Nat) (s:aK),L[t]?=some s->s.si=t/\(t=0->s=cT bi n)/\s.fi<=100/\s.di<=100:=λt s h=>by have h1:=G.si h;refine⟨h1,λA=>?_,?_,?_⟩;subst A;rw[uJ]at h;exact(avB h).symm;have:=G.Kj s (au5 h);rw[uN]at this;simp at this;omega;rcases avA t with A|A;subst A;rw[uJ]at h;cases h;exact au7 _;obtain⟨p,a1⟩:=G.at A h;rw[a1.di];have aa:(bM (L.take t)).length<=(bM L).length:=anb _ _ _;rw[uN]at aa;simp at aa;omega);(have Bb:∀i,hW L i=(V.filter λx=>x.fi==i).map pR:=λi=>by rw[hW,Dl,Ds];rfl);refine go ?_;intro jS;(conv=>whnf);refine dc ?_;refine Y.jo 10 (dA:=[u (aR:Int)]) rfl ⟨dx Jc,ak⟩ ?_;refine Y.BP 10 10 (u (aR:Int)) rfl rfl rfl rfl ?_;refine Y.tR 500 6 228 ?_;refine Y.tR 600 7 251 ?_;refine go ?_;refine Y.ee (α:={i:Nat // i<=(iU L).length}×Value×Value) (λQ=>[(2,.box 2 ca 0),(7,.box 7 dM 0),(8,.box 8 cG 0),(10,.a7 1 [u (aR:Int)] 0 0),(11,.fn (.func 227) [] [.a7 1 [u (aR:Int)] 0 0]),(12,.T (.own 500 Q.2.1) 6 ((jh aR bs (bM L) Q.1.1).map gD)),(13,.T (.own 600 Q.2.2) 7 ((f5 aR bs V Q.1.1).map fo)),(39,.T .none 7 (iU L)),(40,u ((iU L).length:Int)),(41,u (Q.1.1:Int))]) (λQ=>[(2,.box ca (yT n)),(7,.box dM [.T .none 7 (iU L)]),(8,.box cG [.T .none 1 (e' L)]),(500,.own Q.2.1 ((jh aR bs (bM L) Q.1.1).map gD).length 6 228),(600,.own Q.2.2 ((f5 aR bs V Q.1.1).map fo).length 7 251)]) (λQ=>(iU L).length-Q.1.1) (⟨0,au7 _⟩,.slice none 0 0,.slice none 0 0) [(2,2),(7,7),(8,8),(500,500),(600,600)] ⟨⟨E,E,E,E,E,ap.vb,ap.vb,E,E,E,ak⟩,rfl,a_⟩ ?_;rintro⟨⟨i,hi⟩,ZW,gO⟩;(try dsimp only);refine go ?_;refine aI (decide ((i:Int)<((iU L).length:Int))) rfl ?_ ?_<;>intro hc;(·refine eY ?_;(have aG:i<(iU L).length:=by simpa using hc);(have anZ:i<(bM L).length:=by rw[GK]at aG;exact aG);obtain⟨s,hs⟩:∃s,(bM L)[i]?=some s:=⟨_,auR anZ⟩;have an0:=ZV hs;have AM:=avy.1 (au5 hs);obtain⟨t,ax⟩:=avd.1 AM.1;obtain⟨a1,dG,j7,_⟩:=qB t s ax;have atK:=G.Ke i s hs;have qA:s.si=0->s=cT bi n:=λh=>dG auD;(have an1:s.mv=true->s.si≠0:=λh A=>by rw[qA A]at h;cases h);(have ik:(bM L).getD i default=s:=by rw[awE,hs];rfl);have atL:=ZQ aR bs (bM L) i;have atM:=anM (aR:=aR) (bs:=bs) (V:=V) (i:=i) auD auD;(have atN:((jh aR bs (bM L) i).map gD).length<=202:=by rw[auS];omega);(have atO:((jh aR bs (bM L) i++[rn aR s]).map gD).length<=203:=by rw[auS,auV];simp;omega);(have atP:((f5 aR bs V i).map fo).length<=20100:=by rw[auS];omega);refine gJ ?_;refine⟨λ_=>⟨axl _,aw8.2 aG⟩,?_⟩;refine go ?_;refine⟨Km L i s,λ_=>an0,?_⟩;refine go ?_;intro sj;refine go ?_;intro m';(conv=>whnf);refine dc ?_;refine Y.k0 (α:=Unit) (λ_=>[(2,.box 2 ca 0),(7,.box 7 dM 0),(8,.box 8 cG 0),(10,.a7 1 [u (aR:Int)] 0 0),(11,.fn (.func 227) [] [.a7 1 [u (aR:Int)] 0 0]),(12,.T (.own 500 ZW) 6 ((jh aR bs (bM L) i).map gD)),(13,.T (.own 600 gO) 7 ((f5 aR bs V i).map fo)),(39,.T .none 7 (iU L)),(40,u ((iU L).length:Int)),(41,u (i:Int)),(14,u (i:Int)),(15,.box 15 sj 0),(16,.box 16 m' 0)]) (λ_=>[(2,.box ca (yT n)),(7,.box dM [.T .none 7 (iU L)]),(8,.box cG [.T .none 1 (e' L)]),(500,.own ZW ((jh aR bs (bM L) i).map gD).length 6 228),(600,.own gO ((f5 aR bs V i).map fo).length 7 251),(15,.box sj (rl s++[.T .none 8 (hW L i)])),(16,.box m' (GL (rn aR s)))]) ?_ ?_;apply eh;refine Y.zI aN 9 mixed auI ?_;refine go ?_;refine⟨[u (if s.mv then -1 else(s.fi:Int)),.a7 1 [u (aR:Int)] 0 0],_,λ_=>GD _ aR (by split<;>omega) GM,an,?_⟩;refine ej ?_;refine⟨[u (s.fi:Int),.a7 1 [u (aR:Int)] 0 0],_,λ_=>GD _ aR auD GM,an,?_⟩;apply cj;apply cj;refine gK ?_;refine aI s.mv rfl ?_ ?_<;>intro hc;refine go ?_;exact⟨(),[(2,2),(7,7),(8,8),(500,500),(600,600),(15,15),(16,16)],an,rfl,rfl,rfl,rfl,rfl,rfl,rfl,rfl,rfl,rfl,rfl,rfl,rfl,rfl,auP (λQ=>some (aJ.box m' Q)) (anR (an1 hc) hc),ak⟩;refine go ?_;exact⟨(),[(2,2),(7,7),(8,8),(500,500),(600,600),(15,15),(16,16)],an,rfl,rfl,rfl,rfl,rfl,rfl,rfl,rfl,rfl,rfl,rfl,rfl,rfl,rfl,auP (λQ=>some (aJ.box m' Q)) (anS qA hc),ak⟩;rintro⟨⟩;refine kB ?_;refine mm ?_;refine⟨by show(_+1)*64<=_;omega,by show _+1<=_;omega,auK,λQF=>?_⟩;(conv=>whnf);(have atQ:(jh aR bs (bM L) i).map gD++[gD (rn aR s)]=(jh aR bs (bM L) i++[rn aR s]).map gD:=by simp);(have sF:jh aR bs (bM L) (i+1)=jh aR bs (bM L) i++[rn aR s]++wj aR bs i:=by rw[jh,ik];simp);refine Y.k0 (α:=Value×Value) (λQ=>[(2,.box 2 ca 0),(7,.box 7 dM 0),(8,.box 8 cG 0),(10,.a7 1 [u (aR:Int)] 0 0),(11,.fn (.func 227) [] [.a7 1 [u (aR:Int)] 0 0]),(12,.T (.own 500 Q.1) 6 ((jh aR bs (bM L) (i+1)).map gD)),(13,.T (.own 600 Q.2) 7 ((f5 aR bs V i++iy aR bs i).map fo)),(39,.T .none 7 (iU L)),(40,u ((iU L).length:Int)),(41,u (i:Int)),(14,u (i:Int)),(15,.box 15 sj 0)]) (λQ=>[(2,.box ca (yT n)),(7,.box dM [.T .none 7 (iU L)]),(8,.box cG [.T .none 1 (e' L)]),(500,.own Q.1 ((jh aR bs (bM L) (i+1)).map gD).length 6 228),(600,.own Q.2 ((f5 aR bs V i++iy aR bs i).map fo).length 7 251),(15,.box sj (rl s++[.T .none 8 (hW L i)]))]) ?_ ?_;apply b1;refine wQ (u (aR:Int)) ?_;refine go ?_;refine aI (bif decide ((i:Int)=0)then decide ((0:Int)<(aR:Int))else false) rfl ?_ ?_<;>intro hc;refine kB ?_;refine⟨[.T .none 12 (n.F.map enc)],_,λ_=>anX,an,?_⟩;refine cc ?_;refine oJ ?_;refine⟨rfl,List.length_append.symm,?_⟩;(conv=>whnf);refine⟨by show(_+1)*64<=_;simp only[auV,auS,auX,avh];omega,by show _+1<=_;simp only[auV,auS,auX,avh];omega,auK,λQG=>?_⟩;refine lZ ?_;refine mm ?_;refine⟨by show(_+1)*56<=_;omega,by show _+1<=_;omega,auK,λqv=>?_⟩;refine go ?_;(have kE:i=0/\aR≠0:=by cases h:decide ((i:Int)=0)<;>rw[h]at hc;cases hc;have h1:=avg h;have A:=avg hc;omega);have qu:wj aR bs i=[⟨[47],bs,2,0,0,false⟩]:=auO kE;have oZ:iy aR bs i=[⟨[47],bs,0,1,true,false,false⟩]:=auO kE;(have bZ:(jh aR bs (bM L) i).map gD++[gD (rn aR s)]++[gD ⟨[47],bs,2,0,0,false⟩]=(jh aR bs (bM L) (i+1)).map gD:=by rw[sF,qu];simp);(have b0:(f5 aR bs V i).map fo++[fo ⟨[47],bs,0,1,true,false,false⟩]=(f5 aR bs V i++iy aR bs i).map fo:=by rw[oZ];simp);exact⟨(QG,qv),[(2,2),(7,7),(8,8),(500,78),(600,83),(15,15)],⟨E,E,E,E,E,ap.trans (ap.of_eq (auP (D.T (.own 78 QG) 6) bZ)) (ap.own _ _),ap.trans (ap.of_eq (auP (D.T (.own 83 qv) 7) b0)) (ap.own _ _),E,E,E,E,E,ak⟩,rfl,rfl,rfl,rfl,rfl,rfl,rfl,rfl,auP (λQ:Nat=>some (aJ.own QG Q 6 228)) (by rw[<-bZ];exact List.length_append.symm),rfl,auP (λQ:Nat=>some (aJ.own qv Q 7 251)) (azd),rfl,a_⟩;refine go ?_;(have kE:¬(i=0/\aR≠0):=λh=>by obtain⟨h1,A⟩:=h;rw[avP (show(i:Int)=0 by omega),avP (show(0:Int)<(aR:Int) by omega)]at hc;cases hc);have qu:wj aR bs i=[]:=auN kE;have oZ:iy aR bs i=[]:=auN kE;(have bZ:(jh aR bs (bM L) i).map gD++[gD (rn aR s)]=(jh aR bs (bM L) (i+1)).map gD:=by rw[sF,qu];simp);(have b0:(f5 aR bs V i).map fo=(f5 aR bs V i++iy aR bs i).map fo:=by rw[oZ];simp);exact⟨(QF,gO),[(2,2),(7,7),(8,8),(500,64),(600,600),(15,15)],⟨E,E,E,E,E,ap.trans (ap.of_eq (auP (D.T (.own 64 QF) 6) bZ)) (ap.own _ _),ap.of_eq (auP (D.T (.own 600 gO) 7) b0),E,E,E,E,E,ak⟩,rfl,rfl,rfl,rfl,rfl,rfl,rfl,rfl,auP (λQ:Nat=>some (aJ.own QF Q 6 228)) (by rw[<-bZ];exact List.length_append.symm),rfl,auP (λQ:List D=>some (aJ.own gO Q.length 7 251)) b0,rfl,a_⟩;rintro⟨Dt,QH⟩;(try dsimp only);generalize eJ:V.filter (λx=>x.fi==i)=R;(have an2:R.length<=V.length:=by rw[<-eJ];exact avn _ _);(have an3:hW L i=R.map pR:=by rw[Bb,eJ]);(have an4:lf aR V i=R.map (aK.kM aR):=by rw[lf,eJ]);(have an5:∀x∈R,x∈V/\x.fi=i:=λx J=>by rw[<-eJ]at J;simpa using avy.1 J);rw[an3];refine go ?_;refine Y.ee (α:={j:Nat // j<=R.length}×Value) (λQ=>[(2,.box 2 ca 0),(7,.box 7 dM 0),(8,.box 8 cG 0),(10,.a7 1 [u (aR:Int)] 0 0),(11,.fn (.func 227) [] [.a7 1 [u (aR:Int)] 0 0]),(12,.T (.own 500 Dt) 6 ((jh aR bs (bM L) (i+1)).map gD)),(13,.T (.own 600 Q.2) 7 ((f5 aR bs V i++iy aR bs i++(R.take Q.1.1).map (aK.kM aR)).map fo)),(39,.T .none 7 (iU L)),(40,u ((iU L).length:Int)),(41,u (i:Int)),(14,u (i:Int)),(85,.T .none 8 (R.map pR)),(86,u ((R.map pR).length:Int)),(87,u (Q.1.1:Int))]) (λQ=>[(2,.box ca (yT n)),(7,.box dM [.T .none 7 (iU L)]),(8,.box cG [.T .none 1 (e' L)]),(500,.own Dt ((jh aR bs (bM L) (i+1)).map gD).length 6 228),(600,.own Q.2 ((f5 aR bs V i++iy aR bs i++(R.take Q.1.1).map (aK.kM aR)).map fo).length 7 251)]) (λQ=>R.length-Q.1.1) (⟨0,au7 _⟩,QH) [(2,2),(7,7),(8,8),(500,500),(600,600)] ⟨⟨E,E,E,E,E,E,ap.of_eq (auP (λQ:List gf=>D.T (.own 600 QH) 7 (Q.map fo)) auF),E,E,E,E,E,E,E,ak⟩,rfl,rfl,rfl,rfl,rfl,rfl,rfl,rfl,rfl,rfl,auP (λQ:List gf=>some (aJ.own QH (Q.map fo).length 7 251)) auF,ak⟩ ?_;rintro⟨⟨j,ad⟩,gO⟩;(try dsimp only);refine go ?_;refine aI (decide ((j:Int)<((R.map pR).length:Int))) rfl ?_ ?_<;>intro hc;(·refine eY ?_;(have y':j<R.length:=by simpa using hc);obtain⟨x,J⟩:∃x,R[j]?=some x:=⟨_,auR y'⟩;(have zg:(R.map pR)[j]?=some (pR x):=by rw[au',J];rfl);obtain⟨an6,ZX⟩:=an5 x (au5 J);obtain⟨d8,GN⟩:=avd.1 (show x∈L by rw[Ds];exact auZ _ an6);obtain⟨_,_,_,an7⟩:=qB d8 x GN;have l0:=QC aR bs i;(have atR:((f5 aR bs V i++iy aR bs i++(R.take j).map (aK.kM aR)).map fo).length<=20300:=by simp only[auS,auV,au9];omega);(have Ko:(f5 aR bs V i++iy aR bs i++(R.take j).map (aK.kM aR)).map fo++[fo (x.kM aR)]=(f5 aR bs V i++iy aR bs i++(R.take (j+1)).map (aK.kM aR)).map fo:=by rw[Zs J];simp);refine gJ ?_;refine⟨λ_=>⟨axl _,by simpa using y'⟩,?_⟩;(conv=>whnf);refine⟨pR x,λ_=>zg,?_⟩;refine go ?_;intro Qx;apply cj;refine kB ?_;intro ra;apply cj;refine cc ?_;refine⟨[u (i:Int),.a7 1 [u (aR:Int)] 0 0],_,λ_=>GD _ aR auD GM,an,?_⟩;apply cj;refine oK ?_;refine h6 ?_;refine il ?_;refine aI (bif decide ((0:Int)<=(if x.c_ then(x.di:Int)else -1))then !x.mv else false) rfl ?_ ?_<;>intro hc;(have wM:x.c_=true/\x.mv=false:=by cases h1:x.c_<;>cases A:x.mv<;>rw[h1,A]at hc<;>simp at hc⊢);apply jH;refine ej ?_;refine⟨[u (x.di:Int),.a7 1 [u (aR:Int)] 0 0],_,λ_=>GD _ aR auD GM,⟨dx (by rw[auO wM.1]),E,ak⟩,?_⟩;apply cj;apply jH;refine ej ?_;refine mm ?_;refine⟨by show(_+1)*56<=_;omega,by show _+1<=_;omega,auK,λqv=>?_⟩;refine go ?_;(have b0:(f5 aR bs V i++iy aR bs i++(R.take j).map (aK.kM aR)).map fo++[.agg [.N x.path,.N (if x.mv then x.file else x.id),u (xH aR (i:Int)),u (xH aR (x.di:Int)),.bool (!x.iso),.bool x.rock,.bool x.mv]]=(f5 aR bs V i++iy aR bs i++(R.take (j+1)).map (aK.kM aR)).map fo:=by rw[<-Ko,fo,aK.kM,ZX,wM.1,wM.2,Dr,Dr];rfl);exact⟨(⟨j+1,y'⟩,qv),[(2,2),(7,7),(8,8),(500,500),(600,113)],by show _-(j+1)<_-j;omega,⟨E,E,E,E,E,E,ap.trans (ap.of_eq (auP (D.T (.own 113 qv) 7) b0)) (ap.own _ _),E,E,E,E,E,E,E,ak⟩,rfl,rfl,rfl,rfl,rfl,rfl,rfl,rfl,rfl,rfl,auP (λQ:Nat=>some (aJ.own qv Q 7 251)) (azd),ak⟩;apply ci;apply jH;refine ej ?_;refine mm ?_;refine⟨by show(_+1)*56<=_;omega,by show _+1<=_;omega,auK,λqv=>?_⟩;refine go ?_;(have wM:(x.c_&&!x.mv)=false:=by cases h1:x.c_<;>cases A:x.mv<;>rw[h1,A]at hc<;>first|rfl|(exfalso;simp at hc;done));(have b0:(f5 aR bs V i++iy aR bs i++(R.take j).map (aK.kM aR)).map fo++[.agg [.N x.path,.N (if x.mv then x.file else x.id),u (xH aR (i:Int)),u (-1),.bool (!x.iso),.bool x.rock,.bool x.mv]]=(f5 aR bs V i++iy aR bs i++(R.take (j+1)).map (aK.kM aR)).map fo:=by rw[<-Ko,fo,aK.kM,ZX,wM,Dr];rfl);exact⟨(⟨j+1,y'⟩,qv),[(2,2),(7,7),(8,8),(500,500),(600,113)],by show _-(j+1)<_-j;omega,⟨E,E,E,E,E,E,ap.trans (ap.of_eq (auP (D.T (.own 113 qv) 7) b0)) (ap.own _ _),E,E,E,E,E,E,E,ak⟩,rfl,rfl,rfl,rfl,rfl,rfl,rfl,rfl,rfl,rfl,auP (λQ:Nat=>some (aJ.own qv Q 7 251)) (azd),ak⟩);refine go ?_;(have u7:j=R.length:=by simp at hc;omega);rw[u7,au2,<-an4];clear u7 hc ad j;have l0:=QC aR bs i;have Dc:=ZS aR V i;refine go ?_;refine aI (decide ((i:Int)=0)) rfl ?_ ?_<;>intro hc;(·(have kE:i=0:=by simpa using hc);refine go ?_;refine Y.ee (α:={k:Nat // k<=(ef L).length}×Value) (λQ=>[(2,.box 2 ca 0),(7,.box 7 dM 0),(8,.box 8 cG 0),(10,.a7 1 [u (aR:Int)] 0 0),(11,.fn (.func 227) [] [.a7 1 [u (aR:Int)] 0 0]),(12,.T (.own 500 Dt) 6 ((jh aR bs (bM L) (i+1)).map gD)),(13,.T (.own 600 Q.2) 7 ((f5 aR bs V i++iy aR bs i++lf aR V i++((ef L).take Q.1.1).map (aK.ou aR)).map fo)),(39,.T .none 7 (iU L)),(40,u ((iU L).length:Int)),(41,u (i:Int)),(117,.T .none 1 (e' L)),(118,u ((e' L).length:Int)),(119,u (Q.1.1:Int))]) (λQ=>[(2,.box ca (yT n)),(7,.box dM [.T .none 7 (iU L)]),(8,.box cG [.T .none 1 (e' L)]),(500,.own Dt ((jh aR bs (bM L) (i+1)).map gD).length 6 228),(600,.own Q.2 ((f5 aR bs V i++iy aR bs i++lf aR V i++((ef L).take Q.1.1).map (aK.ou aR)).map fo).length 7 251)]) (λQ=>(ef L).length-Q.1.1) (⟨0,au7 _⟩,gO) [(2,2),(7,7),(8,8),(500,500),(600,600)] ⟨⟨E,E,E,E,E,E,ap.of_eq (auP (λQ:List gf=>D.T (.own 600 gO) 7 (Q.map fo)) auF),E,E,E,E,E,E,ak⟩,rfl,rfl,rfl,rfl,rfl,rfl,rfl,rfl,rfl,rfl,auP (λQ:List gf=>some (aJ.own gO (Q.map fo).length 7 251)) auF,ak⟩ ?_;rintro⟨⟨k,Z⟩,an8⟩;(try dsimp only);refine go ?_;refine aI (decide ((k:Int)<((e' L).length:Int))) rfl ?_ ?_<;>intro hc;refine eY ?_;(have iI:k<(ef L).length:=by rw[e',auS]at hc;simpa using hc);obtain⟨x,J⟩:∃x,(ef L)[k]?=some x:=⟨_,auR iI⟩;(have zg:(e' L)[k]?=some (.int .i64 (x.di:Int)):=by rw[e',au',J];rfl);have GO:=avy.1 (au5 J);obtain⟨d8,GN⟩:=avd.1 GO.1;obtain⟨an9,Di,_,an7⟩:=qB d8 x GN;(have an_:x.si≠0:=λh=>by rw[Di auD]at GO;cases GO.2);(have an':x.c_=true:=by obtain⟨p,aoa⟩:=G.at (Nat.pos_of_ne_zero auD) GN;have:=aoa.mv;rw[GO.2]at this;cases h:x.c_ with|true=>rfl|false=>rw[h]at this;cases this);obtain⟨rm,A'⟩:=G.A9 (by rw[an9];exact GN) an';have aob:=ZV rm;(have p4:k<=100:=by rw[Kn]at iI;omega);(have atS:((f5 aR bs V i++iy aR bs i++lf aR V i++((ef L).take k).map (aK.ou aR)).map fo).length<=20400:=by rw[Kn]at iI⊢;simp only[auS,auV,au9];omega);(have Ko:(f5 aR bs V i++iy aR bs i++lf aR V i++((ef L).take k).map (aK.ou aR)).map fo++[fo (x.ou aR)]=(f5 aR bs V i++iy aR bs i++lf aR V i++((ef L).take (k+1)).map (aK.ou aR)).map fo:=by rw[Zs J];simp);refine gJ ?_;refine⟨λ_=>⟨axl _,avg hc⟩,?_⟩;refine go ?_;refine⟨u (x.di:Int),λ_=>zg,?_⟩;refine go ?_;refine⟨λ_=>⟨axl _,by rw[GK];exact aw8.2 A'⟩,?_⟩;refine go ?_;refine⟨Km L x.di x,λ_=>aob,?_⟩;refine go ?_;intro YI;(conv=>whnf);refine dc ?_;refine Y.zI aN 10 mixed auI ?_;refine go ?_;refine⟨[u (x.di:Int),.a7 1 [u (aR:Int)] 0 0],_,λ_=>GD _ aR auD GM,an,?_⟩;(conv=>whnf);refine mm ?_;refine⟨by show(_+1)*56<=_;omega,by show _+1<=_;omega,auK,λqv=>?_⟩;refine go ?_;(have b0:(f5 aR bs V i++iy aR bs i++lf aR V i++((ef L).take k).map (aK.ou aR)).map fo++[.agg [.N x.path,.N (if x.si=0 then[0]else if x.mv then 68::Lib.decDigits x.mno else x.id),u 1,u (xH aR (x.di:Int)),.bool true,.bool true,.bool false]]=(f5 aR bs V i++iy aR bs i++lf aR V i++((ef L).take (k+1)).map (aK.ou aR)).map fo:=by rw[<-Ko,fo,aK.ou,auN an_,auO GO.2,Dr]);exact⟨(⟨k+1,iI⟩,qv),[(2,2),(7,7),(8,8),(500,500),(600,138)],by show _-(k+1)<_-k;omega,⟨E,E,E,E,E,E,ap.trans (ap.of_eq (auP (D.T (.own 138 qv) 7) b0)) (ap.own _ _),E,E,E,E,E,E,ak⟩,rfl,rfl,rfl,rfl,rfl,rfl,rfl,rfl,rfl,rfl,auP (λQ:Nat=>some (aJ.own qv Q 7 251)) (azd),ak⟩;(have gd:k=(ef L).length:=by have h1:=ava hc;rw[e',auS]at h1;omega);(have v':f5 aR bs V (i+1)=f5 aR bs V i++iy aR bs i++lf aR V i++((ef L).take k).map (aK.ou aR):=by rw[f5,zh,auO kE,gd,au2,Kn];simp);rw[<-v'];refine go ?_;exact⟨(⟨i+1,aG⟩,Dt,an8),[(2,2),(7,7),(8,8),(500,500),(600,600)],by show _-(i+1)<_-i;omega,an,rfl,a_⟩);(have kE:¬i=0:=by simpa using hc);(have v':f5 aR bs V (i+1)=f5 aR bs V i++iy aR bs i++lf aR V i:=by rw[f5,zh,auN kE];simp);rw[<-v'];refine go ?_;exact⟨(⟨i+1,aG⟩,Dt,gO),[(2,2),(7,7),(8,8),(500,500),(600,600)],by show _-(i+1)<_-i;omega,an,rfl,a_⟩);(have cr:i=(bM V).length+1:=by simp at hc;omega);(have QI:jh aR bs (bM L) i=ko bs V:=by rw[cr,uN,<-iG];refine anO bs rfl λs hs=>?_;have AM:=avy.1 hs;obtain⟨t,ax⟩:=avd.1 AM.1;have:=G.si (show L[t+1]?=some s by rw[Ds];exact ax);omega);(have aoc:f5 aR bs V i=qr bs V:=by rw[cr,<-iG];exact anN bs V);rw[QI,aoc];refine go ?_;exact⟨ap.mf,ap.mf,E,ak⟩
mutual
theorem ZY(P:aK->Prop)(h:∀x k m c,(bX x k m c).any=true->P (bX x k m c)):∀(n:U) (x:aK) (c:ex),∀s∈fA n x c,P s
 |.mk _ _ _ _ _ _ _ _ _ _ ae _,x,c,s,hs=>by
  simp only[fA]at hs;exact QJ P h ae _ x c s hs
theorem QJ(P:aK->Prop)(h:∀x k m c,(bX x k m c).any=true->P (bX x k m c)):∀(ae:List U) (cm:List auM) (x:aK) (c:ex),∀s∈e9 ae cm x c,P s
 |k::r,m::cm,x,c,s,hs=>by
  simp only[e9]at hs;split at hs
  ·rename_i ha;rcases au8.1 hs with rfl|hs
   ·exact h x k m c ha
   rcases avf.1 hs with hs|hs
   ·exact ZY P h k _ _ s hs
   exact QJ P h r cm x _ s hs
  exact QJ P h r cm x c s hs
 |[],_,_,_,s,hs=>by simp[e9]at hs
 |_::_,[],_,_,s,hs=>by simp[e9]at hs
end
theorem aod(n:U)(x:aK)(c:ex):∀s∈fA n x c,s.iso=true->kb 0 s.n s.lv=true :=
 ZY _ (λx k m c _ h=>by simp only[bX,auQ]at h⊢;exact h.2) n x c
theorem aoe{n:U}{l:Int}(O:n.kind=0)(h:kb 0 n l=true):l<=8:=by unfold kb at h;rw[O]at h;rcases Int.lt_or_le 8 l with h1|h1;rw[avP h1]at h;split at h;cases h;simp at h;exact h1
structure aof (bi:Bool) (D:List eE) (i:Nat) (x:eE):Prop where
 lv:1<=x.bT/\x.bT<=8
 dp:0<i->0<=x.cv/\x.cv<i/\0<=x.C4/\x.C4<i/\(x.jQ=false->x.cv=x.C4)
 up:0<i->∃p,D[x.cv.toNat]?=some p/\p.bT=x.bT-1
 rel:x.jQ=true->bi=true/\x.bT=3/\x.cv=1/\∃p,D[1]?=some p/\p.path=[47]
theorem aog(h:i<j):h' aR i<h' aR j:=by unfold h';split<;>split<;>omega
theorem QK(bs:auM)(V:List aK):(ko bs V)[0]?=some y4:=rfl
theorem Kp(V:List aK):eF V=0\/eF V=1:=by unfold eF;split;exact .inl rfl;exact .inr rfl
theorem QL(bs:auM)(V:List aK):(ko bs V).length=1+eF V+(bM V).length:=by rcases Kp V with h|h;rw[ko,h,auO rfl];simp;omega;rw[ko,h,auN auG];simp;omega
theorem Kq{V:List aK}{s:aK}(h:(bM V)[k]?=some s):(ko bs V)[h' (eF V) (k+1)]?=some (s.jz (eF V)):=by rcases Kp V with h1|h1;rw[ko,h1,auO rfl,h',auN auD];simp[h];rw[ko,h1,auN (show¬(1:Nat)=0 by decide),h',auN auD];simp[h]
theorem Kr{V:List aK}(h:eF V=1):(ko bs V)[1]?=some ⟨[47],bs,2,0,0,false⟩:=by rw[ko,h];rfl
theorem ZZ{V:List aK}{x:eE}(h:(ko bs V)[i]?=some x): (i=0/\x=y4)\/(i=1/\eF V=1/\x=⟨[47],bs,2,0,0,false⟩)\/∃k s,(bM V)[k]?=some s/\i=h' (eF V) (k+1)/\x=s.jz (eF V):=by have aj:=QL bs V;(have bg:i<(ko bs V).length:=by rcases au6 i (ko bs V).length with h1|h1;exact h1;rw[au0 h1]at h;cases h);(have iG:eF V<=1:=by unfold eF;split<;>omega);rcases avA i with rfl|h0;rw[QK]at h;exact .inl ⟨rfl,(avB h).symm⟩;by_cases h1:i=1/\eF V=1;obtain⟨rfl,A⟩:=h1;rw[Kr A]at h;exact .inr (.inl ⟨rfl,A,(avB h).symm⟩);refine .inr (.inr ?_);(have Z:i-1-eF V<(bM V).length:=by omega);have hs:=auR Z;(have hi:h' (eF V) (i-1-eF V+1)=i:=by rw[h',auN auD];omega);have:=Kq (bs:=bs) hs;rw[hi,h]at this;exact⟨_,_,hs,hi.symm,avB this⟩
theorem ft.aoh{bi:Bool}{n:U}{V:List aK}(G:ft bi n (cT bi n::V)){s:aK}(h:(bM V)[k]?=some s):∃t p,V[t]?=some s/\s.c_=true/\GF ((cT bi n::V).take (t+1)) s p/\(cT bi n::V)[s.ab]?=some p/\s.ab<t+1/\s.di=k+1/\p.di<k+1/\((p=cT bi n/\p.di=0)\/∃j,p.di=j+1/\(bM V)[j]?=some p):=by have hm:=avy.1 (au5 h);obtain⟨t,ax⟩:=avd.1 hm.1;(have Ba:(cT bi n).c_=true:=by rw[aK.c_,cT,G.kind];rfl);(have uN:bM (cT bi n::V)=cT bi n::bM V:=by rw[bM,avJ,auO Ba];rfl);have h1:(cT bi n::V)[t+1]?=some s:=ax;obtain⟨p,a1⟩:=G.at (i:=t+1) auD h1;have A:=a1.ab;(have bg:t<V.length:=by rcases au6 t V.length with aa|aa;exact aa;rw[au0 aa]at ax;cases ax);rw[au9,auX]at A;have aa:=a1.dp;rw[avE,auO auD]at aa;have lW:s.di=k+1:=G.Ke (k+1) s (by rw[uN];exact h);have aoi:=G.si aa;obtain⟨wk,dh⟩:=G.A9 (by rw[aoi];exact aa) a1.bc;(have QM:p.di<k+1:=by have yG:p∈bM ((cT bi n::V).take (t+1)):=avy.2 ⟨au5 a1.dp,a1.bc⟩;obtain⟨j,ad⟩:=avd.1 yG;(have l0:bM (cT bi n::V)=bM ((cT bi n::V).take (t+1))++bM ((cT bi n::V).drop (t+1)):=by rw[bM,bM,bM,<-av7,awb]);(have rK:j<(bM ((cT bi n::V).take (t+1))).length:=by rcases au6 j (bM ((cT bi n::V).take (t+1))).length with aF|aF;exact aF;rw[au0 aF]at ad;cases ad);have aF:=G.Ke j p (by rw[l0,au3 rK];exact ad);have a8:=a1.di;omega);refine⟨t,p,ax,hm.2,a1,aa,by omega,lW,QM,?_⟩;rw[uN]at wk;cases qu:p.di with|zero=>rw[qu]at wk;exact .inl ⟨(avB wk).symm,rfl⟩|succ j=>rw[qu]at wk;exact .inr ⟨j,rfl,wk⟩
theorem Z0{V:List aK}{s:aK}(hs:s∈V)(hm:s.mv=true):eF V=1:=by have:s∈ef V:=avy.2 ⟨hs,hm⟩;have:=axq this;rw[eF,auN auD]
theorem ft.Z1{bi:Bool}{n:U}(G:ft bi n l):∀(i:Nat) (s:aK),l[i]?=some s->s.lev<=s.lv/\(s.rock=true->bi=true):=by intro i;induction i using Nat.strongRecOn with|_ i aV =>intro s hs;rcases avA i with rfl|hi;rw[G.tk.1]at hs;cases hs;exact⟨avK _,λh=>h⟩;obtain⟨p,a1⟩:=G.at hi hs;have bg:=a1.ab;rw[au9]at bg;(have aw:l[s.ab]?=some p:=azk);obtain⟨h1,A⟩:=aV s.ab auD p aw;have h0:=(G.lev _ _ aw).1;have aj:=a1.lev;have X:=a1.lv;refine⟨?_,λh=>A (a1.rock h)⟩;split at aj;split at aj<;>omega;omega
theorem aoj{bi:Bool}{n:U}{V:List aK}(G:ft bi n (cT bi n::V))(hi:∀s∈V,s.iso=true->kb 0 s.n s.lv=true)(bs:auM): ∀i x,(ko bs V)[i]?=some x->aof bi (ko bs V) i x:=by intro i x J;rcases ZZ J with⟨rfl,rfl⟩|⟨rfl,iG,rfl⟩|⟨k,s,hs,rfl,rfl⟩;exact⟨⟨by decide,by decide⟩,λh=>absurd h (axW _),λh=>absurd h (axW _),λh=>by cases h⟩;exact⟨⟨by show(1:Int)<=2;decide,by show(2:Int)<=8;decide⟩,λ_=>⟨avK _,by show(0:Int)<1;decide,avK _,by show(0:Int)<1;decide,λ_=>rfl⟩,λ_=>⟨y4,rfl,rfl⟩,λh=>by cases h⟩;obtain⟨t,p,ax,O,a1,aw,nW,lW,QM,Gr⟩:=G.aoh hs;have wl:=au5 ax;have atT:=G.lev _ _ aw;have Ks:=G.lev (t+1) s ax;have aok:=G.Z1 (t+1) s ax;have atU:=G.Z1 _ _ aw;have GI:=a1.lv;have aj:=a1.lev;have hm:=a1.mv;rw[auO O]at aj;rw[O,axC]at hm;have j7:s.fi=p.di:=a1.fi;have pp:h' (eF V) p.di<h' (eF V) (k+1):=aog QM;(have aol:∃q,(ko bs V)[h' (eF V) p.di]?=some q/\q.bT=p.lev:=by rcases Gr with⟨rfl,h0⟩|⟨j,ad,qu⟩;rw[h0];exact⟨y4,rfl,rfl⟩;rw[ad];exact⟨_,Kq qu,rfl⟩);(have atV:1<=h' (eF V) (k+1):=by rw[h',auN auD];omega);cases gu:s.mv with|true =>rw[gu]at hm;(have hP:p.lev+1=9:=by simpa using hm.symm);rw[auO hP]at aj;have iG:=Z0 wl gu;(have zz:bi=true:=by have we:=a1.any;rw[aK.any,av3]at we;rcases we with h|h;have h1:=aoe (by simpa[aK.c_]using O) (hi s wl h);omega;exact aok.2 h);refine⟨⟨Ks.2.2.1 O,Ks.2.1⟩,λ_=>⟨?_,?_,?_,?_,?_⟩,λ_=>?_,λ_=>⟨zz,aj,?_,_,Kr iG,rfl⟩⟩;simp[aK.jz,gu];simp only[aK.jz,gu,avV];rw[h',auN auD,iG];omega;simp[aK.jz];simp only[aK.jz,j7];omega;simp[aK.jz,gu];refine⟨⟨[47],bs,2,0,0,false⟩,?_,?_⟩;simp only[aK.jz,gu,avV];exact Kr iG;show(2:Int)=s.lev-1;omega;simp[aK.jz,gu]|false =>rw[gu]at hm;(have hP:¬p.lev+1=9:=by simpa using hm.symm);rw[auN hP]at aj;refine⟨⟨Ks.2.2.1 O,Ks.2.1⟩,λ_=>⟨?_,?_,?_,?_,?_⟩,λ_=>?_,λh=>?_⟩;simp[aK.jz,gu];simp only[aK.jz,gu,j7];simp;omega;simp[aK.jz];simp only[aK.jz,j7];omega;intro _;simp[aK.jz,gu];obtain⟨q,I,lA⟩:=aol;refine⟨q,?_,?_⟩;simp only[aK.jz,gu,j7];simpa using I;show q.bT=s.lev-1;omega;simp[aK.jz,gu]at h
theorem aom{bi:Bool}{n:U}(h:valid n=true):∃bs V,lg bi n=(ko bs V,qr bs V,0)/\ft bi n (cT bi n::V)/\V=fA n (cT bi n) ⟨1,1,0⟩/\bs=jg (lN (cd 0 n.F)):=by obtain⟨xG,jN⟩:=Qp h;exact⟨_,_,by rw[lg,auO h],Zr bi xG jN,rfl,rfl⟩
theorem ft.QN{bi:Bool}{n:U}(ar:gZ n)(G:ft bi n l):∀(i:Nat) (s:aK),l[i]?=some s->gZ s.n/\(0<i->dS s.n.name=true):=by intro i;induction i using Nat.strongRecOn with|_ i aV =>intro s hs;rcases avA i with rfl|hi;rw[G.tk.1]at hs;cases hs;exact⟨ar,λh=>absurd h (axW _)⟩;obtain⟨p,a1⟩:=G.at hi hs;have bg:=a1.ab;rw[au9]at bg;(have aw:l[s.ab]?=some p:=azk);obtain⟨h1,_⟩:=aV s.ab auD p aw;obtain⟨_,_,_,Z⟩:=(sc p.n).1 h1;have A:=q6 Z a1.Ql;exact⟨A.2,λ_=>A.1.1⟩
theorem ft.dp{bi:Bool}{n:U}(G:ft bi n l){s:aK}(hi:0<i)(hs:l[i]?=some s):∃p,GF (l.take i) s p/\l[s.ab]?=some p/\s.ab<i:=by obtain⟨p,a1⟩:=G.at hi hs;have bg:=a1.ab;rw[au9]at bg;(have aw:l[s.ab]?=some p:=azk);exact⟨p,a1,aw,by omega⟩
end Go.bV.ct
