/- Lemmas for the last file. -/
import Derived.Test.YtbflaciihaijgaaGreatUEP
set_option linter.all false
set_option maxHeartbeats 32000000
namespace Go.Ab
set_option maxRecDepth 20000
open Go
variable{qn:Prop}
def X8(h:qn:=by rw[List.getD_eq_getElem?_getD,List.getElem?_eq_getElem C];exact List.getElem_mem C):=h
def Ya(h:qn:=by simp only[pY,jA,kN,and_true];exact⟨wG,a.1⟩):=h
def Yb(h:qn:=by simp only[aK,Nat.reduceBEq, *];exact il (n:=r.2.vars.length) ac ac):=h
def Ov(h:qn:=by simp only[aK,Nat.reduceBEq, *];exact il (n:=O.length) ac ac):=h
end Go.Ab
namespace Go.Proofs.YtbflaciihaijgaaGreat
set_option maxRecDepth 20000
open Go Go.Ab Proofs.Tryz
variable{v:Int×Bd}{X:Qx}{S S' J:Nat->Prop}{j m Y O:AV}{lo i:Nat}{H H':Hp}{l:qA}{s:Bd}{tb:qH}{x e:Int}{p:Pr}{u:Un}
section
def tyQaF.tyF:=ad @dm (ad @cG (ad @eG (ad @ij (ad @l8 (ad @jU (ad @ey (ad @gC (ad @jx (ad @i7 (ad @jh (ad @iC (ad @kg (ad @vW (ad @U2 (@DX)))))))))))))))
open tyQaF
noncomputable def oC:=qd (M:=241) f108.eq_1
section
variable {tb:qH} (hG:zd8 tb) {X:Qx} {c:Cx} (hX:CxQ X c) {x:St} {s:Bd} {H:Hp} {S:Nat -> Prop} {lv vv:AV}
set_option maxRecDepth 100000 in
include hG hX in
def zmI(hk:x.az=1){n:Nat}{r:Int×Bd}(O:ei c n x.value s=some r)(J:bS c.aO x.name<r.2.vars.length)(I:Fin r.2)(C:zd1 X H S s lv vv):
 aR prog (aA pls tb) 108 [.ptr X.b 0,.agg x.cells] H (r6 X S vv H {r.2 with vars:=r.2.vars.set (bS c.aO x.name) r.1}):=by
 have hw:zd0 (aA pls tb) 108:=hG.plain cN;have R1:=C.alloc (.cells x.cells 0 true);have F1:=(fS X S vv H).alloc (.cells x.cells 0 true);refine qe hw func108 oC ?_;dsimp only[oC,qd,a1,Nat.reduceAdd];repeat' (first
  |(apply ay ?_;clear hK K)|apply aT ?_|(apply a2 ?_ ?_<;>(intro hb hbp;try(cases hb;done)))|(apply az fun K hK=>?_)|fail)
 refine qj ?_;refine a8 ?_ (vn hG hX n x.value s r O I R1);rintro v z ⟨rfl,S2,Y,m,Z⟩;have g2:=gQ C Z;have m2:=m.m;unfold br at m2;have j:=CxQ.ix hG hX m x.name;obtain⟨q,hix,hld,H3,hst,hq1,hq2,L,V,ea,o3,n3⟩:=m.setV J r.1;have n2:H.next+1<=z.next:=Z.next
 have m3:=V.m;have g3:H3.get H.next=some (.cells x.cells 0 true):=by rw[o3 _ (by have:=C.new (aG _);intro e;subst e;rcases Z.own _ L with e|e;exact this.2.1 e;simp only[aS]at e;omega)];exact g2
 dsimp only[br]at m3;dsimp only[a0];repeat' (first
  |(apply ay ?_;clear hK K)|apply a9 ?_|(apply fq ?_;first|refine Rx.k (j) ?_)|(apply bV 4 [(3,7),(3,10),(6,7)] fun K hK=>?_)|(apply bB ?_;try intro _)|(apply bY ?_ ?_<;>clear hK K)|fail)
 .exact bM
 .all_goals refine qi ?_
  exact⟨S2,Y,vv,V,F1.trans (Z.trans ea)⟩
set_option maxRecDepth 100000 in
include hG hX in
def zmJ(hk:x.az=2){n:Nat}{i:Int×Bd}(h1:ei c n x.bz s=some i)(L:ei c n x.value i.2=some v){a:Ar}(ha:c.ab[bS (c.ab.map (·.name)) x.name]?=some a)
 (I:Fin (aj ⟨28,bS (c.ab.map (·.name)) x.name,[(dS a.len i.1 v.2).aa,i.1,v.1]⟩ (dS a.len i.1 v.2)).2) (C:zd1 X H S s lv vv) :
 aR prog (aA pls tb) 108 [.ptr X.b 0,.agg x.cells] H (r6 X S vv H { (aj ⟨28,bS (c.ab.map (·.name)) x.name,[(dS a.len i.1 v.2).aa,i.1,v.1]⟩ (dS a.len i.1 v.2)).2 with aa:=(aj ⟨28,bS (c.ab.map (·.name)) x.name,[(dS a.len i.1 v.2).aa,i.1,v.1]⟩ (dS a.len i.1 v.2)).1}):=by
 have hw:zd0 (aA pls tb) 108:=hG.plain cN;have R1:=C.alloc (.cells x.cells 0 true);have F1:=(fS X S vv H).alloc (.cells x.cells 0 true);have m:Fin (dS a.len i.1 v.2):=I.le (b9 _ _).le;have Z:Fin v.2:=m.le (pX _ _ _).le;have V:Fin i.2:=Z.le (cD c n _ _ _ L).le;have O:X.p.ab[bS (c.ab.map (·.name)) x.name]?=some a:=by rw[hX.ar];exact ha
 refine qe hw func108 oC ?_;dsimp only[oC,qd,a1,Nat.reduceAdd];refine EX fun K hK=>?_;refine qj ?_;refine a8 ?_ (vn hG hX n x.bz s i h1 V R1);rintro w H2 ⟨rfl,S2,lv2,R2,Y⟩;have g2:=gQ C Y;dsimp only[a0];refine fT fun K hK=>?_;refine qj ?_;refine a8 ?_ (vn hG hX n x.value i.2 v L Z R2);rintro w H3 ⟨rfl,S3,lv3,j,ea⟩;have g3:=gQ C (Y.trans ea);have z:=X6 hG hX j x.name;dsimp only[a0];repeat' (first
  |(apply ay ?_;clear hK K)|apply a9 ?_|(apply fq ?_;first|refine Rx.k (z) ?_)|(apply az fun K hK=>?_)|fail)
 refine qj ?_;refine a8 ?_ (X5 hG j (bS (c.ab.map (·.name)) x.name) i.1 O m);rintro w H4 ⟨S4,lv4,R4,F4⟩;have m4:=R4.m;unfold br at m4;dsimp only[a0];refine fT fun K hK=>?_;refine qj ?_;refine a8 ?_ (mS hG (R4.alloc _) ⟨28,bS (c.ab.map (·.name)) x.name,[(dS a.len i.1 v.2).aa,i.1,v.1]⟩ rfl iE (cn _) I rfl rfl);rintro w H5 ⟨rfl,S5,J,R5,F5⟩;have m5:=R5.m;unfold br at m5;dsimp only[a0];refine mT ?_;all_goals refine qi ?_
 obtain⟨R6,F6⟩:=R5.setS (aj ⟨28,bS (c.ab.map (·.name)) x.name,[(dS a.len i.1 v.2).aa,i.1,v.1]⟩ (dS a.len i.1 v.2)).1;exact⟨S5,J,vv,R6,F1.trans (Y.trans (ea.trans (F4.trans (((fS X S4 vv H4).alloc _).trans (F5.trans F6)))))⟩
set_option maxRecDepth 100000 in
include hG hX in
def zmK(hk:x.az=5){n:Nat}(V:ei c n x.value s=some v)(Z:Fin (aj ⟨29,0,[v.2.aa,v.1]⟩ v.2).2)(C:zd1 X H S s lv vv):
 aR prog (aA pls tb) 108 [.ptr X.b 0,.agg x.cells] H (r6 X S vv H { (aj ⟨29,0,[v.2.aa,v.1]⟩ v.2).2 with aa:=(aj ⟨29,0,[v.2.aa,v.1]⟩ v.2).1}):=by
 have hw:zd0 (aA pls tb) 108:=hG.plain cN;have R1:=C.alloc (.cells x.cells 0 true);have F1:=(fS X S vv H).alloc (.cells x.cells 0 true);have m:Fin v.2:=Z.le (b9 _ _).le;refine qe hw func108 oC ?_;dsimp only[oC,qd,a1,Nat.reduceAdd];refine EX fun K hK=>?_;refine qj ?_;refine a8 ?_ (vn hG hX n x.value s v V m R1);rintro w O ⟨rfl,L,I,j,z⟩;have m4:=j.m;unfold br at m4;dsimp only[a0];refine fT fun K hK=>?_;refine qj ?_;refine a8 ?_ (mS hG (j.alloc _) ⟨29,0,[v.2.aa,v.1]⟩ rfl iE (cn _) Z rfl rfl);rintro w H5 ⟨rfl,S5,J,Y,F5⟩;have m5:=Y.m;unfold br at m5;dsimp only[a0];refine mT ?_;all_goals refine qi ?_
 obtain⟨R6,F6⟩:=Y.setS (aj ⟨29,0,[v.2.aa,v.1]⟩ v.2).1;exact⟨S5,J,vv,R6,F1.trans (z.trans (((fS X L vv O).alloc _).trans (F5.trans F6)))⟩
set_option maxRecDepth 100000 in
include hG hX in
theorem zmL(hk:x.az=7)(L:Fin (kM (cy (16+x.n)) (aj ⟨1,0,[]⟩ s).1 (aj ⟨1,0,[]⟩ s).2))(C:zd1 X H S s lv vv):
 aR prog (aA pls tb) 108 [.ptr X.b 0,.agg x.cells] H (r6 X S vv H (kM (cy (16+x.n)) (aj ⟨1,0,[]⟩ s).1 (aj ⟨1,0,[]⟩ s).2)):=by
 have hw:zd0 (aA pls tb) 108:=hG.plain cN;have R1:=C.alloc (.cells x.cells 0 true);have F1:=(fS X S vv H).alloc (.cells x.cells 0 true);have I:Fin (aj ⟨1,0,[]⟩ s).2:=L.le (r1 _ _ _).le;refine qe hw func108 oC ?_;dsimp only[oC,qd,a1,Nat.reduceAdd];refine EX fun K hK=>?_;refine qj ?_;refine a8 ?_ (vm hG R1 1 0 I);rintro w Y ⟨rfl,S4,lv4,O,Z⟩;have g4:=gQ C Z;have m4:=O.m;have ew:IntKind.wrap .i64 (16+x.n)=cy (16+x.n):=rfl;unfold br at m4;dsimp only[a0];have V:=mS hG (O.alloc (.cells [.int .i64 (aj ⟨1,0,[]⟩ s).2.aa,.int .i64 (aj ⟨1,0,[]⟩ s).1] 0 true)) ⟨27,cy (16+x.n),[(aj ⟨1,0,[]⟩ s).2.aa,(aj ⟨1,0,[]⟩ s).1]⟩ rfl iE (cn _) (L.le ⟨tO _,aG _⟩) rfl rfl;repeat' (first
  |(apply ay ?_;clear hK K)|apply a9 ?_|(apply bV 16 [(3,11),(8,11),(10,11)] fun K hK=>?_)|(apply bB ?_;try intro _)|fail)
 refine qk ?_;refine a8 ?_ V;rintro w H5 ⟨rfl,S5,J,m,F5⟩;have j:=((fS X S4 vv Y).alloc _).trans F5;have g5:=gQ C (Z.trans j);have n4:H.next+1<=Y.next:=Z.next
 have n5:Y.next+1<=H5.next:=F5.next
 have g4a:(Y.alloc (.cells [.int .i64 (aj ⟨1,0,[]⟩ s).2.aa,.int .i64 (aj ⟨1,0,[]⟩ s).1] 0 true)).get H.next=some (.cells x.cells 0 true):=gQ C (Z.trans ((fS X S4 vv Y).alloc _))
 have m5:H5.get X.b=some (.cells (br X { (aj ⟨27,cy (16+x.n),[(aj ⟨1,0,[]⟩ s).2.aa,(aj ⟨1,0,[]⟩ s).1]⟩ (aj ⟨1,0,[]⟩ s).2).2 with aa:=(aj ⟨1,0,[]⟩ s).2.aa} J vv) 0 true):=m.m;have z:=(O.alloc (.cells [.int .i64 (aj ⟨1,0,[]⟩ s).2.aa,.int .i64 (aj ⟨1,0,[]⟩ s).1] 0 true)).m;have m6:=(m.setS (aj ⟨27,cy (16+x.n),[(aj ⟨1,0,[]⟩ s).2.aa,(aj ⟨1,0,[]⟩ s).1]⟩ (aj ⟨1,0,[]⟩ s).2).1).1.m;obtain⟨R6,F6⟩:=m.setS (aj ⟨27,cy (16+x.n),[(aj ⟨1,0,[]⟩ s).2.aa,(aj ⟨1,0,[]⟩ s).1]⟩ (aj ⟨1,0,[]⟩ s).2).1;have g6:=gQ C (Z.trans (j.trans F6));dsimp only[br]at z m5 m6 g6;dsimp only[a0];repeat' (first
  |apply a9 ?_|(apply bB ?_;try intro _)|(apply bY ?_ ?_<;>clear hK K)|fail)
 .exact bM
 .all_goals refine qi ?_
  exact⟨S5,J,vv,R6,F1.trans (Z.trans (j.trans F6))⟩
set_option maxRecDepth 100000 in
include hG in
def zmM(j:¬x.az=1)(m:¬x.az=2)(Z:¬x.az=3)(V:¬x.az=4)(O:¬x.az=5)(L:¬x.az=6)(J:¬x.az=7)(C:zd1 X H S s lv vv):
 aR prog (aA pls tb) 108 [.ptr X.b 0,.agg x.cells] H (r6 X S vv H s):=by
 have hw:zd0 (aA pls tb) 108:=hG.plain cN;have z:=C.alloc (.cells x.cells 0 true);have Y:=(fS X S vv H).alloc (.cells x.cells 0 true);refine qe hw func108 oC ?_;dsimp only[oC,qd,a1,Nat.reduceAdd];refine JF ?_;all_goals refine qi ?_
 exact⟨S,lv,vv,z,Y⟩
end
end
section
def tyQaG.tyF:=ad @dm (ad @cG (ad @eG (ad @ij (ad @l8 (ad @jU (ad @ey (ad @gC (ad @jx (ad @i7 (ad @jh (ad @iC (ad @kg (ad @vW (@DY))))))))))))))
open tyQaG
structure zd6 (X:Qx) (S:Nat->Prop) (vv:AV) (lo:Nat) (H:Hp) (av:AV) (l:qA):Prop where
 r:gM H av l lo
 n:∀k,a3 av k->¬S k/\¬a3 vv k/\¬a3 X.nv k
def zd6.fr{vv:AV}(h:zd6 X S vv lo H m l)(hb:X.b<lo)(f:FrQ X S vv H S' j H'):zd6 X S' j lo H' m l:=by
 refine⟨h.r.keep f.next fun k z=>?_,fun k z=>?_⟩
 .have a:=h.r.lt z;have b:=h.n k z;exact f.get k a.2 ac b.1 b.2.1
 .have a:=h.r.lt z;have b:=h.n k z;refine⟨fun e=>?_,fun e=>?_,b.2.2⟩
  .rcases f.sub k e with e|e
   .exact b.1 e
   .omega
  .rcases f.own k e with e|e
   .exact b.2.1 e
   .omega
def zd6.app{lv vv:AV}{I:Hp}{Z:AV}(h:zd6 X S vv lo H Z l)(Y:zd1 X I S s lv vv)(V:lo<=I.next)(J:H.next<=I.next)(hg:∀k,k<H.next->I.get k=H.get k)(x:Int){r imm:Nat}(O:I.get r=some (.cells [.int .i64 x] imm true))(hb:X.b<lo)(L:l.length<2^39):
 ∃C H',dr prog false I 26 26 Z (.sl r 0 1 1)=some (C,H')/\zd6 X S vv lo H' C (l++[x])/\zd1 X H' S s lv vv/\I.next<=H'.next/\(∀k,k<I.next->¬a3 Z k->H'.get k=I.get k)/\(∀k,a3 C k->a3 Z k\/I.next<=k)/\iP H' C (l++[x]) lo:=by
 have hr:gM I Z l lo:=h.r.keep J fun k z=>hg k (h.r.lt z).2;obtain⟨C,H',aI,a6,cp,dO,cI,eO⟩:=L6 x hr V O L;refine⟨C,H',aI,⟨.inr a6,fun k z=>?_⟩,Y.keep ac fun k j m=>cI k j fun e=>?_,ac,cI,eO,a6⟩
 .rcases eO k z with e|e
  .exact h.n k e
  .have:=Y.new e;exact⟨this.1,this.2.1,fun e2=>by have:=(Y.nS k e2).2.1;omega⟩
 .have b:=h.n k e;have c:=h.r.lt e;rcases m with m|m|m|m
  .omega
  .exact b.1 m
  .exact b.2.1 m
  .exact b.2.2 m
theorem zd1.fN{lv vv:AV}(h:zd1 X H S s lv vv):eP prog H 25 (.ptr X.b 0)=some (.agg X.p.cells):=by
 rw[nr,h.m,Pr.aZ];show cr 2 (List.drop 0 (br X s lv vv))=_;rfl
def zmN(C:zd8 tb)(p:Pr)(m:p.funcs.length<2^60)(nm:aY)(H:Hp):aR prog (aA pls tb) 55 [.agg p.cells,.ay nm] H fun v H'=>v=.int .i64 (bW p.funcs nm 0)/\H'=H:=
 cQ (enc:=zu) (ok:=fun x=>x.1.funcs.length<2^60) (out:=fun x=>.int .i64 (bW x.1.funcs x.2 0)) MI (x:=(p,nm)) (C.ff _) m
section
variable {tb:qH} (hG:zd8 tb) {X:Qx} {c:Cx} (hX:CxQ X c) {x:St} {s:Bd} {H:Hp} {S:Nat -> Prop} {lv vv:AV}
set_option maxRecDepth 100000 in
include hG hX in
theorem zmO(hk:x.az=6){n:Nat}{m:qA×Bd}(Y:mh c n x.args s=some m)(hl:bS c.aO x.name<m.2.vars.length)(hz:x.sz<2^36)
 (hF:Fin (aj ⟨24,0,[(aj ⟨30,bW c.funcs x.to 0,m.2.aa::m.1⟩ m.2).1]⟩ { (aj ⟨30,bW c.funcs x.to 0,m.2.aa::m.1⟩ m.2).2 with aa:=(aj ⟨30,bW c.funcs x.to 0,m.2.aa::m.1⟩ m.2).1}).2) (z:zd1 X H S s lv vv) :
 aR prog (aA pls tb) 108 [.ptr X.b 0,.agg x.cells] H (r6 X S vv H (let r:=aj ⟨30,bW c.funcs x.to 0,m.2.aa::m.1⟩ m.2;let q:=aj ⟨24,0,[r.1]⟩ {r.2 with aa:=r.1};{q.2 with vars:=q.2.vars.set (bS c.aO x.name) q.1})):=by
 have hw:zd0 (aA pls tb) 108:=hG.plain cN;have hkeep:(aA pls tb).keep 108=false:=rfl;have R1:=z.alloc (.cells x.cells 0 true);have F1:=(fS X S vv H).alloc (.cells x.cells 0 true);have gx1:(H.alloc (.cells x.cells 0 true)).get H.next=some (.cells x.cells 0 true):=fw
 have o5:=z.o5;have hal:=xe x.args;have hsz:=x.a9;simp only[];generalize hr:aj ⟨30,bW c.funcs x.to 0,m.2.aa::m.1⟩ m.2=r at *;have hFr:Fin r.2:=hF.le ⟨(b9 ⟨24,0,[r.1]⟩ {r.2 with aa:=r.1}).le.l,(b9 ⟨24,0,[r.1]⟩ {r.2 with aa:=r.1}).le.n⟩;have hFa:Fin m.2:=by rw[<-hr]at hFr;exact hFr.le (b9 _ _).le
 have happl:=(r3 c n _ _ _ Y).2;refine qe hw func108 oC ?_;dsimp only[oC,qd,a1,Nat.reduceAdd];refine uc (fun hb hbp=>?_);refine cP [0,3] [] 11 x.args.length (fun i E Z=>∃J O s2 S2 lv2 a,E.at 10=a/\mh c n (x.args.drop i) s2=some (O,m.2)/\m.1=J++O/\zd1 X Z S2 s2 lv2 vv/\FrQ X S vv (H.alloc (.cells x.cells 0 true)) S2 vv Z/\zd6 X S2 vv (H.next+1) Z a J/\J.length=i) eE ⟨[],m.1,s,S,lv,.ao,eE,Y,rfl,R1,fS _ _ _ _,⟨.inl ⟨rfl,rfl⟩,fun k hk=>(zE hk).elim⟩,rfl⟩ ?_;rintro i E Z hi hcE hrH hnH hsI ⟨J,O,s2,S2,lv2,a,k8,hJ,C,R2,F2,W2,V⟩;(try simp only[bz,a7,aV,aK,bb,Nat.reduceBEq, *]at hcE);(try simp only[a7,bb, *]at hrH);(try simp only[aS,]at hnH);have n2:H.next+1<=Z.next:=hnH
 have gb2:=gQ z F2;by_cases hlt:i<x.args.length
 .have hlt':(i:Int)<x.args.length:=by omega
  have hgx:x.args[i]?=some x.args[i]:=aX hlt;rw[i4 hlt]at hJ;unfold mh at hJ;simp only[aC,dB]at hJ;obtain⟨e1,he1,r2,hr2,rfl,hr2'⟩:=hJ;generalize x.args[i]=y at *;have hFe:Fin e1.2:=by
   have:=(r3 c n _ _ _ hr2).1.le;rw[hr2']at this;exact hFa.le this
  repeat' (first
   |(apply ay ?_;clear hK K)|apply aT ?_|(apply a2 ?_ ?_<;>(intro hb hbp;try(cases hb;done)))|(apply az fun K hK=>?_)|fail)
  refine qj ?_;refine a8 ?_ (vn hG hX n y s2 e1 he1 hFe R2);rintro w H3 ⟨rfl,S3,lv3,R3,ea⟩;have W3:=W2.fr ac ea;have n3:Z.next<=H3.next:=ea.next
  have R3a:=R3.alloc (.cells [.int .i64 e1.1] 0 true);obtain⟨v5,H5,cI,W5,R5,n5,q5,_,_⟩:=W3.app R3a iF (dg _) (fun k hk=>dT) e1.1 (r:=H3.next) (imm:=0) fw ac ac;have F5:FrQ X S vv (H.alloc (.cells x.cells 0 true)) S3 vv H5:=by
   have F:=F2.trans ea;refine⟨by have:=F.next;simp only[aS]at n5 this⊢;omega,fun k Y h2 h4 h5=>?_,F.sub,F.own⟩;rw[q5 k (by simp only[aS]at Y⊢;omega) (fun e=>by have:=W3.r.lt e;simp only[aS]at Y;omega),aL,ah (by simp only[aS]at Y;omega)];exact F.get k Y h2 h4 h5
  have n5':Z.next<=H5.next:=Hm
  dsimp only[a0];refine mT ?_;refine⟨ac,aW,aW,b8,Mv,?_⟩;exact⟨J++[e1.1],r2.1,e1.2,S3,lv3,v5,eE,by rw[<-hr2'];exact hr2,by rw[C];simp,R5,F5,W5,by simp[V]⟩
 .have hlt':¬(i:Int)<x.args.length:=by omega
  have hd:x.args.drop i=[]:=oc ac;rw[hd]at hJ;simp only[mh,dB]at hJ;obtain⟨hJ1,hJ2⟩:=hJ;subst hJ2;rw[<-hJ1,bq]at C;rw[<-C]at W2 V;clear hd V;have m2:=R2.m;unfold br at m2;have kf:=zmN hG X.p (by rw[hX.fs];exact Nat.lt_trans hX.l3 aF) x.to;rw[hX.fs]at kf;have Rb:=R2.alloc (.cells [.int .i64 m.2.aa] 0 true);obtain⟨v6,H6,eO,i6,n6,zU,f6,q6⟩:=zgh (H:=Z.alloc (.cells [.int .i64 m.2.aa] 0 true)) (v:=.sl Z.next 0 1 1) (l:=[m.2.aa]) (lo:=Z.next) ⟨Z.next,0,rfl,iE,eR _,aG _,cn _⟩ (dg _) (W2.r.keep (dg _) fun k hk=>by rw[aL,ah (by have:=W2.r.lt hk;omega)]) (by rw[happl];simp only[pD];omega);simp only[aS]at n6 zU f6 q6;have hf6:∀k,k<Z.next->H6.get k=Z.get k:=fun k hk=>by rw[zU k hk,aL,ah ac]
  have R6:zd1 X H6 S2 m.2 lv2 vv:=R2.keep ac fun k Y _=>hf6 k Y;have F6:FrQ X S2 vv Z S2 vv H6:=⟨ac,fun k Y _ _ _=>hf6 k Y,fun _ h=>.inl h,fun _ h=>.inl h⟩;have j:=Jr (lo:=Z.next) hG R6 ⟨30,bW c.funcs x.to 0,m.2.aa::m.1⟩ (.inr i6) (by rw[hr];exact hFr);have m6:=R6.m;have mb:=Rb.m;have gbb:(Z.alloc (.cells [.int .i64 m.2.aa] 0 true)).get H.next=some (.cells x.cells 0 true):=by rw[aL,ah ac];exact gb2
  have gb6:H6.get H.next=some (.cells x.cells 0 true):=by rw[hf6 _ ac];exact gb2
  unfold br at m6 mb;have p2:=R2.fN;have pb:=Rb.fN;have p6:=R6.fN;repeat' (first
   |(apply ay ?_;clear hK K)|apply aT ?_|(apply eA ?_;first|refine Rx.k (kf _) ?_)|(apply a2 ?_ ?_<;>(intro hb hbp;try(cases hb;done)))|(apply az fun K hK=>?_)|(apply l9 23 [0,1,2,3,4,5,6,7,9,10,11,12,13,14,8,15,16,17,18,19] [(5,14),(7,14),(11,14),(11,15),(12,14),(12,15)] fun K hK=>?_)|(apply bB ?_;try intro _)|fail)
  refine qk ?_;refine a8 ?_ j;intro w H7 h7;rw[hr]at h7;obtain⟨rfl,S7,lv7,R7,F7'⟩:=h7;have F7:=F6.trans F7';have n67:H6.next<=H7.next:=F7'.next
  have n7:Z.next<=H7.next:=F7.next
  clear j;have gb7:=gQ z (F2.trans F7);have m7:=R7.m;have p7:=R7.fN;unfold br at m7;obtain⟨R8,F8⟩:=R7.setS r.1;have gb8:=gQ z (F2.trans (F7.trans F8));have m8:=R8.m;have p8:=R8.fN;have hv8:r.2.vars=m.2.vars:=by rw[<-hr];rfl
  have hst8:r.2.aa=m.2.aa:=by rw[<-hr];rfl
  have hl8:bS c.aO x.name<r.2.vars.length:=by rw[hv8];exact hl
  clear hv8;obtain⟨q,hix,hld,_⟩:=R8.setV hl8 0;have I:=R8.alloc (.cells [.int .i64 r.1] 0 true);have kix:=CxQ.ix hG hX I x.name;have j:=mS hG I ⟨24,0,[r.1]⟩ rfl iE (cn _) hF rfl rfl;have n8:(H7.set X.b (.cells (br X {r.2 with aa:=r.1} lv7 vv) 0 true)).next=H7.next:=rfl
  have gb8a:=gQ z (F2.trans (F7.trans (F8.alloc (.cells [.int .i64 r.1] 0 true))));have m8a:=I.m;dsimp only[br]at R8 F8 gb8 gb8a m8 m8a p8 I j hld n8 kix;rw[n8]at j;rw[hst8]at m7;dsimp only[a0];repeat' (first
   |apply a9 ?_|(apply fq ?_;first|refine Rx.k (kix) ?_)|(apply l9 24 [0,1,2,3,4,5,6,8,9,10,11,12,13,7,14,15,16] [(3,13),(3,14),(3,16),(6,13),(11,13),(11,14),(12,13),(12,14)] fun K hK=>?_)|(apply bB ?_;try intro _)|(apply bY ?_ ?_<;>clear hK K)|fail)
  .exact bM
  .refine qk ?_;refine a8 ?_ j;rintro w H9 ⟨rfl,S9,lv9,R9,F9⟩;have hl9:bS c.aO x.name<(aj ⟨24,0,[r.1]⟩ {r.2 with aa:=r.1}).2.vars.length:=hl8;obtain⟨q',L,hld',H10,hst,hq1,hq2,hq3,R10,F10,o10,n10⟩:=R9.setV hl9 (aj ⟨24,0,[r.1]⟩ {r.2 with aa:=r.1}).1;have hqq:q'=q:=by
    rw[hix]at L;simp only[am,AV.ptr.injEq]at L;exact L.1.symm
   subst hqq;have m9:H9.get X.b=some (.cells (br X { (aj ⟨24,0,[r.1]⟩ {r.2 with aa:=r.1}).2 with aa:=r.1} lv9 vv) 0 true):=R9.m;have m10:H10.get X.b=some (.cells (br X { (aj ⟨24,0,[r.1]⟩ {r.2 with aa:=r.1}).2 with aa:=r.1} lv9 vv) 0 true):=R10.m;have F89:=F2.trans (F7.trans (F8.trans (((fS X S7 vv _).alloc _).trans F9)));have gb9:=gQ z F89;have gb10:=gQ z (F89.trans F10);have n9:=F9.next
   dsimp only[br]at m9 m10;simp only[aS,bK]at n9;dsimp only[a0];refine yh ?_;refine oK cS cS hst ?_;repeat' (first
    |(apply bB ?_;try intro _)|(apply bY ?_ ?_<;>clear hK K)|fail)
   .exact bM
   .all_goals refine qi ?_
    exact⟨S9,lv9,vv,R10,F1.trans (F89.trans F10)⟩
end
end
section
def tyQaH.tyF:=ad @dm (ad @cG (ad @eG (ad @ij (ad @l8 (ad @jU (ad @ey (ad @gC (ad @jx (ad @i7 (ad @jh (ad @iC (ad @kg (ad @vW (@Oo))))))))))))))
open tyQaH
structure zf2 (X:Qx) (S:Nat->Prop) (vv:AV) (lo:Nat) (H:Hp) (av:AV) (l:qA):Prop where
 r:jy H av l lo
 n:∀k,a3 av k->¬S k/\¬a3 vv k/\¬a3 X.nv k
def zf2.fr{vv:AV}(h:zf2 X S vv lo H m l)(hb:X.b<lo)(f:FrQ X S vv H S' j H'):zf2 X S' j lo H' m l:=by
 refine⟨h.r.keep f.next fun k z=>?_,fun k z=>?_⟩
 .have a:=h.r.lt z;have b:=h.n k z;exact f.get k a.2 ac b.1 b.2.1
 .have a:=h.r.lt z;have b:=h.n k z;refine⟨fun e=>?_,fun e=>?_,b.2.2⟩
  .rcases f.sub k e with e|e
   .exact b.1 e
   .omega
  .rcases f.own k e with e|e
   .exact b.2.1 e
   .omega
def zf2.at{vv:AV}(h:zf2 X S vv lo H m l)(O:l[i]?=some x):∃r,dK prog 26 m (.int .i64 (i:Int))=some (.ptr r i)/\eP prog H 3 (.ptr r i)=some (.int .i64 x)/\a3 m r:=
 RowZ.at (S:=fun _=>False) (vv:=.ao) (lo:=lo) ⟨h.r,fun k _=>⟨fun e=>e,fun e=>zE e⟩⟩ O
def Jt(tb:qH)(X:Qx)(c:Cx)(n:Nat):Prop:=∀(l:qJ) (s r:Bd),fH c n l s=some r->Fin r->bF l<2^36->s.vars.length<2^36->∀{H:Hp}{S:Nat->Prop}{lv vv:AV},zd1 X H S s lv vv->aR prog (aA pls tb) 68 [.ptr X.b 0,.aE (l.map St.cells)] H (r6 X S vv H r)
section
variable {tb:qH} (hG:zd8 tb) {X:Qx} {c:Cx} (hX:CxQ X c) {x:St} {s:Bd} {H:Hp} {S:Nat -> Prop} {lv vv:AV}
set_option maxRecDepth 100000 in
include hG hX in
theorem zmP{n:Nat}(z:x.az=3)(IH:Jt tb X c n){r:Int×Bd}{a b m:Bd}(h1:ei c n x.value s=some r)(h2:fH c n x.bm r.2=some a)(h3:fH c n x.bO {a with aa:=r.2.aa,vars:=r.2.vars}=some b)(h4:lK r.1 a.vars b.vars.length 0 b=some m)
 (hF:Fin (a5 r.1 a.aa m.aa m).2) (hz:x.sz<2^36) (hvl:s.vars.length<2^36) (hR:zd1 X H S s lv vv) :
 aR prog (aA pls tb) 108 [.ptr X.b 0,.agg x.cells] H (r6 X S vv H { (a5 r.1 a.aa m.aa m).2 with aa:=(a5 r.1 a.aa m.aa m).1}):=by
 have hw:zd0 (aA pls tb) 108:=hG.plain cN;have hkeep:(aA pls tb).keep 108=false:=rfl;have R1:=hR.alloc (.cells x.cells 0 true);have F1:=(fS X S vv H).alloc (.cells x.cells 0 true);have hFm:Fin m:=hF.le (eB _ _ _ _).le;have hml:=uT _ _ _ _ _ _ h4;have hFb:Fin b:=hFm.le hml.1;have e3:=(jl c n).2.1 _ _ _ h3;have e2:=(jl c n).2.1 _ _ _ h2;have hFa:Fin a:=hFb.le ⟨e3.1.l,e3.1.n⟩;have hFr:Fin r.2:=hFa.le e2.1;have hsz:=x.a9;have o5:=hR.o5;have hlv:=cD c n _ _ _ h1;have hrl:r.2.vars.length<2^36:=by rw[hlv.v];exact hvl
 have hbl:b.vars.length<2^36:=by rw[e3.2];exact hrl
 clear e3 e2 hml hlv;refine qe hw func108 oC ?_;dsimp only[oC,qd,a1,Nat.reduceAdd];repeat' (first
  |(apply ay ?_;clear hK K)|apply aT ?_|(apply a2 ?_ ?_<;>(intro hb hbp;try(cases hb;done)))|(apply az fun K hK=>?_)|fail)
 refine qj ?_;refine a8 ?_ (vn hG hX n x.value s r h1 hFr R1);rintro w H2 ⟨rfl,S2,lv2,R2,F2⟩;have g2:=gQ hR F2;have m2:=R2.m;have n2:H.next+1<=H2.next:=F2.next
 obtain⟨cv,H3,cp,c3,n3,q3⟩:=Ot (H:=H2) R2.vars.n ac;have R3:zd1 X H3 S2 r.2 lv2 vv:=R2.keep ac fun k h _=>q3 k h;have ea:FrQ X S2 vv H2 S2 vv H3:=⟨ac,fun k h _ _ _=>q3 k h,fun _ h=>.inl h,fun _ h=>.inl h⟩;have m2a:=(R2.alloc qo).m;have m3:=R3.m;have g3:H3.get H.next=some (.cells x.cells 0 true):=by rw[q3 _ ac];exact g2
 have z3:zf2 X S2 vv (H.next+1) H3 cv r.2.vars:=⟨c3.lo fun k z=>by have:=c3.lt z;omega,fun k z=>by
  have:=R2.new (c3.lt z).1;exact⟨this.1,this.2.1,fun e=>by have:=(R2.nS k e).2.1;have:=(c3.lt z).1;omega⟩⟩
 obtain⟨hc1,hc2⟩:=c3.one;dsimp only[br]at m2 m2a m3;dsimp only[a0];refine fT fun K hK=>?_;refine qj ?_;refine a8 ?_ (IH x.bm r.2 a h2 hFa ac hrl R3);rintro w H4 ⟨S4,Z,O,R4,F4⟩;have j:=F2.trans (ea.trans F4);have g4:=gQ hR j;have z4:=z3.fr ac F4;have m4:=R4.m;obtain⟨R4s,F4s⟩:=R4.setS r.2.aa;have m4s:=R4s.m;have zs:=z4.fr (X:=X) ac F4s;have R5:=R4s.swapV (vw:=cv) (l:=r.2.vars) (zs.r.lo fun k _=>eR _) (fun k z=>⟨by have:=zs.r.lt z;omega,(zs.r.lt z).2,(zs.n k z).1,(zs.n k z).2.2⟩);have m5:=R5.m;have hk5:∀k,k≠X.b->((H4.set X.b (.cells (br X {a with aa:=r.2.aa} Z O) 0 true)).set X.b (.cells (br X {a with aa:=r.2.aa,vars:=r.2.vars} Z cv) 0 true)).get k=H4.get k:=fun k z=>by rw[aQ,ah z,aQ,ah z]
 have J:FrQ X S vv (H.alloc (.cells x.cells 0 true)) S4 cv ((H4.set X.b (.cells (br X {a with aa:=r.2.aa} Z O) 0 true)).set X.b (.cells (br X {a with aa:=r.2.aa,vars:=r.2.vars} Z cv) 0 true)):=⟨j.next,fun k h1 h2 h4 h5=>by rw[hk5 k h2];exact j.get k h1 h2 h4 h5,j.sub,fun k z=>.inr (z4.r.lt z).1⟩;have g5:=gQ hR J;have v5:jy ((H4.set X.b (.cells (br X {a with aa:=r.2.aa} Z O) 0 true)).set X.b (.cells (br X {a with aa:=r.2.aa,vars:=r.2.vars} Z cv) 0 true)) O a.vars 0:=R4.vars.keep (aG _) fun k z=>hk5 k (by have:=(R4.vS k z).1;omega);have y5':zf2 X S4 cv (X.b+1) ((H4.set X.b (.cells (br X {a with aa:=r.2.aa} Z O) 0 true)).set X.b (.cells (br X {a with aa:=r.2.aa,vars:=r.2.vars} Z cv) 0 true)) O a.vars:=⟨v5.lo fun k z=>(R4.vS k z).1,fun k z=>⟨fun e=>(R4.sS k e).2.2 z,fun e=>(z4.n k e).2.1 z,fun e=>(R4.nS k e).2.2.2 z⟩⟩;clear v5;clear hk5 F4s zs z4 z3 ea j;dsimp only[br]at m4 m4s m5 R5 J y5' g5;dsimp only[a0];refine fT fun K hK=>?_;refine qj ?_;refine a8 ?_ (IH x.bO _ b h3 hFb ac hrl R5);rintro w H6 ⟨S6,lv6,L,R6,F6⟩;have F06:=J.trans F6;have y6:=y5'.fr ac F6;have n6:H.next+1<=H6.next:=F06.next
 clear F6 J R5 R4s R4 y5' m5 m4s m4 g5 g4;dsimp only[a0];refine mT ?_;refine cP [0,3,12,15,16] [] 17 b.vars.length (fun i E Hi=>∃I Si lvi,lK r.1 a.vars (b.vars.length-i) i I=some m/\zd1 X Hi Si I lvi L/\FrQ X S vv (H.alloc (.cells x.cells 0 true)) Si L Hi/\zf2 X Si L (X.b+1) Hi O a.vars/\I.vars.length=b.vars.length) eE ⟨b,S6,lv6,h4,R6,F06,y6,rfl⟩ ?_;clear R6 F06 y6;rintro i E Hi hi hcE hrH hnH hsI ⟨I,Si,lvi,Y,Ri,Fi,yi,hil⟩;(try simp only[bz,a7,aV,aK,bb,Nat.reduceBEq, *]at hcE);(try simp only[a7, *]at hrH);(try simp only[aS,bK,cL,bR,Nat.reduceAdd]at hnH);have mi:=Ri.m;have hlen6:=Ri.vars.n.len';rw[hil]at hlen6;dsimp only[br]at mi;have ni:H.next+1<=Hi.next:=Fi.next
 by_cases hlt:i<b.vars.length
 .have hlt':(i:Int)<b.vars.length:=by omega
  obtain⟨k,z⟩:∃k,b.vars.length-i=k+1:=⟨b.vars.length-i-1,ac⟩;have hk2:b.vars.length-(i+1)=k:=ac;rw[z]at Y;rw[hk2];unfold lK at Y;simp only[aC]at Y;obtain⟨xa,hxa,xb,hxb,Y⟩:=Y;obtain⟨qa,hixa,hlda,hqa⟩:=yi.at hxa;obtain⟨qb,hixb,hldb⟩:=Ri.atV hxb;have hFx:Fin (a5 r.1 xa xb I).2:=hFm.le ⟨(uT _ _ _ _ _ _ Y).1.l,(uT _ _ _ _ _ _ Y).1.n⟩;have hx2:(a5 r.1 xa xb I).2.vars=I.vars:=(eB _ _ _ _).v;have hvx:i<(a5 r.1 xa xb I).2.vars.length:=by rw[hx2];omega
  repeat' (first
   |(apply ay ?_;clear hK K)|apply aT ?_|(apply a2 ?_ ?_<;>(intro hb hbp;try(cases hb;done)))|(apply az fun K hK=>?_)|(apply bV 38 [(3,18),(3,20),(10,18),(14,18),(17,18)] fun K hK=>?_)|(apply bB ?_;try intro _)|fail)
  refine qk ?_;refine a8 ?_ (BI hG Ri r.1 xa xb hFx);rintro w H7 ⟨rfl,S7,lv7,R7,F7⟩;obtain⟨q',C,hld',H8,hst,hq1,hq2,hq3,R8,F8,o8,n8⟩:=R7.setV hvx (a5 r.1 xa xb I).1;have hqq:q'=qb:=by
   rw[hixb]at C;simp only[am,AV.ptr.injEq]at C;exact C.1.symm
  subst hqq;have y7:=yi.fr ac F7;have y8:=y7.fr ac F8;obtain⟨qa7,ix7,ld7,_⟩:=y7.at hxa;obtain⟨qa8,ix8,ld8,_⟩:=y8.at hxa;rw[hixa]at ix7 ix8;simp only[am,AV.ptr.injEq,aV]at ix7 ix8;subst ix7 ix8;have m7:=R7.m;have m8:=R8.m;have n7:=F7.next
  obtain⟨qb7,V,ldb7⟩:=R7.atV (i:=i) (x:=xb) (by rw[hx2];exact hxb);rw[hixb]at V;simp only[am,AV.ptr.injEq,aV]at V;subst V;dsimp only[br]at m7 m8;clear C hx2;dsimp only[a0];repeat' (first
   |(apply ay ?_;clear hK K)|apply a9 ?_|(apply az fun K hK=>?_)|(apply bB ?_;try intro _)|(apply bY ?_ ?_<;>clear hK K)|fail)
  .exact bM
  .refine⟨ac,aW,aW,b8,(by simp only[aK,Nat.reduceBEq, *];exact il (n:=b.vars.length) ac ac),?_⟩;exact⟨_,S7,lv7,Y,R8,Fi.trans (F7.trans F8),y8,by rw[iB,(eB _ _ _ _).v];exact hil⟩
 .have hlt':¬(i:Int)<b.vars.length:=by omega
  have z:b.vars.length-i=0:=ac;rw[z]at Y;simp only[lK,am]at Y;subst Y;refine EX fun K hK=>?_;refine qj ?_;refine a8 ?_ (BI hG Ri r.1 a.aa I.aa hF);rintro w H7 ⟨rfl,S7,lv7,R7,F7⟩;have m7:=R7.m;dsimp only[br]at m7;dsimp only[a0];refine mT ?_;all_goals refine qi ?_
  obtain⟨R8,F8⟩:=R7.setS (a5 r.1 a.aa I.aa I).1;exact⟨S7,lv7,L,R8,F1.trans (Fi.trans (F7.trans F8))⟩
end
end
variable{n:Nat}
section
def tyQaI.tyF:=ad @dm (ad @cG (ad @l7 (ad @eG (ad @jU (ad @ey (ad @gC (ad @jx (ad @i7 (ad @jh (ad @iC (ad @kg (ad @vW (ad @C3 (ad @DY (ad @Oo (@DX))))))))))))))))
open tyQaI
noncomputable def Yc:=qd (M:=197) f160.eq_1
def zd6.other{vv:AV}(h:zd6 X S vv lo H m l)(J:H.next<=H'.next)(Z:∀k,k<H.next->¬a3 Y k->H'.get k=H.get k)(hd:∀k,a3 m k->¬a3 Y k):zd6 X S vv lo H' m l:=⟨h.r.keep J fun k z=>Z k (h.r.lt z).2 (hd k z),h.n⟩
def zf2.other{vv:AV}(h:zf2 X S vv lo H m l)(J:H.next<=H'.next)(Z:∀k,k<H.next->¬a3 Y k->H'.get k=H.get k)(hd:∀k,a3 m k->¬a3 Y k):zf2 X S vv lo H' m l:=⟨h.r.keep J fun k z=>Z k (h.r.lt z).2 (hd k z),h.n⟩
def zd6.same{vv:AV}(h:zd6 X S vv lo H m l)(J:H.next<=H'.next)(Z:∀k,k<H.next->H'.get k=H.get k):zd6 X S vv lo H' m l:=⟨h.r.keep J fun k z=>Z k (h.r.lt z).2,h.n⟩
def zf2.same{vv:AV}(h:zf2 X S vv lo H m l)(J:H.next<=H'.next)(Z:∀k,k<H.next->H'.get k=H.get k):zf2 X S vv lo H' m l:=⟨h.r.keep J fun k z=>Z k (h.r.lt z).2,h.n⟩
def FrQ.other{vv:AV}{bZ:Hp}(h:FrQ X J O bZ S vv H)(Z:H.next<=H'.next)(V:∀k,k<H.next->¬a3 Y k->H'.get k=H.get k)(L:∀k,a3 Y k->bZ.next<=k):FrQ X J O bZ S vv H':=
 ⟨dt h.next Z,fun k j m I z=>by rw[V k (iy j h.next) fun e=>by have:=L k e;omega];exact h.get k j m I z,h.sub,h.own⟩
def FrQ.same{vv:AV}{bZ:Hp}(h:FrQ X J O bZ S vv H)(Z:H.next<=H'.next)(Y:∀k,k<H.next->H'.get k=H.get k):FrQ X J O bZ S vv H':=
 ⟨dt h.next Z,fun k j m V z=>by rw[Y k (iy j h.next)];exact h.get k j m V z,h.sub,h.own⟩
def zd6.fY{lv vv:AV}(h:zd6 X S vv lo H Y l)(Z:zd1 X H S s lv vv)(V:lo<=H.next)(x:Int)(hb:X.b<lo)(L:l.length<2^39):
 ∃C H',dr prog false (H.alloc (.cells [.int .i64 x] 0 true)) 26 26 Y (.sl H.next 0 1 1)=some (C,H')/\zd6 X S vv lo H' C (l++[x])/\zd1 X H' S s lv vv/\H.next<=H'.next/\(∀k,k<H.next->¬a3 Y k->H'.get k=H.get k)/\(∀k,a3 C k->a3 Y k\/H.next<=k)/\H'.get H.next=some (.cells [.int .i64 x] 0 true)/\H.next+1<=H'.next:=by
 obtain⟨C,H',aI,a6,cp,cI,eO,nN,_⟩:=h.app (Z.alloc (.cells [.int .i64 x] 0 true)) iF (dg _) (fun k z=>dT) x (r:=H.next) (imm:=0) fw hb L;simp only[aS]at cI eO nN;exact⟨C,H',aI,a6,cp,ac,fun k j m=>by rw[eO k ac m,aL,ah ac],fun k z=>by
  rcases nN k z with e|e
  .exact .inl e
  .exact .inr ac,by rw[eO _ ac fun e=>by have:=(h.r.lt e).2;omega,aL,ai rfl],cI⟩
def zd6.gi{lv vv:AV}{V:AV}{m:qA}(h:zd6 X S vv lo H V l)(O:zd1 X H S s lv vv)(L:lo<=H.next)(J:m≠[])(hb:X.b<lo)(I:l.length+m.length<2^40):
 ∃C H',dr prog false (H.alloc (.cells (m.map (.int .i64)) 0 true)) 26 26 V (.sl H.next 0 m.length 1)=some (C,H')/\zd6 X S vv lo H' C (l++m)/\zd1 X H' S s lv vv/\H.next<=H'.next/\(∀k,k<H.next->¬a3 V k->H'.get k=H.get k)/\(∀k,a3 C k->a3 V k\/H.next<=k):=by
 have z:∀k,k<H.next->(H.alloc (.cells (m.map (.int .i64)) 0 true)).get k=H.get k:=fun k z=>dT
 have hr:gM (H.alloc (.cells (m.map (.int .i64)) 0 true)) V l lo:=h.r.keep (dg _) fun k Z=>z k (h.r.lt Z).2;obtain⟨C,H',aI,a6,cp,dO,cI,eO⟩:=L5 hr iF (xG (H:=H.alloc (.cells (m.map (.int .i64)) 0 true)) (r:=H.next) (imm:=0) (m:=m) fw) J I;simp only[aS]at cp cI eO;have Y:∀k,k<H.next->¬a3 V k->H'.get k=H.get k:=fun k j Z=>by rw[cI k ac Z,z k j]
 refine⟨C,H',aI,⟨.inr a6,fun k Z=>?_⟩,O.keep ac fun k j Z=>Y k j fun e=>?_,ac,Y,fun k Z=>?_⟩
 .rcases eO k Z with e|e
  .exact h.n k e
  .have:=O.new (r:=k) ac;exact⟨this.1,this.2.1,fun e2=>by have:=(O.nS k e2).2.1;omega⟩
 .have b:=h.n k e;have c:=h.r.lt e;rcases Z with Z|Z|Z|Z
  .omega
  .exact b.1 Z
  .exact b.2.1 Z
  .exact b.2.2 Z
 .rcases eO k Z with e|e
  .exact .inl e
  .exact .inr ac
def zd6.at{vv:AV}(h:zd6 X S vv lo H m l)(O:l[i]?=some x):∃r,dK prog 26 m (.int .i64 (i:Int))=some (.ptr r i)/\eP prog H 3 (.ptr r i)=some (.int .i64 x):=
 RowL.at (S:=fun _=>False) (vv:=.ao) (lo:=lo) ⟨h.r,fun k _=>⟨fun e=>e,fun e=>zE e⟩⟩ O
section
variable {tb:qH} (hG:zd8 tb) {X:Qx} {c:Cx} (hX:CxQ X c) {x:St} {s:Bd} {H:Hp} {S:Nat -> Prop} {lv vv:AV}
set_option maxRecDepth 100000 in
include hG hX in
theorem zmQ(IH:Jt tb X c n){r:Int×Bd}{b:qR}{t:Bd}{d:Int×Bd}(L:ei c n x.value {s with loops:=s.loops+1}=some r)(h2:jK c.aO n x.bm (List.replicate r.2.vars.length false)=some b)
 (h3:fH c n x.bm (fX (16*(s.loops:Int)+1) (bD b) 0 { (aj ⟨3,16*(s.loops:Int),[]⟩ r.2).2 with aa:=(aj ⟨3,16*(s.loops:Int),[]⟩ r.2).1})=some t) (h4:ei c n x.value t=some d)
 {k:Int×Bd} (z:aj ⟨31,s.loops,r.2.aa::((bD b).map fun i=>r.2.vars.getD i 0)++[d.1,d.2.aa]++((bD b).map fun i=>d.2.vars.getD i 0)⟩ d.2=k)
 {m:Int×Bd} (hm:a5 r.1 (aj ⟨25,0,[k.1]⟩ {k.2 with vars:=r.2.vars}).1 r.2.aa (aj ⟨25,0,[k.1]⟩ {k.2 with vars:=r.2.vars}).2=m)
 (hF:Fin (fj k.1 r.1 r.2.vars (bD b) 1 {m.2 with aa:=m.1})) (hz:x.sz<2^36) (hvl:s.vars.length<2^36) (hR:zd1 X H S s lv vv) :
 aR prog (aA pls tb) 160 [.ptr X.b 0,.agg x.cells] H (r6 X S vv H (fj k.1 r.1 r.2.vars (bD b) 1 {m.2 with aa:=m.1})):=by
 have hw:zd0 (aA pls tb) 160:=hG.plain cN;have hkeep:(aA pls tb).keep 160=false:=rfl;have R1:=hR.alloc (.cells x.cells 0 true);have F1:=(fS X S vv H).alloc (.cells x.cells 0 true);have hdl0:d.2.vars.length=r.2.vars.length:=by
  rw[(cD c n _ _ _ h4).v,((jl c n).2.1 _ _ _ h3).2,(r4 _ _ _ _).2.2.1];rfl
 have hmv:m.2.vars=r.2.vars:=by rw[<-hm,(eB _ _ _ _).v];rfl
 have hFm:Fin m.2:=hF.le ⟨(uU _ _ _ _ _ {m.2 with aa:=m.1}).1.l,(uU _ _ _ _ _ {m.2 with aa:=m.1}).1.n⟩;have hFf:Fin (aj ⟨25,0,[k.1]⟩ {k.2 with vars:=r.2.vars}).2:=by rw[<-hm]at hFm;exact hFm.le (eB _ _ _ _).le
 have hFk:Fin k.2:=hFf.le ⟨(b9 ⟨25,0,[k.1]⟩ {k.2 with vars:=r.2.vars}).le.l,(b9 ⟨25,0,[k.1]⟩ {k.2 with vars:=r.2.vars}).le.n⟩;have hFd:Fin d.2:=by rw[<-z]at hFk;exact hFk.le (b9 _ _).le
 have hFt:Fin t:=hFd.le (cD c n _ _ _ h4).le;have e3:=(jl c n).2.1 _ _ _ h3;have hFl:=hFt.le e3.1;have hFp:Fin (aj ⟨3,16*(s.loops:Int),[]⟩ r.2).2:=hFl.le ⟨(r4 _ _ _ { (aj ⟨3,16*(s.loops:Int),[]⟩ r.2).2 with aa:=(aj ⟨3,16*(s.loops:Int),[]⟩ r.2).1}).1.l,(r4 _ _ _ { (aj ⟨3,16*(s.loops:Int),[]⟩ r.2).2 with aa:=(aj ⟨3,16*(s.loops:Int),[]⟩ r.2).1}).1.n⟩;have hFr:Fin r.2:=hFp.le (b9 _ _).le;have hlv:=cD c n _ _ _ L;have hrl:r.2.vars.length<2^36:=by rw[hlv.v];exact hvl
 have hln:s.loops<2^36:=xR (dg _) (by have:=hFr.n;rw[hlv.n]at this;exact this);have hbl:b.length=r.2.vars.length:=by rw[wt _ _ _ _ _ h2,j9]
 have hdl:d.2.vars.length=r.2.vars.length:=hdl0;have hsz:=x.a9;have o5:=hR.o5;clear hlv e3;have bt:=R1.m;have gx1:(H.alloc (.cells x.cells 0 true)).get H.next=some (.cells x.cells 0 true):=fw
 obtain⟨R1s,F1s⟩:=R1.dX (s.loops+1);have m1s:=R1s.m;have g1s:=gQ hR F1s;have eL1:IntKind.wrap .i64 ((s.loops:Int)+1)=((s.loops+1:Nat):Int):=uw ac;dsimp only[br]at bt m1s R1s F1s g1s;refine qe hw func160 Yc ?_;dsimp only[Yc,qd,a1,Nat.reduceAdd];refine fT fun K hK=>?_;refine qj ?_;refine a8 ?_ (vn hG hX n x.value _ r L hFr R1s);rintro w Y ⟨rfl,S2,lv2,R2,F2⟩;have F02:=F1s.trans F2;have g2:=gQ hR F02;have m2:=R2.m;have n2:H.next+1<=Y.next:=F02.next
 have hl2:=R2.vars.n.len';have hmk:∀H:Hp,jq prog H 149 (.int .i64 r.2.vars.length) (.int .i64 r.2.vars.length)=some (.sl H.next 0 r.2.vars.length 1,H.alloc (.cells ((List.replicate r.2.vars.length false).map .bool) 0 true)):=fun H=>zgm _ ac;have nw2:=R2.new (aG _);have nv2:¬a3 X.nv Y.next:=fun e=>by have:=(R2.nS _ e).2.1;omega
 have R3:=R2.alloc (.cells ((List.replicate r.2.vars.length false).map .bool) 0 true);have g3:(Y.alloc (.cells ((List.replicate r.2.vars.length false).map .bool) 0 true)).get H.next=some (.cells x.cells 0 true):=by rw[aL,ah ac];exact g2
 clear R1 R1s bt m1s g1s;dsimp only[br]at m2;dsimp only[a0];refine fT fun K hK=>?_;refine qj ?_;have hrep:(List.replicate r.2.vars.length false).length=r.2.vars.length:=j9;have hasg:=Ou hG hX (n+1) n (cn _) x.bm _ b h2 ac R3 (q:=Y.next) fw nw2.2.2 (cn _) nw2.1 nw2.2.1 nv2;rw[hrep]at hasg;refine a8 ?_ hasg;clear hasg;rintro w H3 ⟨gb3,n3,q3⟩;simp only[aS]at n3 q3;have hq3:∀k,k<Y.next->H3.get k=Y.get k:=fun k z=>by rw[q3 k ac ac,aL,ah ac]
 have R4:zd1 X H3 S2 r.2 lv2 vv:=R2.keep ac fun k z _=>hq3 k z;clear q3 R3 g3;dsimp only[a0];refine mT ?_;refine cP [0,3,4,5,6] [] 8 r.2.vars.length (fun i E Hi=>∃a,E.at 7=a/\gM Hi a (zF (zG b i)) (Y.next+1)/\Sm (Y.next+1) H3 Hi) eE ⟨.ao,eE,.inl ⟨rfl,rfl⟩,⟨fun _ _=>rfl⟩⟩ ?_;rintro i E Hi hi hcE hrH hnH hsI ⟨a,iU,ha,hsm⟩;(try simp only[bz,a7,aV,aK,bb,Nat.reduceBEq, *]at hcE);(try simp only[a7, *]at hrH);(try simp only[aS,bK,cL,bR,Nat.reduceAdd]at hnH);by_cases C:i<r.2.vars.length
 .have hlt':(i:Int)<r.2.vars.length:=by omega
  have gbi:Hi.get Y.next=some (.cells (b.map .bool) 0 true):=by rw[hsm.get _ ac];exact gb3
  have hix:=U3 (q:=Y.next) C;have hld:=ziS gbi (m:=i) ac;have hws:=ziT b i;have hwl:=U4 b i;cases hbi:b.getD i false with
  |true=>
   rw[hbi]at hld;rw[hbi,ai rfl]at hws;obtain⟨v5,H5,cI,s5,n5,f5,o5'⟩:=L6 (H:=Hi.alloc (.cells [.int .i64 (i:Int)] 0 true)) (i:Int) (ha.keep (H':=Hi.alloc (.cells [.int .i64 (i:Int)] 0 true)) (dg _) fun k z=>by rw[aL,ah (by have:=(ha.lt z).2;omega)]) iF (r:=Hi.next) (imm:=0) fw (by simp only[dk];omega);have n5':Hi.next<=H5.next:=Hm
   refine uc (fun hb hbp=>?_);refine⟨ac,aW,aW,b8,Yb,?_⟩;exact⟨v5,eE,.inr (by rw[hws];simpa using s5),⟨fun k z=>by rw[f5 k z,aL,ah ac];exact hsm.get k z⟩⟩
  |false=>
   rw[hbi]at hld;rw[hbi,ah aB,bq]at hws;refine uc (fun hb hbp=>?_);refine⟨ac,aW,aW,b8,Yb,?_⟩;exact⟨a,eE,by rw[hws];exact ha,hsm⟩
 .have hlt':¬(i:Int)<r.2.vars.length:=by omega
  have hie:zG b i=bD b:=by rw[bD,hbl,show i=r.2.vars.length by omega];rfl
  rw[hie]at ha;have hwm:∀j∈bD b,j<r.2.vars.length:=fun j hj=>by have:=Bf hj;omega
  have hwl:(bD b).length<2^36:=by have:=U4 b b.length;have e:zG b b.length=bD b:=rfl;rw[e]at this;omega
  have hnd:=ziU b;generalize bD b=O at *;clear hie gb3 h2 hbl;have hi3:∀k,k<Y.next+1->Hi.get k=H3.get k:=hsm.get
  have hi2:∀k,k<Y.next->Hi.get k=Y.get k:=fun k z=>by rw[hi3 k ac,hq3 k z]
  have Ri:zd1 X Hi S2 r.2 lv2 vv:=R2.keep ac fun k z _=>hi2 k z;have W:zd6 X S2 vv (Y.next+1) Hi a (zF O):=⟨ha,fun k z=>by
   have:=R2.new (r:=k) (by have:=(ha.lt z).1;omega);exact⟨this.1,this.2.1,fun e=>by have:=(R2.nS k e).2.1;have:=(ha.lt z).1;omega⟩⟩
  have Fi:FrQ X S vv (H.alloc (.cells x.cells 0 true)) S2 vv Hi:=F02.same ac hi2;have gi:=gQ hR Fi;have mi:=Ri.m;have ni:H.next+1<=Hi.next:=Fi.next
  clear hsm R4 F02 hi3 ha hq3 hi2 R2 m2 g2;obtain⟨cv,H4,dO,c4,n4,q4⟩:=Ot (H:=Hi) Ri.vars.n ac;have R4:zd1 X H4 S2 r.2 lv2 vv:=Ri.keep ac fun k h _=>q4 k h;have W4:=W.same ac q4;have F4:=Fi.same ac q4;have C4:zf2 X S2 vv (Y.next+1) H4 cv r.2.vars:=⟨c4.lo fun k z=>by have:=(c4.lt z).1;omega,fun k z=>by
   have:=Ri.new (c4.lt z).1;exact⟨this.1,this.2.1,fun e=>by have:=(Ri.nS k e).2.1;have:=(c4.lt z).1;omega⟩⟩
  have dAC:∀k,a3 a k->¬a3 cv k:=fun k L h2=>by have:=(W.r.lt L).2;have:=(c4.lt h2).1;omega
  have m4:=R4.m;have g4:=gQ hR F4;have mia:=(Ri.alloc qo).m;have ew:=(U5 hln (j:=0) ac).1;have Rb:=R4.alloc (.cells [.int .i64 r.2.aa] 0 true);have Fb:=F4.alloc (.cells [.int .i64 r.2.aa] 0 true);have gb:=gQ hR Fb;have mb:=Rb.m;obtain⟨hc1,hc2⟩:=c4.one;clear W c4;dsimp only[br]at mi mia m4 mb;repeat' (first
   |(apply ay ?_;clear hK K)|apply aT ?_|(apply a2 ?_ ?_<;>(intro hb hbp;try(cases hb;done)))|(apply az fun K hK=>?_)|fail)
  refine qj ?_;refine a8 ?_ (vm hG Rb 3 (16*(s.loops:Int)) hFp);generalize hp:aj ⟨3,16*(s.loops:Int),[]⟩ r.2=p at *;have hpv:p.2.vars=r.2.vars:=by rw[<-hp];rfl
  rintro w H5 ⟨rfl,S5,lv5,R5,F5⟩;have kb:∀k,k<H4.next->(H4.alloc (.cells [.int .i64 r.2.aa] 0 true)).get k=H4.get k:=fun k z=>dT
  have W5:=(W4.same (dg _) kb).fr ac F5;have C5:=(C4.same (dg _) kb).fr ac F5;have V5:zd6 X S5 vv (Y.next+1) H5 (.sl H4.next 0 1 1) [r.2.aa]:=zd6.fr (X:=X) (H:=H4.alloc (.cells [.int .i64 r.2.aa] 0 true)) (S:=S2) (vv:=vv) ⟨.inr ⟨H4.next,0,rfl,iE,eR _,ac,cn _⟩,fun k z=>by
   have e:=Na z;have:=R4.new (r:=k) (by rw[e];exact aG _);exact⟨this.1,this.2.1,fun e2=>by have:=(R4.nS k e2).2.1;omega⟩⟩ ac F5
  have d5:∀k,a3 a k->¬a3 (.sl H4.next 0 1 1) k:=fun k L h2=>by
   have:=(W4.r.lt L).2;rw[Na h2]at this;omega
  have dC5:∀k,a3 cv k->¬a3 (.sl H4.next 0 1 1) k:=fun k L h2=>by
   have:=(C4.r.lt L).2;rw[Na h2]at this;omega
  have m5:=R5.m;obtain⟨R6,F6⟩:=R5.setS p.1;have F06:=Fb.trans (F5.trans F6);have W6:=W5.fr (X:=X) ac F6;have V6:=V5.fr (X:=X) ac F6;have C6:=C5.fr (X:=X) ac F6;have zU:=fun H'=>W5.r.len' (H':=H');have g6:=gQ hR F06;have n6:Y.next+1<=H5.next:=by have:=F5.next;simp only[aS]at this;omega
  clear R5 F5 Rb gb W5 V5 C5 Ri W4 C4 F4 R4 m4 mb gi mi mia Fi Fb kb g4;dsimp only[br]at m5 R6 F06 W6 V6 C6 g6;rw[dk]at zU;dsimp only[a0];refine mT ?_;have hdl1:∀j,j<O.length->r.2.vars[O.getD j 0]?=some (r.2.vars.getD (O.getD j 0) 0):=fun j hj=>by
   have:O.getD j 0<r.2.vars.length:=hwm _ (by rw[dC,aX hj];exact dE hj);generalize O.getD j 0=q at *;rw[dC,aX this];rfl
  have haw:∀j,j<O.length->(zF O)[j]?=some ((O.getD j 0:Nat):Int):=fun j hj=>by
   rw[fd,dC,aX hj];rfl
  have hdr:∀j,j<O.length->O.drop j=O.getD j 0::O.drop (j+1):=fun j hj=>by rw[i4 hj,dC,aX hj];rfl
  have htk:∀j,j<O.length->O.take (j+1)=O.take j++[O.getD j 0]:=fun j hj=>by rw[wX,dC,aX hj];rfl
  have hnt:∀j,j<O.length->O.getD j 0∉O.take j:=fun j hj hm=>by
   have h:=hnd;rw[<-JX j O,hdr j hj,List.nodup_append]at h;exact h.2.2 _ hm _ dM rfl
  refine cP [0,3,4,5,7,9,10] [] 12 O.length (fun j E Hj=>∃wv sj Sj lvj,E.at 11=wv/\fX (16*(s.loops:Int)+1) (O.drop j) j sj=fX (16*(s.loops:Int)+1) O 0 {p.2 with aa:=p.1} /\ sj.vars.length=r.2.vars.length/\zd1 X Hj Sj sj lvj vv/\FrQ X S vv (H.alloc (.cells x.cells 0 true)) Sj vv Hj/\zd6 X Sj vv (Y.next+1) Hj a (zF O)/\zf2 X Sj vv (Y.next+1) Hj cv r.2.vars/\zd6 X Sj vv (Y.next+1) Hj wv (r.2.aa::(O.take j).map fun i=>r.2.vars.getD i 0)/\(∀k,a3 a k->¬a3 wv k)/\∀k,a3 cv k->¬a3 wv k) eE ⟨_,_,S5,lv5,eE,by rw[gm],by rw[<-hp];rfl,R6,F06,W6,C6,V6,d5,dC5⟩ ?_;clear R6 F06 W6 V6 C6 d5 dC5 m5 g6;rintro j E Hj hj hcE hrH hnH hsI ⟨wv,sj,Sj,lvj,k11,hJ,hjv,Rj,Fj,Aj,Cj,Wj,dj,dCj⟩;(try simp only[bz,a7,aV,aK,bb,Nat.reduceBEq, *]at hcE);(try simp only[a7,bb, *]at hrH);(try simp only[bK,]at hnH);have mj:=Rj.m;dsimp only[br]at mj;have nj:Y.next+1<=Hj.next:=dt n6 hnH
  by_cases C:j<O.length
  .have hlt':(j:Int)<O.length:=by omega
   have I:=haw j C;have hvj:=hdl1 j C;have htj:=htk j C;have hwl1:O.getD j 0<sj.vars.length:=by rw[hjv];exact hwm _ X8
   rw[hdr j C]at hJ;rw[U6]at hJ;rw[htj];generalize O.getD j 0=w at *;generalize hy:r.2.vars.getD w 0=y at *;obtain⟨qa,ixa,lda⟩:=Aj.at I;obtain⟨qc',ixc,ldc,_⟩:=Cj.at hvj;obtain⟨qv,ixv,ldv,_⟩:=Rj.setV hwl1 0;obtain⟨e1,e2,e3⟩:=U5 hln (j:=j) ac;have e4:IntKind.wrap .i64 (16*(s.loops:Int)+1)=16*(s.loops:Int)+1:=fN ac ac;have e5:IntKind.wrap .i64 (16*(s.loops:Int)+1+j)=16*(s.loops:Int)+1+j:=fN ac ac;obtain⟨v',H',aI,W',R',n',q',own',_,_⟩:=Wj.fY Rj nj y ac (by simp only[fc,dk,oE];omega);have A':=Aj.other n' q' dj;have C':=Cj.other n' q' dCj;have F':=Fj.other n' q' (fun k z=>by have:=(Wj.r.lt z).1;simp only[aS];omega);have d':∀k,a3 a k->¬a3 v' k:=fun k L h2=>by
    rcases own' k h2 with e|e
    .exact dj k L e
    .have:=(Aj.r.lt L).2;omega
   have dC':∀k,a3 cv k->¬a3 v' k:=fun k L h2=>by
    rcases own' k h2 with e|e
    .exact dCj k L e
    .have:=(Cj.r.lt L).2;omega
   have m':=R'.m;have hFx:Fin (aj ⟨3,16*(s.loops:Int)+1+j,[]⟩ sj).2:=hFl.le (by rw[<-hJ];exact((sR _).setV _).trans (r4 _ _ _ _).1);have Z:=vm hG R' 3 (16*(s.loops:Int)+1+j) hFx;obtain⟨qa',ixa',lda'⟩:=A'.at I;rw[ixa]at ixa';simp only[am,AV.ptr.injEq,aV]at ixa';subst ixa';dsimp only[br]at m';clear dj dCj Aj Cj Wj q' own' Rj hvj;repeat' (first
    |(apply ay ?_;clear hK K)|apply aT ?_|(apply a2 ?_ ?_<;>(intro hb hbp;try(cases hb;done)))|(apply az fun K hK=>?_)|(apply bV 20 [(3,14),(3,16),(7,14),(7,16)] fun K hK=>?_)|(apply bB ?_;try intro _)|fail)
   refine qk ?_;refine a8 ?_ Z;generalize hpu:aj ⟨3,16*(s.loops:Int)+1+j,[]⟩ sj=pu at *;have hpuv:pu.2.vars=sj.vars:=by rw[<-hpu];rfl
   have hwl2:w<pu.2.vars.length:=by rw[hpuv];exact hwl1
   rintro u H7 ⟨rfl,S7,lv7,R7,F7⟩;obtain⟨q',V,hld',H8,hst,hq1,hq2,hq3,R8,F8,o8,n8⟩:=R7.setV hwl2 pu.1;have hqq:q'=qv:=by
    rw[ixv]at V;simp only[am,AV.ptr.injEq]at V;exact V.1.symm
   subst hqq;have A7:=A'.fr (X:=X) ac F7;have A8:=A7.fr (X:=X) ac F8;have C8:=(C'.fr (X:=X) ac F7).fr (X:=X) ac F8;have W8:=(W'.fr (X:=X) ac F7).fr (X:=X) ac F8;have F08:=F'.trans (F7.trans F8);obtain⟨qa7,ixa7,lda7⟩:=A7.at I;obtain⟨qa8,ixa8,lda8⟩:=A8.at I;rw[ixa]at ixa7 ixa8;simp only[am,AV.ptr.injEq,aV]at ixa7 ixa8;subst ixa7 ixa8;have m7:=R7.m;have m8:=R8.m;have n7:=F7.next
   have nj8:Hj.next<=H8.next:=ac
   have hjv':(pu.2.vars.set w pu.1).length=r.2.vars.length:=by rw[iB,hpuv];exact hjv
   have hmap:(r.2.aa::(O.take j).map fun i=>r.2.vars.getD i 0)++[y]=r.2.aa::(O.take j++[w]).map fun i=>r.2.vars.getD i 0:=by rw[rF,eC,oZ,hy];rfl
   rw[hmap]at W8;clear hpuv hmap hjv V A' W' C' F' hpu hld' A7;dsimp only[br]at m7 m8;dsimp only[a0];repeat' (first
    |(apply ay ?_;clear hK K)|apply a9 ?_|(apply az fun K hK=>?_)|(apply bB ?_;try intro _)|(apply bY ?_ ?_<;>clear hK K)|fail)
   .exact bM
   .refine⟨ac,aW,aW,b8,Ov,?_⟩;exact⟨v',_,S7,lv7,eE,hJ,hjv',R8,F08,A8,C8,W8,d',dC'⟩
  .have hlt':¬(j:Int)<O.length:=by omega
   have hd:O.drop j=[]:=oc ac;have ht:O.take j=O:=je ac;rw[hd]at hJ;rw[ht]at Wj;have hJ:sj=fX (16*(s.loops:Int)+1) O 0 {p.2 with aa:=p.1}:=hJ;rw[<-hJ]at hFl h3;have gj:=gQ hR Fj;have nj2:H.next+1<=Hj.next:=Fj.next
   clear hJ hd ht;repeat' (first
    |(apply ay ?_;clear hK K)|apply aT ?_|(apply a2 ?_ ?_<;>(intro hb hbp;try(cases hb;done)))|(apply az fun K hK=>?_)|fail)
   refine qj ?_;refine a8 ?_ (IH x.bm sj t h3 hFt ac ac Rj);rintro u H6 ⟨S6,lv6,vv6,R6,F6⟩;have A6:=Aj.fr (X:=X) ac F6;have W6:=Wj.fr (X:=X) ac F6;have C6:=Cj.fr (X:=X) ac F6;have F06:=Fj.trans F6;have nj6:Y.next+1<=H6.next:=dt nj F6.next
   have g6:=gQ hR F06;clear Rj Fj Aj Wj Cj F6 gj mj;dsimp only[a0];refine fT fun K hK=>?_;refine qj ?_;refine a8 ?_ (vn hG hX n x.value t d h4 hFd R6);rintro u H7 ⟨rfl,S7,lv7,R7,F7⟩;have A7:=A6.fr (X:=X) ac F7;have W7:=W6.fr (X:=X) ac F7;have C7:=C6.fr (X:=X) ac F7;have F07:=F06.trans F7;have m7:=R7.m;have n7:H.next+1<=H7.next:=F07.next
   have nj7:Y.next+1<=H7.next:=dt nj6 F7.next
   clear R6 F06 A6 W6 C6 F7 g6;dsimp only[br]at m7;dsimp only[a0];have hwlen:(r.2.aa::O.map fun i=>r.2.vars.getD i 0).length<2^37:=by simp only[fc,dk];omega
   obtain⟨kv,H9,ro,K9,R9,n9,q9,own9⟩:=W7.gi (m:=[d.1,d.2.aa]) R7 nj7 aB ac (by simp only[pD]at hwlen⊢;omega);have A9:=A7.other n9 q9 dj;have C9:=C7.other n9 q9 dCj;have F9:=F07.other n9 q9 (fun k z=>by have:=(W7.r.lt z).1;simp only[aS];omega);have dA9:∀k,a3 a k->¬a3 kv k:=fun k L h2=>by
    rcases own9 k h2 with e|e
    .exact dj k L e
    .have:=(A7.r.lt L).2;omega
   have dC9:∀k,a3 cv k->¬a3 kv k:=fun k L h2=>by
    rcases own9 k h2 with e|e
    .exact dCj k L e
    .have:=(C7.r.lt L).2;omega
   have l9a:=fun H'=>A9.r.len' (H':=H');rw[dk]at l9a;simp only[eC,oZ,pD,bR,Nat.reduceAdd]at ro;clear R7 F07 A7 W7 C7 dj dCj own9 q9;refine mT ?_;have hdv:∀w,w<r.2.vars.length->d.2.vars[w]?=some (d.2.vars.getD w 0):=fun w hw=>by
    rw[dC,aX ac];rfl
   have hwj0:∀j,j<O.length->O.getD j 0<r.2.vars.length:=fun j C=>hwm _ X8;refine cP [0,3,4,5,7,9,10] [] 14 O.length (fun j E Hj=>∃kj,E.at 11=kj/\zd1 X Hj S7 d.2 lv7 vv6/\FrQ X S vv (H.alloc (.cells x.cells 0 true)) S7 vv6 Hj/\zd6 X S7 vv6 (Y.next+1) Hj a (zF O)/\zf2 X S7 vv6 (Y.next+1) Hj cv r.2.vars/\zd6 X S7 vv6 (Y.next+1) Hj kj (r.2.aa::(O.map fun i=>r.2.vars.getD i 0)++[d.1,d.2.aa]++((O.take j).map fun i=>d.2.vars.getD i 0))/\(∀k,a3 a k->¬a3 kj k)/\∀k,a3 cv k->¬a3 kj k) eE ⟨kv,eE,R9,F9,A9,C9,by rw[AP,oZ,bq];exact K9,dA9,dC9⟩ ?_;clear R9 F9 A9 C9 K9 dA9 dC9 m7 ro;rintro j E Hj hj hcE hrH hnH hsI ⟨kj,k11,Rj,Fj,Aj,Cj,Kj,dAj,dCj⟩;(try simp only[bz,a7,aV,aK,Nat.reduceBEq, *]at hcE);(try simp only[a7, *]at hrH);(try simp only[aS,bK,cL,bR,Nat.reduceAdd]at hnH);have mj:=Rj.m;dsimp only[br]at mj;have nj:Y.next+1<=Hj.next:=ac
   by_cases C:j<O.length
   .have hlt':(j:Int)<O.length:=by omega
    have I:=haw j C;have hvj:=hdv _ (hwj0 j C);have htj:=htk j C;rw[htj];generalize O.getD j 0=w at *;generalize hy:d.2.vars.getD w 0=y at *;obtain⟨qa,ixa,lda⟩:=Aj.at I;obtain⟨qv,ixv,ldv⟩:=Rj.atV hvj;obtain⟨v',H',aI,K',R',n',q',own',gk,n''⟩:=Kj.fY Rj nj y ac (by simp only[fx,fc,dk,oE,jQ];omega);have A':=Aj.other n' q' dAj;have C':=Cj.other n' q' dCj;have F':=Fj.other n' q' (fun k z=>by have:=(Kj.r.lt z).1;simp only[aS];omega);have dA':∀k,a3 a k->¬a3 v' k:=fun k L h2=>by
     rcases own' k h2 with e|e
     .exact dAj k L e
     .have:=(Aj.r.lt L).2;omega
    have dC':∀k,a3 cv k->¬a3 v' k:=fun k L h2=>by
     rcases own' k h2 with e|e
     .exact dCj k L e
     .have:=(Cj.r.lt L).2;omega
    have hmap:(r.2.aa::(O.map fun i=>r.2.vars.getD i 0)++[d.1,d.2.aa]++((O.take j).map fun i=>d.2.vars.getD i 0))++[y]=r.2.aa::(O.map fun i=>r.2.vars.getD i 0)++[d.1,d.2.aa]++((O.take j++[w]).map fun i=>d.2.vars.getD i 0):=by rw[rF,eC,oZ,hy];simp
    rw[hmap]at K';have Rja:=Rj.alloc (.cells [.int .i64 y] 0 true);have Aja:=Aj.same (dg _) (H':=Hj.alloc (.cells [.int .i64 y] 0 true)) fun k z=>dT;obtain⟨qa',ixa',lda'⟩:=A'.at I;obtain⟨qa2,ixa2,ldaa⟩:=Aja.at I;obtain⟨qv',ixv',ldv'⟩:=R'.atV hvj;obtain⟨qv2,ixv2,ldva⟩:=Rja.atV hvj;rw[ixa]at ixa' ixa2;rw[ixv]at ixv' ixv2;simp only[am,AV.ptr.injEq,aV]at ixa' ixa2 ixv' ixv2;subst ixa' ixa2 ixv' ixv2;have m':=R'.m;have mja:=Rja.m;dsimp only[br]at m' mja;clear hmap dAj dCj Aj Cj Kj q' own' Rj Rja Aja hvj;repeat' (first
     |(apply ay ?_;clear hK K)|apply aT ?_|(apply a2 ?_ ?_<;>(intro hb hbp;try(cases hb;done)))|(apply az fun K hK=>?_)|(apply bV 27 [(4,12),(8,12),(10,12),(11,12)] fun K hK=>?_)|(apply bB ?_;try intro _)|(apply bY ?_ ?_<;>clear hK K)|fail)
    .exact bM
    .refine⟨ac,aW,aW,b8,Ov,?_⟩;exact⟨v',eE,R',F',A',C',K',dA',dC'⟩
   .have hlt':¬(j:Int)<O.length:=by omega
    have ht:O.take j=O:=je ac;rw[ht]at Kj;clear ht;have Z:=Jr (lo:=Y.next+1) hG Rj ⟨31,s.loops,r.2.aa::(O.map fun i=>r.2.vars.getD i 0)++[d.1,d.2.aa]++(O.map fun i=>d.2.vars.getD i 0)⟩ Kj.r (by rw[z];exact hFk);rw[z]at Z;repeat' (first
     |(apply ay ?_;clear hK K)|apply aT ?_|(apply a2 ?_ ?_<;>(intro hb hbp;try(cases hb;done)))|(apply az fun K hK=>?_)|fail)
    refine qj ?_;refine a8 ?_ Z;rintro u J ⟨rfl,S10,lv10,R10,F10⟩;have A10:=Aj.fr (X:=X) ac F10;have C10:=Cj.fr (X:=X) ac F10;have F010:=Fj.trans F10;have n10:Hj.next<=J.next:=F10.next
    clear Rj Fj Aj Cj Kj dAj dCj Z mj F10;have m10:=R10.m;have hkv:k.2.vars=d.2.vars:=by rw[<-z];rfl
    have R11:=R10.swapV (vw:=cv) (l:=r.2.vars) (C10.r.lo fun k _=>eR _) (fun k z=>⟨by have:=(C10.r.lt z).1;omega,(C10.r.lt z).2,(C10.n k z).1,(C10.n k z).2.2⟩);have hk11:∀q,q≠X.b->(J.set X.b (.cells (br X {k.2 with vars:=r.2.vars} lv10 cv) 0 true)).get q=J.get q:=fun q hq=>by rw[aQ,ah hq]
    have F11:FrQ X S vv (H.alloc (.cells x.cells 0 true)) S10 cv (J.set X.b (.cells (br X {k.2 with vars:=r.2.vars} lv10 cv) 0 true)):=⟨F010.next,fun k L h2 h4 h5=>by rw[hk11 k h2];exact F010.get k L h2 h4 h5,F010.sub,fun k z=>.inr (by have:=(C10.r.lt z).1;simp only[aS];omega)⟩;have hAC:∀q,a3 a q->¬a3 cv q:=dAC;have A11:zd6 X S10 cv (Y.next+1) (J.set X.b (.cells (br X {k.2 with vars:=r.2.vars} lv10 cv) 0 true)) a (zF O):=⟨A10.r.keep (aG _) fun q hq=>hk11 q (by have:=(A10.r.lt hq).1;omega),fun q hq=>⟨(A10.n q hq).1,hAC q hq,(A10.n q hq).2.2⟩⟩;clear A10 C10 F010 hk11;have R11a:=R11.alloc (.cells [.int .i64 k.1] 0 true);have F11a:=(fS X S10 cv (J.set X.b (.cells (br X {k.2 with vars:=r.2.vars} lv10 cv) 0 true))).alloc (.cells [.int .i64 k.1] 0 true);have Z:=mS hG R11a ⟨25,0,[k.1]⟩ rfl iE (cn _) hFf rfl rfl;have n11:(J.set X.b (.cells (br X {k.2 with vars:=r.2.vars} lv10 cv) 0 true)).next=J.next:=rfl
    dsimp only[br]at m10 R11 F11 F11a A11 Z n11;rw[n11]at Z;dsimp only[a0];refine fT fun K hK=>?_;refine qj ?_;refine a8 ?_ Z;generalize hf:aj ⟨25,0,[k.1]⟩ {k.2 with vars:=r.2.vars}=f at *;rintro u H12 ⟨rfl,S12,lv12,R12,F12⟩;have F012:=F11.trans (F11a.trans F12);have kb:∀q,q<J.next->(Hp.alloc (Hp.set J X.b (.cells [.aE (X.p.ab.map Ar.cells),.aE (X.p.funcs.map Fu.cells),lv10,X.nv,cv,.int .i64 k.2.aa,.int .i64 k.2.loops] 0 true)) (.cells [.int .i64 k.1] 0 true)).get q=(Hp.set J X.b (.cells [.aE (X.p.ab.map Ar.cells),.aE (X.p.funcs.map Fu.cells),lv10,X.nv,cv,.int .i64 k.2.aa,.int .i64 k.2.loops] 0 true)).get q:=fun q hq=>by rw[aL,ah eZ]
    have A12:=(A11.same (dg _) kb).fr (X:=X) ac F12;have n12:J.next+1<=H12.next:=F12.next
    clear R11 R11a F11 F11a A11 kb F12 Z;dsimp only[a0];refine fT fun K hK=>?_;refine qj ?_;refine a8 ?_ (BI hG R12 r.1 f.1 r.2.aa (by rw[hm];exact hFm));rw[hm];rintro u H13 ⟨rfl,S13,lv13,R13,F13⟩;have m13:=R13.m;obtain⟨R14,F14⟩:=R13.setS m.1;have F014:=F012.trans (F13.trans F14);have A14:=(A12.fr (X:=X) ac F13).fr (X:=X) ac F14;have n13:H12.next<=H13.next:=F13.next
    have l14:=fun H'=>A14.r.len' (H':=H');rw[dk]at l14;dsimp only[br]at m13 R14 F014 A14;dsimp only[a0];refine mT ?_;refine cP [0,3,5,7,9,15] [] 17 O.length (fun j E Hj=>∃sj Sj lvj,fj k.1 r.1 r.2.vars (O.drop j) (j+1) sj=fj k.1 r.1 r.2.vars O 1 {m.2 with aa:=m.1} /\ sj.vars.length=r.2.vars.length/\(∀i,i∉O.take j->sj.vars[i]?=r.2.vars[i]?)/\zd1 X Hj Sj sj lvj cv/\FrQ X S vv (H.alloc (.cells x.cells 0 true)) Sj cv Hj/\zd6 X Sj cv (Y.next+1) Hj a (zF O)) eE ⟨{m.2 with aa:=m.1},S13,lv13,by rw[gm],by rw[<-hmv],fun i _=>by rw[<-hmv],R14,F014,A14⟩ ?_;clear R14 F014 A14 m13 R12 R13 F13 F14 F012 A12;rintro i3 E3 Hi3 hi3 hcE hrH hnH hsI ⟨sj,Sj,lvj,hJ,hjv,hjo,Rj,Fj,Aj⟩;(try simp only[bz,a7,aV,aK,bb,Nat.reduceBEq, *]at hcE);(try simp only[a7,bb, *]at hrH);(try simp only[bK,]at hnH);have mj:=Rj.m;dsimp only[br]at mj;have nj:Y.next+1<=Hi3.next:=ac
    by_cases C:i3<O.length
    .have hlt':(i3:Int)<O.length:=by omega
     have I:=haw i3 C;have hvj:=hdl1 i3 C;have hnj:=hnt i3 C;have htj:=htk i3 C;have hwl1:O.getD i3 0<sj.vars.length:=by rw[hjv];exact hwj0 i3 C
     rw[hdr i3 C,U7]at hJ;rw[<-hjo _ hnj]at hvj;rw[htj];generalize O.getD i3 0=w at *;generalize r.2.vars.getD w 0=y at *;have hsx:IntKind.wrap .i64 (1+(i3:Int))=((i3+1:Nat):Int):=Hn;have hFq:Fin (a5 r.1 (aj ⟨25,((i3+1:Nat):Int),[k.1]⟩ sj).1 y (aj ⟨25,((i3+1:Nat):Int),[k.1]⟩ sj).2).2:=hF.le (by rw[<-hJ];exact((sR _).setV _).trans (uU _ _ _ _ _ _).1);have hFq0:Fin (aj ⟨25,((i3+1:Nat):Int),[k.1]⟩ sj).2:=hFq.le (eB _ _ _ _).le;have Rja:=Rj.alloc (.cells [.int .i64 k.1] 0 true);have Z:=mS hG Rja ⟨25,((i3+1:Nat):Int),[k.1]⟩ rfl iE (cn _) hFq0 rfl rfl;repeat' (first
      |(apply ay ?_;clear hK K)|apply aT ?_|(apply a2 ?_ ?_<;>(intro hb hbp;try(cases hb;done)))|(apply az fun K hK=>?_)|fail)
     refine qj ?_;refine a8 ?_ Z;generalize hg:aj ⟨25,((i3+1:Nat):Int),[k.1]⟩ sj=g at *;have hgv:g.2.vars=sj.vars:=by rw[<-hg];rfl
     rintro u H14 ⟨rfl,S14,lv14,R14,F14'⟩;have F14:=((fS X Sj cv Hi3).alloc (.cells [.int .i64 k.1] 0 true)).trans F14';have A14:=Aj.fr (X:=X) ac F14;have F014:=Fj.trans F14;have n14:Hi3.next<=H14.next:=F14.next
     have m14:=R14.m;obtain⟨qa,ixa,lda⟩:=A14.at I;obtain⟨qv,ixv,ldv⟩:=R14.atV (i:=w) (x:=y) (by rw[hgv];exact hvj);clear Rja Z F14 F14' Fj Aj;dsimp only[br]at m14;dsimp only[a0];repeat' (first
      |(apply ay ?_;clear hK K)|apply a9 ?_|(apply bV 36 [(3,18),(3,20),(7,18),(7,20),(15,18),(17,18)] fun K hK=>?_)|(apply bB ?_;try intro _)|fail)
     refine qk ?_;refine a8 ?_ (BI hG R14 r.1 g.1 y hFq);generalize hmq:a5 r.1 g.1 y g.2=mq at *;have hmqv:mq.2.vars=sj.vars:=by rw[<-hmq,(eB _ _ _ _).v];exact hgv
     have hwl2:w<mq.2.vars.length:=by rw[hmqv];exact hwl1
     rintro u H15 ⟨rfl,S15,lv15,R15,F15⟩;obtain⟨q',V,hld',H16,hst,hq1,hq2,hq3,R16,F16,o16,n16⟩:=R15.setV hwl2 mq.1;have hqq:q'=qv:=by
      rw[ixv]at V;simp only[am,AV.ptr.injEq]at V;exact V.1.symm
     subst hqq;have A15:=A14.fr (X:=X) ac F15;have A16:=A15.fr (X:=X) ac F16;have F016:=F014.trans (F15.trans F16);obtain⟨qa5,ixa5,lda5⟩:=A15.at I;obtain⟨qa6,ixa6,lda6⟩:=A16.at I;rw[ixa]at ixa5 ixa6;simp only[am,AV.ptr.injEq,aV]at ixa5 ixa6;subst ixa5 ixa6;obtain⟨qv5,ixv5,ldv5⟩:=R15.atV (i:=w) (x:=y) (by rw[hmqv];exact hvj);rw[ixv]at ixv5;simp only[am,AV.ptr.injEq,aV]at ixv5;subst ixv5;have m15:=R15.m;have m16:=R16.m;have n15:H14.next<=H15.next:=F15.next
     have nj16:Hi3.next<=H16.next:=ac
     have hjv':(mq.2.vars.set w mq.1).length=r.2.vars.length:=by rw[iB,hmqv];exact hjv
     have hjo':∀i,i∉O.take i3++[w]->(mq.2.vars.set w mq.1)[i]?=r.2.vars[i]?:=fun i hi=>by
      rw[uk,not_or,oM]at hi;rw[oG,ah (fun e=>hi.2 e.symm),hmqv];exact hjo i hi.1
     clear hmqv hjv hjo V hld' hmq A14 A15 Rj R14 hgv hg;dsimp only[br]at m15 m16;dsimp only[a0];repeat' (first
      |(apply ay ?_;clear hK K)|apply a9 ?_|(apply az fun K hK=>?_)|(apply bB ?_;try intro _)|(apply bY ?_ ?_<;>clear hK K)|fail)
     .exact bM
     .refine⟨ac,aW,aW,b8,Ov,?_⟩;exact⟨_,S15,lv15,hJ,hjv',hjo',R16,F016,A16⟩
    .have hlt':¬(i3:Int)<O.length:=by omega
     have hd:O.drop i3=[]:=oc ac;rw[hd]at hJ;have hJ:sj=fj k.1 r.1 r.2.vars O 1 {m.2 with aa:=m.1}:=hJ;refine JF ?_;all_goals refine qi ?_
     rw[<-hJ];exact⟨Sj,lvj,cv,Rj,F1.trans Fj⟩
end
end
section
def tyQaJ.tyF:=ad @cG (ad @eG (ad @i7 (ad @jh (ad @iC (ad @kg (ad @dm (ad @ij (ad @l8 (ad @jU (ad @ey (ad @gC (ad @jx (@vW)))))))))))))
open tyQaJ
noncomputable def Yd:=qd (M:=17) f68.eq_1
section
variable {tb:qH} (hG:zd8 tb) {X:Qx} {c:Cx} (hX:CxQ X c)
set_option maxRecDepth 100000 in
include hG hX in
def zmR(I:∀m,m<n->Jt tb X c m){x:St}{r:Bd}(h:lL c n x s=some r)(Z:Fin r)(O:x.sz<2^36)(L:s.vars.length<2^36){lv vv:AV}(C:zd1 X H S s lv vv):
 aR prog (aA pls tb) 108 [.ptr X.b 0,.agg x.cells] H (r6 X S vv H r):=by
 cases n with
 |zero=>simp[lL]at h
 |succ n=>
 have hw:zd0 (aA pls tb) 108:=hG.plain cN;have R1:=C.alloc (.cells x.cells 0 true);have F1:=(fS X S vv H).alloc (.cells x.cells 0 true);unfold lL at h;by_cases k1:x.az=1
 .rw[ai k1]at h;simp only[aC]at h;obtain⟨v,j,h⟩:=h;split at h
  .rename_i z;cases h;exact zmI hG hX k1 j z ⟨Z.r,Z.l,Z.n⟩ C
  .cases h
 rw[ah k1]at h;by_cases k2:x.az=2
 .rw[ai k2]at h;simp only[iG]at h;obtain⟨i,j,v,Y,a,ha,rfl⟩:=h;exact zmJ hG hX k2 j Y ha ⟨Z.r,Z.l,Z.n⟩ C
 rw[ah k2]at h;by_cases ee:x.az=3
 .rw[ai ee]at h;simp only[iG]at h;obtain⟨q,j,a,Y,b,V,m,h4,rfl⟩:=h;exact zmP hG hX ee (I n (cn n)) j Y V h4 ⟨Z.r,Z.l,Z.n⟩ O L C
 rw[ah ee]at h;by_cases fm:x.az=4
 .rw[ai fm]at h;cases n with
  |zero=>simp[mn]at h
  |succ n=>
  unfold mn at h;simp only[iG]at h;obtain⟨q,j,b,hb,t,Y,d,V,rfl⟩:=h;have J:=zmQ hG hX (I n ac) j hb Y V rfl rfl Z O L R1;refine qe hw func108 oC ?_;dsimp only[oC,qd,a1,Nat.reduceAdd];repeat' (first
   |(apply ay ?_;clear hK K)|apply aT ?_|(apply a2 ?_ ?_<;>(intro hb hbp;try(cases hb;done)))|(apply az fun K hK=>?_)|fail)
  refine qj ?_;refine a8 ?_ J;intro w H2 Y;have V:=Y.ef F1;clear Y J;dsimp only[a0];refine mT ?_;all_goals refine qi ?_
  exact V
 rw[ah fm]at h;by_cases dF:x.az=5
 .rw[ai dF]at h;simp only[iG]at h;obtain⟨v,j,rfl⟩:=h;exact zmK hG hX dF j ⟨Z.r,Z.l,Z.n⟩ C
 rw[ah dF]at h;by_cases k6:x.az=6
 .rw[ai k6]at h;simp only[aC]at h;obtain⟨av,j,h⟩:=h;split at h
  .rename_i hc;cases h;exact zmO hG hX k6 j hc.2 O ⟨Z.r,Z.l,Z.n⟩ C
  .cases h
 rw[ah k6]at h;by_cases iU:x.az=7
 .rw[ai iU]at h;cases h;exact zmL hG hX iU Z C
 rw[ah iU]at h;cases h;exact zmM hG k1 k2 ee fm dF k6 iU C
set_option maxRecDepth 100000 in
include hG hX in
theorem Ye:∀(N n:Nat),n<N->Jt tb X c n
 |0,n,hn=>by omega
 |N+1,n,hn=>fun l s r h hF hz hvl H S lv vv hR=>by
  have hw:zd0 (aA pls tb) 68:=hG.plain cN;have hll:=yL l;refine qe hw func68 Yd ?_;dsimp only[Yd,qd,a1,Nat.reduceAdd];refine mA ?_;refine cP [0,1] [] 4 l.length (fun i E z=>∃m Z j Y O,m<=n/\fH c m (l.drop i) Z=some r/\Z.vars.length=s.vars.length/\zd1 X z j Z Y O/\FrQ X S vv H j O z) eE ⟨n,s,S,lv,vv,aG _,h,rfl,hR,fS _ _ _ _⟩ ?_;rintro i E z hi hcE hrH hnH hsI ⟨m,Z,j,Y,O,hm,I,L,Ri,Fi⟩;(try simp only[bz,a7,aV,aK,bb,Nat.reduceBEq, *]at hcE);(try simp only[a7, *]at hrH);(try simp only[aS,bK,cL,bR,Nat.reduceAdd]at hnH);by_cases C:i<l.length
  .have V:(i:Int)<l.length:=by omega
   have hgx:l[i]?=some l[i]:=aX C;have hmem:=tz (dE C);cases m with
   |zero=>simp[fH]at I
   |succ m=>
   rw[i4 C]at I;unfold fH at I;simp only[aC]at I;obtain⟨q,h1,h2⟩:=I;generalize l[i]=x at *;have hFq:Fin q:=hF.le ((jl c m).2.1 _ _ _ h2).1;have hql:=((jl c m).1 _ _ _ h1).2;repeat' (first
    |(apply ay ?_;clear hK K)|apply aT ?_|(apply a2 ?_ ?_<;>(intro hb hbp;try(cases hb;done)))|(apply az fun K hK=>?_)|fail)
   refine qj ?_;refine a8 ?_ (zmR hG hX (fun k hk=>Ye N k ac) h1 hFq ac ac Ri);rintro w H3 ⟨S3,lv3,vv3,R3,ea⟩;have F03:=Fi.trans ea;have n3:z.next<=H3.next:=ea.next
   have J:q.vars.length=s.vars.length:=ac;clear hql L;dsimp only[a0];refine mA ?_;refine⟨ac,aW,aW,b8,sJ,?_⟩;exact⟨m,q,S3,lv3,vv3,ac,h2,J,R3,F03⟩
  .have V:¬(i:Int)<l.length:=by omega
   have hd:l.drop i=[]:=oc ac;rw[hd]at I;cases m with
   |zero=>simp[fH]at I
   |succ m=>
   have I:Z=r:=by unfold fH at I;simpa using I
   subst I;clear L;refine JF ?_;all_goals refine qi ?_
   exact⟨j,Y,O,Ri,Fi⟩
end
end
section
abbrev Qx.nx(X:Qx)(nv:AV)(ns:List aY):Qx:={X with nv:=nv,ns:=ns}
structure FrM (b:Nat) (bZ:Hp) (S:Nat->Prop) (vv nv:AV) (H:Hp):Prop where
 next:bZ.next<=H.next
 get:∀k,k<bZ.next->k≠b->H.get k=bZ.get k
 sub:∀k,S k->bZ.next<=k
 own:∀k,a3 vv k->bZ.next<=k
 fF:∀k,a3 nv k->bZ.next<=k
def FrM.fr{bZ:Hp}{vv:AV}(h:FrM X.b bZ S vv X.nv H)(f:FrQ X S vv H S' j H'):FrM X.b bZ S' j X.nv H' where
 next:=dt h.next f.next
 get k h1 h2:=by
  rw[f.get k (iy h1 h.next) h2 (fun e=>by have:=h.sub k e;omega) (fun e=>by have:=h.own k e;omega)];exact h.get k h1 h2
 sub k e:=by
  rcases f.sub k e with e|e
  .exact h.sub k e
  .exact dt h.next e
 own k e:=by
  rcases f.own k e with e|e
  .exact h.own k e
  .exact dt h.next e
 fF:=h.fF
def zS:=@FrM.fr
def zd1.et{lv vv:AV}(h:zd1 X H S s lv vv)(nm:aY)(hl:X.ns.length<2^36):
 ∃C H',dr prog false (H.alloc (.cells [.ay nm] 0 true)) 66 66 X.nv (.sl H.next 0 1 1)=some (C,H')/\AV.one C=true/\C.cells=[C]/\H'.get X.b=some (.cells (br X s lv vv) 0 true)/\H.next+1<=H'.next/\(∀k,k<H.next->¬a3 X.nv k->H'.get k=H.get k)/\H'.get H.next=some (.cells [.ay nm] 0 true) /\
  zd1 (X.nx C (X.ns++[nm])) (H'.set X.b (.cells (br (X.nx C (X.ns++[nm])) s lv vv) 0 true)) S s lv vv/\(∀k,a3 C k->a3 X.nv k\/H.next<=k):=by
 have o5:=h.o5;have hb:∀k,k<H.next->(H.alloc (.cells [.ay nm] 0 true)).get k=H.get k:=fun k z=>dT
 have hv:eU (H.alloc (.cells [.ay nm] 0 true)) X.nv X.ns 0:=h.nm.keep (dg _) fun k z=>hb k (h.nS k z).2.1;obtain⟨C,H',aI,a6,cp,dO,cI⟩:=Du (r:=H.next) (imm:=0) nm hv (eR _) fw ac;simp only[aS]at cp;have Z:∀k,k<H.next->¬a3 X.nv k->H'.get k=H.get k:=fun k j h2=>by rw[cI.1 k iF h2,hb k j]
 have V:∀k,a3 C k->a3 X.nv k\/H.next<=k:=fun k z=>by
  rcases cI.2 k z with e|e
  .exact .inl e
  .exact .inr (by simp only[aS]at e;omega)
 have L:¬a3 X.nv X.b:=fun e=>by have:=(h.nS _ e).1;omega
 have Y:H'.get H.next=some (.cells [.ay nm] 0 true):=by rw[cI.1 _ iF fun e=>by have:=(h.nS _ e).2.1;omega,aL,ai rfl]
 have hg:∀k,k≠X.b->(H'.set X.b (.cells (br (X.nx C (X.ns++[nm])) s lv vv) 0 true)).get k=H'.get k:=fun k z=>uh;obtain⟨O,J⟩:=a6.one;have I:∀k,a3 C k->k<H'.next:=fun k z=>(a6.lt z).2
 have hn:H.next+1<=H'.next:=ac
 refine⟨C,H',aI,O,J,by rw[Z _ o5 L];exact h.m,hn,Z,Y,⟨iW,?_,h.af.keep (fun _ _ h=>h) eZ fun k z h6=>by rw[hg k (by have:=(h.sS k z).1;omega),Z k h6 fun e=>(h.nS k e).2.2.1 z],h.vars.keep eZ fun k z=>by rw[hg k (by have:=(h.vS k z).1;omega),Z k (h.vS k z).2 fun e=>(h.nS k e).2.2.2 z],by simp only[bK];show X.b<H'.next;omega,fun k z=>?_,fun k z=>?_,fun k z=>?_⟩,V⟩
 .have m:eU H' C (X.ns++[nm]) 0:=.inr a6;refine m.keep (aG _) fun k z=>hg k fun e=>?_;rcases V k z with q|q
  .have:=(h.nS k q).1;omega
  .omega
 .have j:=I k z;rcases V k z with q|q
  .have:=h.nS k q;exact⟨this.1,by simp only[bK];exact j,this.2.2⟩
  .have:=h.new q;exact⟨this.2.2,by simp only[bK];exact j,this.1,this.2.1⟩
 .have:=h.sS k z;exact⟨this.1,eZ,this.2.2⟩
 .have:=h.vS k z;exact⟨this.1,eZ⟩
def zd1.fm{lv vv:AV}(h:zd1 X H S s lv vv)(x:Int)(hl:s.vars.length<2^36):
 ∃C H',dr prog false (H.alloc (.cells [.int .i64 x] 0 true)) 26 26 vv (.sl H.next 0 1 1)=some (C,H')/\AV.one C=true/\C.cells=[C]/\H'.get X.b=some (.cells (br X s lv vv) 0 true)/\H'.next=H.next+2/\(∀k,k<H.next->¬a3 vv k->H'.get k=H.get k) /\
  zd1 X (H'.set X.b (.cells (br X {s with vars:=s.vars++[x] } lv C) 0 true)) S {s with vars:=s.vars++[x] } lv C /\
  FrQ X S vv H S C (H'.set X.b (.cells (br X {s with vars:=s.vars++[x] } lv C) 0 true)):=by
 have o5:=h.o5;have hv:jy (H.alloc (.cells [.int .i64 x] 0 true)) vv s.vars 0:=h.vars.keep (dg _) fun k z=>by rw[aL,ah (by have:=(h.vS k z).2;omega)]
 have hx:gg (H.alloc (.cells [.int .i64 x] 0 true)) 1 (.sl H.next 0 1 1)=some ([x].length,[x].map (.int .i64)):=xG (m:=[x]) (imm:=0) iE;obtain⟨C,H',aI,a6,cp,dO,cI,eO⟩:=L8 hv (eR _) hx aB cZ;simp only[aS]at cp cI eO;have Z:∀k,k<H.next->¬a3 vv k->H'.get k=H.get k:=fun k j V=>by rw[cI k ac V,aL,ah ac]
 have O:¬a3 vv X.b:=fun e=>by have:=(h.vS _ e).1;omega
 have I:=jy.one (.inr a6);have hg:∀k,k≠X.b->(H'.set X.b (.cells (br X {s with vars:=s.vars++[x] } lv C) 0 true)).get k=H'.get k:=fun k z=>uh;refine⟨C,H',aI,I.1,I.2,by rw[Z _ o5 O];exact h.m,ac,Z,⟨iW,h.nm.keep eZ fun k z=>by rw[hg k (by have:=(h.nS k z).1;omega),Z k (h.nS k z).2.1 (h.nS k z).2.2.2],h.af.keep (fun _ _ h=>h) eZ fun k z J=>by rw[hg k (by have:=(h.sS k z).1;omega),Z k J (h.sS k z).2.2],?_,eZ,fun k z=>⟨(h.nS k z).1,by have:=(h.nS k z).2.1;simp only[bK];omega,(h.nS k z).2.2.1,fun e=>?_⟩,fun k z=>⟨(h.sS k z).1,by have:=(h.sS k z).2.1;simp only[bK];omega,fun e=>?_⟩,fun k z=>?_⟩,⟨eZ,fun k j V _ h5=>by rw[hg k V,Z k j h5],fun _ h=>.inl h,fun k z=>?_⟩⟩
 .have L:jy H' C (s.vars++[x]) 0:=.inr a6;exact L.keep (aG _) fun k z=>hg k fun e=>by
   rcases eO k z with q|q
   .have:=(h.vS k q).1;omega
   .omega
 .rcases eO k e with q|q
  .exact(h.nS k z).2.2.2 q
  .have:=(h.nS k z).2.1;omega
 .rcases eO k e with q|q
  .exact(h.sS k z).2.2 q
  .have:=(h.sS k z).2.1;omega
 .have Y:k<H'.next:=(jy.lt (.inr a6) z).2
  rcases eO k z with q|q
  .exact⟨(h.vS k q).1,Y⟩
  .exact⟨ac,Y⟩
 .rcases eO k z with q|q
  .exact .inl q
  .exact .inr ac
def zmS(H:Hp)(l:qT)(V:l.length<2^36):∃Z H',dr prog false (H.alloc qo) 22 22 (.sl H.next 0 0 2) (.aE (l.map Ar.cells))=some (Z,H')/\eN (fun k=>H.next<=k) 1 H' 2 Z (l.map Ar.cells)/\H.next+1<=H'.next/\(∀k,k<H.next->H'.get k=H.get k):=by
 have j:∀x∈l.map Ar.cells,x.length=2:=fun x I=>by obtain⟨a,_,rfl⟩:=so.1 I;exact a.bY
 have I:=ziC (H:=H.alloc qo) j;rw[dk]at I;have hb:∀k,k<H.next->(H.alloc qo).get k=H.get k:=fun k z=>dT
 have hg:(H.alloc qo).get H.next=some qo:=fw
 by_cases c:l=[]
 .subst c;refine⟨.sl H.next 0 0 2,_,?_,.inr ⟨H.next,0,[],rfl,aG _,cn _,hg,aG _,trivial⟩,aG _,hb⟩;simp only[dr,underlying22,GY,LD,LF,show jF prog 22=true by kernel_rfl,jQ,I]
 .obtain⟨m,Y⟩:∃m,l.length=m+1:=⟨l.length-1,by have:=List.length_pos_iff.2 c;omega⟩;rw[Y]at I;have C:iM false (H.alloc qo) 2 (.sl H.next 0 0 2)=H.alloc qo:=by
   unfold iM;simp[hg];rfl
  refine⟨.sl (H.next+1) 0 (m+1) 2,((H.alloc qo).bh H.next).alloc (.cells (l.map Ar.cells).flatten 0 true),?_,.inr ⟨H.next+1,0,l.map Ar.cells,by rw[dk,Y],dg _,cn _,?_,eR _,UY l⟩,dg _,fun k z=>?_⟩
  .have L:=UZ l;simp only[dr,underlying22,GY,LD,LF,show jF prog 22=true by kernel_rfl,I,L,C,sC,dG,pD,oD,hg,bR,gm,Nat.zero_mul];rw[ai ⟨by rw[show ej=70368744177664 from rfl];omega,by rw[show ej=70368744177664 from rfl];omega,su,su,ac⟩];simp
  .show((Hp.bh _ H.next).alloc _).get (H.next+1)=_;rw[aL,ai cN]
  .rw[aL,ah (by simp only[rB,aS];omega),jH,ah ac,hb k z]
def tyQaL.tyF:=ad @dm (ad @cG (ad @eG (ad @ij (ad @l8 (ad @jU (ad @ey (ad @oQ (ad @jJ (ad @gC (ad @rO (ad @LA (ad @ik (ad @jx (ad @i7 (ad @jh (ad @iC (ad @tG (ad @nZ (ad @kg (ad @vW (ad @Xx (@DY))))))))))))))))))))))
open tyQaL
noncomputable def Ju:=qd (M:=144) f36.eq_1
theorem zmT(Y:p.sz<2^34){f:Fu}(z:f∈p.funcs)(b:Nat)(nv:AV):CxQ (Qx.mk p b nv (f.params++f.aK)) (bu p f) where
 ar:=rfl
 ns:=rfl
 fs:=rfl
 l1:=by
  have j:=vK p.ab;have m:p.sz=1+jt p.ab+iA p.funcs:=rfl;show p.ab.length<2^40;omega
 l2:=by
  have j:=uy z;have m:p.sz=1+jt p.ab+iA p.funcs:=rfl;have J:f.sz=1+f.name.length+gl f.params+gl f.aK+bF f.body+f.value.sz:=rfl;have Z:=oL f.params;have C:=oL f.aK;show(f.params++f.aK).length<2^40;rw[fx];omega
 l3:=by
  have j:=vJ p.funcs;have m:p.sz=1+jt p.ab+iA p.funcs:=rfl;show p.funcs.length<2^40;omega
def zmU(p:Pr):eg prog 140 [(0,.agg p.cells)]=some (.agg [.aE (p.ab.map Ar.cells),.aE (p.funcs.map Fu.cells),.ao,.ao,.ao,.int .i64 0,.int .i64 0]):=ax
noncomputable def Ow:En:=⟨54,true,co (fun p=>p.sz<2^36) nJ fun p=>.int .i64 (fP p)⟩
def zmV(ρ:Nat->Int):de prog ρ Ow:=dA fun p hp=>zh5 ρ p hp
structure Smw (n:Nat) (H H':Hp):Prop where
 get:∀k,2<=k->k<n->H'.get k=H.get k
set_option maxRecDepth 100000 in
theorem zmW(hG:zd8 tb)(hC:∀ar,dU tb 54 ar=Ow.sp ar)(hL:zd0 (aA pls tb) 36)(p:Pr)(hz:p.sz<2^34)(hok:fP p=0->Nk p n)(h:uR p n=some (u,e)):
 aR prog (aA pls tb) 36 [.agg p.cells] bZ (fun v H'=>Iw H' u e v):=by
 have hw:=hL;have hkeep:(aA pls tb).keep 36=false:=rfl;have hchk:∀H,aR prog (aA pls tb) 54 [.agg p.cells] H fun v H'=>v=.int .i64 (fP p)/\H'=H:=fun H=>cQ (enc:=nJ) (ok:=fun p=>p.sz<2^36) (out:=fun p=>.int .i64 (fP p)) AT (x:=p) (hC _) ac;have hpz:p.sz=1+jt p.ab+iA p.funcs:=rfl;have hla:=vK p.ab;have hlf:=vJ p.funcs;have bUn0:eg prog 37 []=some (.agg [.ao,.ao]):=ax;unfold uR at h;by_cases hc:fP p=0
 .rw[ai hc]at h;have hok:=hok hc;obtain⟨av,L,aa,ra,na,qa⟩:=zmS ((bZ.alloc (.cells p.cells 0 true)).alloc qp) p.ab ac;obtain⟨ha1,ha2⟩:=ra.one;have bUn:eg prog 37 [(0,av)]=some (.agg [av,.ao]):=by
   rcases ra with⟨rfl,_⟩|⟨q,im,rows,rfl,_⟩<;>kernel_rfl
  have na3:3<=L.next:=na
  have q0:L.get 0=some (.cells p.cells 0 true):=by rw[qa 0 (by simp only[aS,cL];omega)];simp[aL,aS,cL]
  have q1:L.get 1=some qp:=by rw[qa 1 (by simp only[aS,cL];omega)];simp[aL,aS,cL]
  have ra':eN (fun k=>2<=k/\k<L.next) 1 L 2 av (p.ab.map Ar.cells):=ra.keep (fun k h1 h2=>⟨h2,h1⟩) (aG _) fun _ _ _=>rfl;have bA0:eW prog ((bZ.alloc (.cells p.cells 0 true)).alloc qp) 22 0 []=some (.sl 2 0 0 2,((bZ.alloc (.cells p.cells 0 true)).alloc qp).alloc qo):=ax;refine qe hw func36 Ju ?_;dsimp only[Ju,qd,a1,Nat.reduceAdd];have aa':dr prog false (((bZ.alloc (.cells p.cells 0 true)).alloc qp).alloc qo) 22 22 (.sl 2 0 0 2) (.aE (p.ab.map Ar.cells))=some (av,L):=aa;repeat' (first
   |(apply ay ?_;clear hK K)|apply aT ?_|(apply eA ?_;first|refine Rx.k (hchk _) ?_)|(apply a2 ?_ ?_<;>(intro hb hbp;try(cases hb;done)))|(apply az fun K hK=>?_)|fail)
  clear aa aa' qa ra na bA0;have gs:∀k,k<L.next->((L.alloc qp).set L.next (.cells [av,.ao] 0 true)).get k=L.get k:=fun k z=>uO
  have hfl:po p n (p.funcs.drop 0) []=some (u,e):=h;refine cP [1,2,5] [] 6 p.funcs.length (fun i E O=>∃gs fv,po p n (p.funcs.drop i) gs=some (u,e)/\O.get 0=some (.cells p.cells 0 true)/\O.get 1=some qp/\O.get L.next=some (.cells [av,fv] 0 true)/\eN (fun k=>L.next<k) 3 O 5 fv (gs.map Gr.cells)/\Smw L.next L O/\gs.length=i) eE ⟨[],.ao,hfl,by rw[gs _ ac];exact q0,by rw[gs _ ac];exact q1,iW,.inl ⟨rfl,rfl⟩,⟨fun k _ z=>gs k z⟩,rfl⟩ ?_;clear gs hfl h q0 q1;rintro i5 E5 O hk5 hcE hrH hnH hsI ⟨gs,fv,hJ,g0,g1,g7,rf,hsm,hgl⟩;(try simp only[bz,a7,aV,aK,bb,Nat.reduceBEq, *]at hcE);(try simp only[a7,bb, *]at hrH);(try simp only[aS,bK,]at hnH);have nk:L.next+1<=O.next:=ac
  obtain⟨hf1,hf2⟩:=rf.one;by_cases hlt:i5<p.funcs.length
  .have hlt':(i5:Int)<p.funcs.length:=by omega
   have hgx:p.funcs[i5]?=some p.funcs[i5]:=aX hlt;have hmem:=dE hlt;have hfsz:=uy hmem;have hcx:=fun b nv=>zmT hz hmem b nv;rw[i4 hlt]at hJ;unfold po at hJ;obtain⟨s,v,e1,e2,hF⟩:=hok _ hmem;generalize p.funcs[i5]=f at *;have hfn:jk p n f=some ⟨f.name,f.params.length,v.2.l,v.1,v.2.aa⟩:=by unfold jk;rw[e1];simp only[aN];rw[e2];rfl
   rw[hfn]at hJ;simp only[aN]at hJ;have hsz:f.sz=1+f.name.length+gl f.params+gl f.aK+bF f.body+f.value.sz:=rfl;have hpl:=oL f.params;have hll:=oL f.aK;have hFs:Fin s:=hF.le (cD _ n _ _ _ e2).le;have hFst:Fin (i9 f):=hFs.le ((jl _ n).2.1 _ _ _ e1).1;have hst:i9 f=iS f.aK.length (gH f.params.length 0 { (aj ⟨26,0,[]⟩ ⟨[],[],0,0⟩).2 with aa:=(aj ⟨26,0,[]⟩ ⟨[],[],0,0⟩).1}):=rfl;generalize hs0:({ (aj ⟨26,0,[]⟩ ⟨[],[],0,0⟩).2 with aa:=(aj ⟨26,0,[]⟩ ⟨[],[],0,0⟩).1}:Bd)=s0 at *;have hv0:s0.vars.length=0:=by rw[<-hs0];rfl
   have hF1:Fin (gH f.params.length 0 s0):=by rw[hst]at hFst;exact hFst.le (D0 _ _).1
   have hv1:(gH f.params.length 0 s0).vars.length=f.params.length:=by rw[(DZ _ _ _).2,hv0];omega
   have hF0:Fin s0:=hF1.le (DZ _ _ _).1;have hFe:Fin (aj ⟨26,0,[]⟩ ⟨[],[],0,0⟩).2:=by rw[<-hs0]at hF0;exact⟨hF0.r,hF0.l,hF0.n⟩
   have hvst:(i9 f).vars.length<2^36:=by rw[hst,(D0 _ _).2,hv1];omega
   have nB:=zmU p;have g0m:∀b0 c0,((O.alloc b0).set O.next c0).get 0=some (.cells p.cells 0 true):=fun b0 c0=>by rw[aQ,ah ac,aL,ah ac];exact g0
   repeat' (first
    |(apply ay ?_;clear hK K)|apply aT ?_|(apply a2 ?_ ?_<;>(intro hb hbp;try(cases hb;done)))|(apply az fun K hK=>?_)|fail)
   refine qj ?_;generalize hHb:Hp.alloc (Hp.set (O.alloc _) _ (.cells f.cells 0 true)) _=J;have nb:J.next=O.next+2:=by rw[<-hHb];rfl
   have old:∀k,k<O.next->J.get k=O.get k:=fun k z=>by rw[<-hHb,aL,ah NA,aQ,ah ac,aL,ah ac]
   have gfb:J.get O.next=some (.cells f.cells 0 true):=by rw[<-hHb,aL,ah NA,aQ,ai rfl]
   have gbb:J.get (O.next+1)=some (.cells [.aE (p.ab.map Ar.cells),.aE (p.funcs.map Fu.cells),.ao,.ao,.ao,.int .i64 0,.int .i64 0] 0 true):=by rw[<-hHb,aL,ai cN]
   clear hHb g0m nB;have R1:zd1 (Qx.mk p (O.next+1) .ao []) J (fun _=>False) ⟨[],[],0,0⟩ .ao .ao:=
    ⟨gbb,.inl ⟨rfl,rfl⟩,.inl ⟨rfl,rfl⟩,.inl ⟨rfl,rfl⟩,by show O.next+1<J.next;omega,fun _ h=>(zE h).elim,fun _ h=>h.elim,fun _ h=>(zE h).elim⟩
   have N1:FrM (O.next+1) J (fun _=>False) .ao .ao J:=⟨aG _,fun _ _ _=>rfl,fun _ h=>h.elim,fun _ h=>(zE h).elim,fun _ h=>(zE h).elim⟩;have gA:∀{S:Nat->Prop}{vv nv:AV}{H':Hp},FrM (O.next+1) J S vv nv H'->H'.get O.next=some (.cells f.cells 0 true):=fun h=>by
    rw[h.get _ ac ac];exact gfb
   refine a8 ?_ (vm hG R1 26 0 hFe);rintro w H2 ⟨rfl,S2,lv2,R2,F2⟩;have m2:=R2.m;obtain⟨R3,ea⟩:=R2.setS (aj ⟨26,0,[]⟩ ⟨[],[],0,0⟩).1;have N3:FrM (O.next+1) J S2 .ao .ao _:=zS (X:=Qx.mk p (O.next+1) .ao []) N1 (F2.trans ea);have n2:J.next<=H2.next:=F2.next
   clear R1 R2 F2 ea N1 gbb;have g3:=gA N3;dsimp only[br]at m2 R3 N3 g3;dsimp only[a0];refine dX ?_;refine cP [1,2,5,6,7,8] [] 9 f.params.length (fun i E Hi=>∃si Si lvi vvi nvi,gH (f.params.length-i) i si=gH f.params.length 0 s0/\si.vars.length=i/\zd1 (Qx.mk p (O.next+1) nvi (f.params.take i)) Hi Si si lvi vvi/\FrM (O.next+1) J Si vvi nvi Hi) eE ⟨s0,S2,lv2,.ao,.ao,rfl,hv0,by rw[AP,<-hs0];exact R3,N3⟩ ?_;clear R3 N3 m2 g3;rintro i E Hi hi hcE hrH hnH hsI ⟨si,Si,lvi,vvi,nvi,V,hvi,Ri,Ni⟩;(try simp only[bz,a7,aV,aK,bb,Nat.reduceBEq, *]at hcE);(try simp only[a7,bb, *]at hrH);(try simp only[bK,]at hnH);have ni:J.next<=Hi.next:=Ni.next
   have gi:=gA Ni;by_cases hlt2:i<f.params.length
   .have hlt2':(i:Int)<f.params.length:=by omega
    have hgx2:f.params[i]?=some f.params[i]:=aX hlt2;obtain⟨k,z⟩:∃k,f.params.length-i=k+1:=⟨f.params.length-i-1,ac⟩;have hk2:f.params.length-(i+1)=k:=ac;have hne:f.params.take (i+1)=f.params.take i++[f.params[i]]:=by rw[wX,hgx2];rfl
    have htl:(f.params.take i).length<2^36:=FT;rw[z]at V;rw[hk2,hne];have V:gH k (i+1) { (aj ⟨2,i,[]⟩ si).2 with vars:=(aj ⟨2,i,[]⟩ si).2.vars++[(aj ⟨2,i,[]⟩ si).1] }=gH f.params.length 0 s0:=V;have hFx:Fin (aj ⟨2,i,[]⟩ si).2:=hF1.le (by rw[<-V];exact((sR _).setV _).trans (DZ _ _ _).1);generalize f.params[i]=nm at *;obtain⟨v4,H4,dO,ho1,ho2,m4,n4,q4,gn4,R5,own4⟩:=Ri.et nm htl;have mi:=Ri.m;have mia:=(Ri.alloc (.cells [.ay nm] 0 true)).m;have m5:=R5.m;have gia:(Hi.alloc (.cells [.ay nm] 0 true)).get O.next=some (.cells f.cells 0 true):=by rw[aL,ah ac];exact gi
    have g4:H4.get O.next=some (.cells f.cells 0 true):=by
     rw[q4 _ ac fun e=>by have:=Ni.fF _ e;omega];exact gi
    have N5:FrM (O.next+1) J Si vvi v4 (H4.set (O.next+1) (.cells (br (Qx.nx (Qx.mk p (O.next+1) nvi (f.params.take i)) v4 (f.params.take i++[nm])) si lvi vvi) 0 true)):=⟨eZ,fun k h1 h2=>by
     rw[aQ,ah h2,q4 k ac fun e=>by have:=Ni.fF _ e;omega];exact Ni.get k h1 h2,Ni.sub,Ni.own,fun k z=>by
     rcases own4 k z with e|e
     .exact Ni.fF k e
     .omega⟩
    have g5:=gA N5;dsimp only[br,Qx.nx]at mi mia m4 m5 R5 N5 g5 dO;clear Ri Ni own4 q4;repeat' (first
     |(apply ay ?_;clear hK K)|apply aT ?_|(apply a2 ?_ ?_<;>(intro hb hbp;try(cases hb;done)))|(apply az fun K hK=>?_)|(apply bV 14 [(4,11),(6,11),(9,11),(10,11)] fun K hK=>?_)|(apply bV 15 [(4,7),(4,9),(8,9)] fun K hK=>?_)|(apply bB ?_;try intro _)|(apply bY ?_ ?_<;>clear hK K)|fail)
    .exact bM
    .refine qk ?_;refine a8 ?_ (vm (X:=Qx.mk p (O.next+1) v4 (f.params.take i++[nm])) hG R5 2 i hFx);generalize hpu:aj ⟨2,i,[]⟩ si=pu at *;have hpv:pu.2.vars.length=i:=by rw[<-hpu];exact hvi
     rintro w H6 ⟨rfl,S6,lv6,R6,F6⟩;have m6:=R6.m;have n6:=F6.next
     obtain⟨v7,H7,nN,hv71,hv72,m7,n7,q7,R7,F7⟩:=R6.fm pu.1 ac;have N6:FrM (O.next+1) J S6 vvi v4 H6:=zS (X:=Qx.mk p (O.next+1) v4 (f.params.take i++[nm])) N5 F6;have N7:FrM (O.next+1) J S6 v7 v4 _:=zS (X:=Qx.mk p (O.next+1) v4 (f.params.take i++[nm])) N6 F7;have m6a:=(R6.alloc (.cells [.int .i64 pu.1] 0 true)).m;simp only[bK]at n6;have n67:Hi.next<=H7.next:=ac
     have C:(pu.2.vars++[pu.1]).length=i+1:=by rw[fx,hpv];rfl
     clear hpv hvi R6 F6 F7 hpu N6;dsimp only[br]at m6 m7 m6a R7 N7;dsimp only[a0];repeat' (first
      |(apply ay ?_;clear hK K)|apply a9 ?_|(apply az fun K hK=>?_)|(apply bB ?_;try intro _)|(apply bY ?_ ?_<;>clear hK K)|fail)
     .exact bM
     .refine⟨ac,aW,aW,b8,(by simp only[aK,Nat.reduceBEq, *];exact il (n:=f.params.length) ac ac),?_⟩;exact⟨_,S6,lv6,v7,v4,V,C,R7,N7⟩
   .have hlt2':¬(i:Int)<f.params.length:=by omega
    have z:f.params.length-i=0:=ac;have hti:f.params.take i=f.params:=je ac;rw[z]at V;rw[hti]at Ri;have V:si=gH f.params.length 0 s0:=V;rw[V]at Ri;rw[<-V]at hst;rw[V]at hst;clear z hti V hvi;refine jp (fun hb hbp=>?_);generalize hs1:gH f.params.length 0 s0=s1 at *;refine cP [1,2,5,6,7,8] [] 10 f.aK.length (fun j E Hj=>∃sj Sj lvj vvj Z,iS (f.aK.length-j) sj=iS f.aK.length s1/\sj.vars.length=f.params.length+j/\zd1 (Qx.mk p (O.next+1) Z (f.params++f.aK.take j)) Hj Sj sj lvj vvj/\FrM (O.next+1) J Sj vvj Z Hj) eE ⟨s1,Si,lvi,vvi,nvi,rfl,hv1,by rw[AP,bq];exact Ri,Ni⟩ ?_;clear Ri Ni gi;rintro j E3 Hj hj hcE hrH hnH hsI ⟨sj,Sj,lvj,vvj,Z,V,hvj,Rj,Nj⟩;(try simp only[bz,a7,aV,aK,Nat.reduceBEq, *]at hcE);(try simp only[a7, *]at hrH);(try simp only[aS,bK,cL,bR,Nat.reduceAdd]at hnH);have nj:J.next<=Hj.next:=Nj.next
    have gj:=gA Nj;by_cases hlt3:j<f.aK.length
    .have hlt3':(j:Int)<f.aK.length:=by omega
     have hgx2:f.aK[j]?=some f.aK[j]:=aX hlt3;obtain⟨k,z⟩:∃k,f.aK.length-j=k+1:=⟨f.aK.length-j-1,ac⟩;have hk2:f.aK.length-(j+1)=k:=ac;have hne:f.params++f.aK.take (j+1)=(f.params++f.aK.take j)++[f.aK[j]]:=by rw[wX,hgx2,kI];rfl
     have htl:(f.params++f.aK.take j).length<2^36:=by rw[fx,oE];omega
     rw[z]at V;rw[hk2,hne];have V:iS k { (aj ⟨1,0,[]⟩ sj).2 with vars:=(aj ⟨1,0,[]⟩ sj).2.vars++[(aj ⟨1,0,[]⟩ sj).1] }=iS f.aK.length s1:=V;have hFx:Fin (aj ⟨1,0,[]⟩ sj).2:=hFst.le (by rw[hst,<-V];exact((sR _).setV _).trans (D0 _ _).1);generalize f.aK[j]=nm at *;generalize hNs:f.params++f.aK.take j=Ns at *;obtain⟨v4,H4,dO,ho1,ho2,m4,n4,q4,gn4,R5,own4⟩:=Rj.et nm htl;have mi:=Rj.m;have mia:=(Rj.alloc (.cells [.ay nm] 0 true)).m;have m5:=R5.m;have gia:(Hj.alloc (.cells [.ay nm] 0 true)).get O.next=some (.cells f.cells 0 true):=by rw[aL,ah ac];exact gj
     have g4:H4.get O.next=some (.cells f.cells 0 true):=by
      rw[q4 _ ac fun e=>by have:=Nj.fF _ e;omega];exact gj
     have N5:FrM (O.next+1) J Sj vvj v4 (H4.set (O.next+1) (.cells (br (Qx.nx (Qx.mk p (O.next+1) Z Ns) v4 (Ns++[nm])) sj lvj vvj) 0 true)):=⟨eZ,fun k h1 h2=>by
      rw[aQ,ah h2,q4 k ac fun e=>by have:=Nj.fF _ e;omega];exact Nj.get k h1 h2,Nj.sub,Nj.own,fun k z=>by
      rcases own4 k z with e|e
      .exact Nj.fF k e
      .omega⟩
     have g5:=gA N5;dsimp only[br,Qx.nx]at mi mia m4 m5 R5 N5 g5 dO;clear Rj Nj own4 q4 hNs hne;repeat' (first
      |(apply ay ?_;clear hK K)|apply aT ?_|(apply a2 ?_ ?_<;>(intro hb hbp;try(cases hb;done)))|(apply az fun K hK=>?_)|(apply bV 19 [(4,11),(6,11),(9,11),(10,11)] fun K hK=>?_)|(apply bV 20 [(4,6),(4,8),(7,8)] fun K hK=>?_)|(apply bB ?_;try intro _)|(apply bY ?_ ?_<;>clear hK K)|fail)
     .exact bM
     .refine qk ?_;refine a8 ?_ (vm (X:=Qx.mk p (O.next+1) v4 (Ns++[nm])) hG R5 1 0 hFx);generalize hpu:aj ⟨1,0,[]⟩ sj=pu at *;have hpv:pu.2.vars.length=f.params.length+j:=by rw[<-hpu];exact hvj
      rintro w H6 ⟨rfl,S6,lv6,R6,F6⟩;have m6:=R6.m;have n6:=F6.next
      obtain⟨v7,H7,nN,hv71,hv72,m7,n7,q7,R7,F7⟩:=R6.fm pu.1 ac;have N6:FrM (O.next+1) J S6 vvj v4 H6:=zS (X:=Qx.mk p (O.next+1) v4 (Ns++[nm])) N5 F6;have N7:FrM (O.next+1) J S6 v7 v4 _:=zS (X:=Qx.mk p (O.next+1) v4 (Ns++[nm])) N6 F7;have m6a:=(R6.alloc (.cells [.int .i64 pu.1] 0 true)).m;simp only[bK]at n6;have n67:Hj.next<=H7.next:=ac
      have C:(pu.2.vars++[pu.1]).length=f.params.length+(j+1):=by rw[fx,hpv];rfl
      clear hpv hvj R6 F6 F7 hpu N6;dsimp only[br]at m6 m7 m6a R7 N7;dsimp only[a0];repeat' (first
       |(apply ay ?_;clear hK K)|apply a9 ?_|(apply az fun K hK=>?_)|(apply bB ?_;try intro _)|(apply bY ?_ ?_<;>clear hK K)|fail)
      .exact bM
      .refine⟨ac,aW,aW,b8,(by simp only[aK,Nat.reduceBEq, *];exact il (n:=f.aK.length) ac ac),?_⟩;exact⟨_,S6,lv6,v7,v4,V,C,R7,N7⟩
    .have hlt3':¬(j:Int)<f.aK.length:=by omega
     have z:f.aK.length-j=0:=ac;have htj:f.aK.take j=f.aK:=je ac;rw[z]at V;rw[htj]at Rj;have V:sj=iS f.aK.length s1:=V;rw[V,<-hst]at Rj;clear z htj V hvj;have hX:=hcx (O.next+1) Z;repeat' (first
      |(apply ay ?_;clear hK K)|apply aT ?_|(apply a2 ?_ ?_<;>(intro hb hbp;try(cases hb;done)))|(apply az fun K hK=>?_)|fail)
     refine qj ?_;refine a8 ?_ (Ye (X:=Qx.mk p (O.next+1) Z (f.params++f.aK)) hG hX (n+1) n (cn n) f.body (i9 f) s e1 hFs ac hvst Rj);rintro w H6 ⟨S6,lv6,vv6,R6,F6⟩;have N6:FrM (O.next+1) J S6 vv6 Z H6:=zS (X:=Qx.mk p (O.next+1) Z (f.params++f.aK)) Nj F6;have g6:=gA N6;clear Rj Nj F6 gj;dsimp only[a0];refine fT fun K hK=>?_;refine qj ?_;refine a8 ?_ (vn (X:=Qx.mk p (O.next+1) Z (f.params++f.aK)) hG hX n f.value s v e2 hF R6);rintro w H7 ⟨rfl,S7,Y,R7,F7⟩;have N7:FrM (O.next+1) J S7 vv6 Z H7:=zS (X:=Qx.mk p (O.next+1) Z (f.params++f.aK)) N6 F7;have gg7:=gA N7;have m7:=R7.m;have nd7:=R7.af;obtain⟨hl1,hl2⟩:=nd7.one;have n7:J.next<=H7.next:=N7.next
     have old7:∀k,k<O.next->H7.get k=O.get k:=fun k z=>by rw[N7.get k ac ac,old k z]
     have s7:=N7.sub;have C:∀H',jP prog H' 42 Y=some (.int .i64 v.2.l.length):=fun H'=>by
      have:=nd7.len (P:=prog) (t:=42) (H':=H') underlying42
      rwa [dk]at this
     dsimp only[br]at m7;clear R6 R7 N6 N7 F7 g6 gA;dsimp only[a0];by_cases hbig:(2000:Int)<v.2.l.length
     .rw[ai hbig]at hJ;simp only[dB]at hJ;obtain⟨rfl,rfl⟩:=hJ;have g1a:H7.get 1=some qp:=by rw[old7 1 ac];exact g1
      have ag0:cr 2 [.ao,.ao]=some (.agg [.ao,.ao]):=rfl;refine jp (fun hb hbp=>?_);refine⟨aE,_,(by(try simp only[aK,bb,Nat.reduceBEq,tyF,dR,eh, *]);first|done|with_reducible rfl),?_⟩;try simp only[aD]
      exact⟨_,fun _=>True,rfl,.cons .ao (.cons .ao .nil)⟩
     .rw[ah hbig]at hJ;have hone:([.ay f.name,.int .i64 f.params.length,Y,.int .i64 v.1,.int .i64 v.2.aa]:qB).all AV.one=true:=by simp only[oX,pO,hl1];rfl
      have bGr:eg prog 44 [(0,.ay f.name),(1,.int .i64 f.params.length),(2,Y),(3,.int .i64 v.1),(4,.int .i64 v.2.aa)]=some (.agg [.ay f.name,.int .i64 f.params.length,Y,.int .i64 v.1,.int .i64 v.2.aa]):=by
       rcases nd7 with⟨rfl,_⟩|⟨q,im,rows,rfl,_⟩<;>kernel_rfl
      have hbs:=fun H=>zjj H (cs:=[.ay f.name,.int .i64 f.params.length,Y,.int .i64 v.1,.int .i64 v.2.aa]) rfl hone;have g77:H7.get L.next=some (.cells [av,fv] 0 true):=by rw[old7 _ ac];exact g7
      have hfq:∀k o m z',fv=.sl k o m z'->k<O.next/\L.next<k:=fun k o m z' e=>by
       rcases rf with⟨h1,_⟩|⟨q,im,rows,h1,h2,h3,_⟩
       .rw[h1]at e;cases e
       .rw[h1]at e;simp only[AV.sl.injEq]at e;rw[<-e.1];exact⟨h3,h2⟩
      have I:∀k,k<H7.next->(H7.alloc (.cells [.ay f.name,.int .i64 f.params.length,Y,.int .i64 v.1,.int .i64 v.2.aa] 0 true)).get k=H7.get k:=fun k z=>dT
      obtain⟨H9,ro,BL,n9,q9⟩:=M9 (P:=prog) (t:=35) underlying35 Lz Ra Rd rfl ax (S':=fun k=>L.next<k)
       (rf.keep (S':=fun k=>L.next<k) (H':=H7.alloc (.cells [.ay f.name,.int .i64 f.params.length,Y,.int .i64 v.1,.int .i64 v.2.aa] 0 true)) (fun _ _ h=>h) iF fun k _ z=>by rw[I k ac,old7 k z])
       (fun _ _ h=>h) iF (r:=H7.next) (imm:=0) (row:=[.ay f.name,.int .i64 f.params.length,Y,.int .i64 v.1,.int .i64 v.2.aa]) (w:=(Gr.mk f.name f.params.length v.2.l v.1 v.2.aa).cells) fw rfl hone
       (zjk f.name f.params.length v.1 v.2.aa (nd7.keep (S':=fun k=>L.next<k/\∀o m z',fv≠.sl k o m z') (fun k h1 h2=>⟨by have:=s7 k h2;omega,fun o m z' e=>by have:=(hfq k o m z' e).1;have:=s7 k h2;omega⟩) iF fun k z h2=>I k h2))
       Jn Jn
      rw[dk]at ro BL;simp only[aS]at ro BL n9 q9;have old9:∀k,k<O.next->(∀o m z',fv≠.sl k o m z')->H9.get k=O.get k:=fun k h1 h2=>by rw[q9 k ac h2,I k ac,old7 k h1]
      have hlow:∀k,k<=L.next->∀o m z',fv≠.sl k o m z':=fun k z o m z' e=>by have:=(hfq k o m z' e).2;omega
      have hhigh:∀k,O.next<=k->∀o m z',fv≠.sl k o m z':=fun k z o m z' e=>by have:=(hfq k o m z' e).1;omega
      have g79:H9.get L.next=some (.cells [av,fv] 0 true):=by rw[old9 _ ac (hlow _ (aG _))];exact g7
      have gf9:H9.get O.next=some (.cells f.cells 0 true):=by rw[q9 _ ac (hhigh _ (aG _)),I _ ac];exact gg7
      have m9:H9.get (O.next+1)=some (.cells [.aE (p.ab.map Ar.cells),.aE (p.funcs.map Fu.cells),Y,Z,vv6,.int .i64 v.2.aa,.int .i64 v.2.loops] 0 true):=by rw[q9 _ ac (hhigh _ ac),I _ ac];exact m7
      have gf8:(H7.alloc (.cells [.ay f.name,.int .i64 f.params.length,Y,.int .i64 v.1,.int .i64 v.2.aa] 0 true)).get O.next=some (.cells f.cells 0 true):=by rw[I _ ac];exact gg7
      have m8:(H7.alloc (.cells [.ay f.name,.int .i64 f.params.length,Y,.int .i64 v.1,.int .i64 v.2.aa] 0 true)).get (O.next+1)=some (.cells [.aE (p.ab.map Ar.cells),.aE (p.funcs.map Fu.cells),Y,Z,vv6,.int .i64 v.2.aa,.int .i64 v.2.loops] 0 true):=by rw[I _ ac];exact m7
      have g78:(H7.alloc (.cells [.ay f.name,.int .i64 f.params.length,Y,.int .i64 v.1,.int .i64 v.2.aa] 0 true)).get L.next=some (.cells [av,fv] 0 true):=by rw[I _ ac];exact g77
      have hJ':po p n (p.funcs.drop (i5+1)) (gs++[Gr.mk f.name f.params.length v.2.l v.1 v.2.aa])=some (u,e):=hJ;have hmapg:(gs++[Gr.mk f.name f.params.length v.2.l v.1 v.2.aa]).map Gr.cells=gs.map Gr.cells++[(Gr.mk f.name f.params.length v.2.l v.1 v.2.aa).cells]:=aB;have old9':∀k,k<L.next->H9.get k=O.get k:=fun k z=>old9 k ac (hlow k ac)
      clear I old9 hlow hhigh hfq old7 q9 hJ nd7 old;repeat' (first
       |(apply ay ?_;clear hK K)|apply aT ?_|(apply a2 ?_ ?_<;>(intro hb hbp;try(cases hb;done)))|(apply az fun K hK=>?_)|(apply bV 25 [(1,18),(3,18),(5,18),(6,18),(10,18),(15,18),(17,18)] fun K hK=>?_)|(apply bB ?_;try intro _)|(apply bY ?_ ?_<;>clear hK K)|fail)
      .exact bM
      .refine⟨ac,aW,aW,b8,zf,?_⟩;have hs9:∀m k,k≠L.next->(H9.set L.next m).get k=H9.get k:=fun m k z=>uh
       refine⟨gs++[Gr.mk f.name f.params.length v.2.l v.1 v.2.aa],.sl (H7.next+1) 0 (gs.length+1) 5,hJ',by rw[hs9 _ _ ac,old9' _ ac];exact g0,by rw[hs9 _ _ ac,old9' _ ac];exact g1,by rw[aQ,ai rfl,hgl],?_,⟨fun k h1 h2=>by rw[hs9 _ _ ac,old9' _ ac];exact hsm.get k h1 h2⟩,by rw[fx,hgl];rfl⟩;rw[hmapg];exact BL.keep (fun _ _ h=>h) (aG _) fun k z _=>hs9 _ k ac
  .have hlt':¬(i5:Int)<p.funcs.length:=by omega
   have hd:p.funcs.drop i5=[]:=oc ac;rw[hd]at hJ;simp only[po,dB]at hJ;obtain⟨rfl,rfl⟩:=hJ;have ag:cr 2 [av,fv]=some (.agg [av,fv]):=rfl;have rd1:=ra'.keep (S':=fun _=>True) (H':=O.set 1 (.cells [av,fv] 0 true)) (fun _ _ _=>trivial) eZ fun k z _=>by rw[aQ,ah ac];exact hsm.get k z.1 z.2
   have rd2:=rf.keep (S':=fun _=>True) (H':=O.set 1 (.cells [av,fv] 0 true)) (fun _ _ _=>trivial) eZ fun k z _=>kK;have fin:Iw (O.set 1 (.cells [av,fv] 0 true)) ⟨p.ab,gs⟩ 0 (.bH [.agg [av,fv],.int .i64 0]):=⟨_,fun _=>True,rfl,.cons (rd1.rd.up ac) (.cons (rd2.rd.up ac) .nil)⟩;clear rd1 rd2;refine jp (fun hb hbp=>?_);refine⟨aE,_,(by(try simp only[aK,bb,Nat.reduceBEq,tyF,dR,eh, *]);first|done|with_reducible rfl),?_⟩;try simp only[aD]
   exact fin
 .rw[ah hc,am,iX]at h;obtain⟨rfl,rfl⟩:=h;refine qe hw func36 Ju ?_;dsimp only[Ju,qd,a1,Nat.reduceAdd];repeat' (first
   |(apply ay ?_;clear hK K)|apply aT ?_|(apply eA ?_;first|refine Rx.k (hchk _) ?_)|(apply a2 ?_ ?_<;>(intro hb hbp;try(cases hb;done)))|(apply az fun K hK=>?_)|fail)
  have ag0:cr 2 [.ao,.ao]=some (.agg [.ao,.ao]):=rfl;refine⟨aE,_,(by(try simp only[aK,bb,Nat.reduceBEq,tyF,dR,eh, *]);first|done|with_reducible rfl),?_⟩;try simp only[aD]
  exact⟨_,fun _=>True,rfl,.cons .ao (.cons .ao .nil)⟩
theorem Yf{f:FuncId}:∀{tb:qH},(∀e∈tb,Nat.beq e.f f=false)->(∀m,dU tb f m=none)/\mc tb f=false
 |[],_=>⟨fun _=>rfl,rfl⟩
 |e::l,hne=>by
  obtain⟨L,O⟩:=Yf (tb:=l) fun x I=>hne x (dh _ I)
  have V:=hne e dM;exact⟨fun m=>by simp only[dU,V];exact L m,by simp only[mc]at O⊢;simp only[V,];exact O⟩
theorem zd8.of(h:∀e∈tb,Oq e.f=false)(V:∀m,dU tb 53 m=(xF Jq).sp m)(O:mc tb 53=true)(z:∀m,dU tb 55 m=AY.sp m):zd8 tb where
 pl f hf2:=Yf fun e Z=>by
  cases hb:Nat.beq e.f f with
  |false=>rfl
  |true=>rw[<-tm hb,h e Z]at hf2;cases hf2
 sn:=V
 sni:=O
 ff:=z
noncomputable def EL:qH:=[Ow,xF Jq,AY]
def zmX(ρ:Nat->Int):gX prog ρ EL:=⟨zmV ρ,L4 (zmC ρ),MJ ρ,trivial⟩
theorem zmY:zd8 EL:=zd8.of (fun e V=>by
 simp only[EL,od]at V;rcases V with rfl|rfl|rfl<;>rfl) (fun _=>rfl) rfl (fun _=>rfl)
def zmZ(ρ:Nat->Int)(p:Pr)(j:p.sz<2^34)(z:fP p=0->Nk p n)(h:uR p n=some (u,e)):bA prog ρ 36 (nJ p) (.bH [.agg u.cells,.int .i64 e]):=
 M8 (n:=60) (cfg:=aA pls EL) fit (rG ρ) (fun g m r hg=>gX.cu (l:=EL) (zmX ρ) g m r hg) (.cons (.agg p.pure) .nil) (a8 (fun v H' h=>h.wk) (zmW zmY (fun _=>rfl) (gY (fun _=>rfl) rfl) p j z h))
end
structure znQ (p:Pr):Prop where
 sz:p.sz<2^30
 rg:fP p=0->∀f∈p.funcs,kN f.body/\kx f.value
def li(p:Pr):Un×Int:=(uR p (2*p.sz+1)).getD (⟨[],[]⟩,0)
theorem Yg{p:Pr}(h:zf4 p){n:Nat}(J:2*p.sz<n):∀(l:qV) (V:List Gr),(∀f∈l,f∈p.funcs)->∃r,po p n l V=some r
 |[],V,_=>⟨_,rfl⟩
 |f::l,V,hl=>by
  obtain⟨s,v,C,Z,_⟩:=Nu h J (hl f dM);rw[po,jk,C,aN,Z,aN,aN];split
  .exact⟨_,rfl⟩
  .exact Yg h J l _ fun g hg=>hl g (dh _ hg)
theorem znQ.dj(h:znQ p):uR p (2*p.sz+1)=some ((li p).1,(li p).2):=by
 have:∃r,uR p (2*p.sz+1)=some r:=by
  unfold uR;split
  .rename_i c;exact Yg ⟨c,h.rg c⟩ (cn _) _ _ fun f z=>z
  .exact⟨_,rfl⟩
 obtain⟨r,hr⟩:=this;rw[li,hr];rfl
def znQ.fH(h:znQ p)(L:fP p=0):((li p).2=6/\(li p).1=⟨[],[]⟩)\/((li p).2=0/\mR (li p).1=true/\(li p).1.ab=p.ab/\(li p).1.funcs.length=p.funcs.length/\znK (li p).1):=
 zkn ⟨L,h.rg L⟩ h.sz (cn _) h.dj
def iL(L:qA):Prop:=∀n∈L,cX n
def EM{L:qA}(h:iL L):cX (bO L).1/\iL (bO L).2:=by
 cases L with
 |nil=>exact⟨by show cX 0;unfold cX;omega,h⟩
 |cons a l=>exact⟨h a dM,fun n J=>h n (dh _ J)⟩
def zm0(n:Int):cX (cy n):=by
 unfold cy cX;rw[IntKind.wrap_i64];omega
def Oz{n I:Int}(h:cX I):cX (jW n I):=by
 unfold jW;split
 .have e:∀k,cX (xW.getD k 0):=fun k=>by
   by_cases c:k<10
   .have:∀k:_root_.Fin 10,cX (xW.getD k.1 0):=by unfold cX;decide
    exact this ⟨k,c⟩
   .rw[dC,ng (by simp[xW];omega)];show cX 0;unfold cX;omega
  exact e _
 split
 .exact zm0 _
 .exact h
def zT:cX 0:=fQ
theorem vo(f:Int):∀(k Y:Nat) (L:qA),iL L->kx (bC f k Y L).1/\iL (bC f k Y L).2
 |0,Y,L,h=>⟨by simp[bC,kx,jA,zT],h⟩
 |k+1,Y,L,h=>by
  have ih:=vo f k (Y+1);obtain⟨j,Z⟩:=EM h;simp only[bC];generalize cK (bO L).1 16=q;generalize cK (cy ((bO L).1.tdiv 16)) 1000=m;split
  .split
   .exact⟨by simp[kx,jA,zT],Z⟩
   .exact⟨by simp only[kx,jA,aV];exact Oz j,Z⟩
  .have a:=ih _ Z;have b:=ih _ a.2;have c:=ih _ b.2;split
   .exact⟨by simp only[kx,jA,aV];exact⟨zT,a.1⟩,a.2⟩
   .split
    .exact⟨by simp only[kx,jA,aV];exact⟨zT,a.1,b.1,c.1⟩,c.2⟩
    .split
     .exact⟨by simp only[kx,jA,aV];exact⟨zT,a.1⟩,a.2⟩
     .exact⟨by simp only[kx,jA,aV];exact⟨zT,a.1,b.1⟩,b.2⟩
theorem Yh(f:Int):∀(n:Nat) (L:qA),iL L->jA (iI f n L).1/\iL (iI f n L).2
 |0,L,h=>⟨by simp[iI,jA],h⟩
 |n+1,L,h=>by
  have a:=vo f 3 2 L h;have b:=Yh f n _ a.2;rw[iI];exact⟨by rw[jA];exact⟨a.1,b.1⟩,b.2⟩
def wG:kx k5:=by simp[k5,kx,jA,zT]
def zm1{Z:Int->cO->qJ×cO}(Y:∀V s,iL s.1->kN (Z V s).1/\iL (Z V s).2.1)(f:Int)(j:qA)(c q m:Int)(h:iL j):pY (ir Z f j c q m).1/\iL (ir Z f j c q m).2.1:=by
 unfold ir;split
 .have a:=vo f 5 0 j h;exact⟨Ya,a.2⟩
 split
 .have a:=vo f 3 2 j h;have b:=vo f 4 1 _ a.2;exact⟨by simp only[pY,jA,kN,aV];exact⟨a.1,b.1⟩,b.2⟩
 split
 .have a:=vo f 4 1 j h;have b:=Y 3 ((bC f 4 1 j).2,c) a.2;have d:=Y 2 (Z 3 ((bC f 4 1 j).2,c)).2 b.2;exact⟨by simp only[pY,jA,j6];exact⟨wG,a.1,b.1,d.1⟩,d.2⟩
 split
 .have a:=vo f 4 1 j h;have b:=Y 3 ((bC f 4 1 j).2,cy (c+1)) a.2;exact⟨by simp only[pY,jA,kN,aV,j6];exact⟨wG,a.1,b.1⟩,b.2⟩
 split
 .have a:=vo f 4 1 j h;exact⟨Ya,a.2⟩
 split
 .have a:=Yh f (2-m.tmod 2).toNat j h;exact⟨by simp only[pY,kN,aV];exact⟨wG,wG,a.1⟩,a.2⟩
 .exact⟨by simp only[pY,jA,kN,aV];exact⟨wG,wG⟩,h⟩
theorem OA{step:cO->St×cO}(V:∀s,iL s.1->pY (step s).1/\iL (step s).2.1):∀(n:Nat) (s:cO),iL s.1->kN (iq step n s).1/\iL (iq step n s).2.1
 |0,s,h=>⟨by simp[iq,kN],h⟩
 |n+1,s,h=>by
  have a:=V s h;have b:=OA V n _ a.2;rw[iq];split
  .exact⟨by simp[kN],h⟩
  .exact⟨by rw[kN];exact⟨a.1,b.1⟩,b.2⟩
theorem Yi(f:Int):∀(k Y:Nat) (s:cO),iL s.1->pY (gZ f k Y s).1/\iL (gZ f k Y s).2.1
 |0,Y,s,h=>⟨by simp only[gZ,pY,jA,kN,aV];exact⟨wG,wG⟩,h⟩
 |k+1,Y,s,h=>by
  have ih:=Yi f k (Y+1);rw[gZ,x4];exact zm1 (fun V s Z=>OA ih _ ((bO s.1).2,s.2) (EM Z).2) f _ _ _ _ (EM h).2
def Yj(f:Int)(k deep:Nat)(V:Int)(s:cO)(h:iL s.1):kN (mp f k deep V s).1/\iL (mp f k deep V s).2.1:=
 OA (Yi f k deep) _ ((bO s.1).2,s.2) (EM h).2
def Yk(h:iL l):∀f∈(bQ l).funcs,kN f.body/\kx f.value:=by
 have L:iL (l.take 60):=fun n J=>h n (Au J);have j:=Yj 0 4 0 5 ((bO (l.take 60)).2,0) (EM L).2;have m:=vo 0 4 1 (jD (l.take 60)).2.1 j.2;have Z:=Yj 1 3 1 3 ((lN (l.take 60)).2,(jD (l.take 60)).2.2) m.2;have Y:=vo 1 4 1 (nM (l.take 60)).2.1 Z.2;intro f z;simp only[bQ,od]at z;rcases z with rfl|rfl
 .exact⟨j.1,m.1⟩
 .exact⟨Z.1,Y.1⟩
end Go.Proofs.YtbflaciihaijgaaGreat
