/- Lemmas for the last file. -/
import Derived.Test.YtbflaciihaijgaaPEN
set_option linter.all false
set_option maxHeartbeats 32000000
namespace Go.Ab
set_option maxRecDepth 20000
open Go
variable{qd:Prop}
def PN(h:qd:=by rw[List.getD_eq_getElem?_getD,List.getElem?_eq_getElem z];exact List.getElem_mem z):=h
def PO(h:qd:=by obtain⟨a,_,rfl⟩:=List.mem_map.1 I;exact a.a9):=h
def Ik(h:qd:=by simp only[tG,bj];omega):=h
def PP(h:qd:=by simp only[List.all_cons,List.all_nil,w0,dd,w2,w3,w4,Bool.and_true];rfl):=h
def PQ(h:qd:=by simp only[aF,Nat.reduceBEq, *];exact gQ (n:=r.2.vars.length) ac ac):=h
def Il(h:qd:=by simp only[aF,Nat.reduceBEq, *];exact gQ (n:=Z.length) ac ac):=h
def DX:=@List.nodup_append
end Go.Ab
namespace Go.Proofs.Ytbflaciihaijgaa
set_option maxRecDepth 20000
open Go Go.Ab Proofs.Try
variable{v:Int×Bd}{X:Qx}{S S' o:Nat->Prop}{i:qA}{lo k:Nat}{H H' H2:Hp}{Y O j:AV}{l g:qu}{s:Bd}{x f c q m:Int}{E2:aB}
section
def tyQaF.tyF:=ad @ez (ad @cR (ad @dt (ad @fP (ad @gH (ad @iU (ad @iV (ad @gO (ad @fb (ad @eA (ad @ft (ad @fc (ad @rF (ad @fG (ad @Ot (@z9)))))))))))))))
open tyQaF
noncomputable def mz:{c:SC // aI 241 (f73.body.getD .skip)=c}:=by
 refine⟨?_,?_⟩;rotate_left
 .simp only[f73,bS,aI,bM,bI,bT,bU,Nat.blt,Nat.ble];rfl
section
variable {tb:qA} (hG:zd5 tb) {X:Qx} {c:Cx} (hX:CxQ X c) {x:St} {s:Bd} {H:Hp} {S:Nat -> Prop} {lv vv:AV}
set_option maxRecDepth 100000 in
include hG hX in
def zdA(hk:x.am=1){n:Nat}{r:Int×Bd}(j:eX c n x.value s=some r)(C:cY c.aw x.name<r.2.vars.length)(z:Fin r.2)(o:zd1 X H S s lv vv):
 aY prog (aH pls tb) 73 [.ptr X.b 0,.agg x.cells] H (oI X S vv H {r.2 with vars:=r.2.vars.set (cY c.aw x.name) r.1}):=by
 have L:zd0 (aH pls tb) 73:=hG.plain ea;have R1:=o.alloc (.cells x.cells 0 true);have F1:=(fd X S vv H).alloc (.cells x.cells 0 true);refine bF (M:=241) (rs:=[]) (L.call _) L.aD L.aq func73 rfl rfl mz.2 rfl ?_;dsimp only[mz,bA,Nat.reduceAdd];repeat' (first
  |(apply aj ?_;clear hK K)|apply Ry.o ?_|(apply bq (fun J Z=>?_) (fun J Z=>?_)<;>try(cases J;done))|apply ah ?_|(apply ai fun K hK=>?_)|(apply au 4 [(3,7),(3,10),(6,7)] fun K hK=>?_)|(apply au 16 [(3,11),(8,11),(10,11)] fun K hK=>?_)|(apply au 38 [(3,18),(3,20),(10,18),(14,18),(17,18)] fun K hK=>?_)|(apply aS ?_;try intro _)|(apply aT ?_ ?_<;>clear hK K)|apply aR ?_|apply bD rfl ?_|apply ak ?_)
 refine qc ?_;refine bb ?_ (r1 hG hX n x.value s r j z R1);rintro v m ⟨rfl,i,Y,V,g⟩;have g2:=fM o g;have m2:=V.m;unfold bV at m2;have O:=CxQ.ix hG hX V x.name;obtain⟨q,hix,hld,H3,hst,hq1,hq2,U,I,F3,o3,n3⟩:=V.setV C r.1;have n2:H.next+1<=m.next:=g.next
 have m3:=I.m;have g3:H3.get H.next=some (.cells x.cells 0 true):=by rw[o3 _ (by have:=o.new (aO _);intro e;subst e;rcases g.own _ U with e|e;exact this.2.1 e;simp only[bj]at e;omega)];exact g2
 dsimp only[bV]at m3;dsimp only[aZ];repeat' (first
  |(apply aj ?_;clear hK K)|apply Rx.o ?_|apply aE ?_|(apply eC ?_;first|refine bi (O) ?_)|apply ah ?_|(apply ai fun K hK=>?_)|(apply au 4 [(3,7),(3,10),(6,7)] fun K hK=>?_)|(apply au 16 [(3,11),(8,11),(10,11)] fun K hK=>?_)|(apply au 38 [(3,18),(3,20),(10,18),(14,18),(17,18)] fun K hK=>?_)|(apply aS ?_;try intro _)|(apply aT ?_ ?_<;>clear hK K)|apply aR ?_|apply bD rfl ?_|apply ak ?_)
 .exact di
 .all_goals refine qq ?_
  exact⟨i,Y,vv,I,F1.trans (g.trans F3)⟩
set_option maxRecDepth 100000 in
include hG hX in
def zdB(hk:x.am=2){n:Nat}{i:Int×Bd}(h1:eX c n x.aW s=some i)(h2:eX c n x.value i.2=some v){a:Ar}(ha:c.aa[cY (c.aa.map (·.name)) x.name]?=some a)
 (O:Fin (ax ⟨28,cY (c.aa.map (·.name)) x.name,[(fL a.len i.1 v.2).ab,i.1,v.1]⟩ (fL a.len i.1 v.2)).2) (o:zd1 X H S s lv vv) :
 aY prog (aH pls tb) 73 [.ptr X.b 0,.agg x.cells] H (oI X S vv H { (ax ⟨28,cY (c.aa.map (·.name)) x.name,[(fL a.len i.1 v.2).ab,i.1,v.1]⟩ (fL a.len i.1 v.2)).2 with ab:=(ax ⟨28,cY (c.aa.map (·.name)) x.name,[(fL a.len i.1 v.2).ab,i.1,v.1]⟩ (fL a.len i.1 v.2)).1}):=by
 have L:zd0 (aH pls tb) 73:=hG.plain ea;have R1:=o.alloc (.cells x.cells 0 true);have F1:=(fd X S vv H).alloc (.cells x.cells 0 true);have C:Fin (fL a.len i.1 v.2):=O.le (dB _ _).le;have z:Fin v.2:=C.le (uB _ _ _).le;have V:Fin i.2:=z.le (ev c n _ _ _ h2).le;have U:X.p.aa[cY (c.aa.map (·.name)) x.name]?=some a:=by rw[hX.ar];exact ha
 refine bF (M:=241) (rs:=[]) (L.call _) L.aD L.aq func73 rfl rfl mz.2 rfl ?_;dsimp only[mz,bA,Nat.reduceAdd];repeat' (first
  |(apply aj ?_;clear hK K)|apply Ry.o ?_|(apply bq (fun J g=>?_) (fun J g=>?_)<;>try(cases J;done))|apply ah ?_|(apply ai fun K hK=>?_)|apply ak ?_)
 refine qc ?_;refine bb ?_ (r1 hG hX n x.aW s i h1 V R1);rintro w H2 ⟨rfl,S2,lv2,R2,Z⟩;have g2:=fM o Z;dsimp only[aZ];repeat' (first
  |(apply aj ?_;clear hK K)|apply Rx.o ?_|apply aE ?_|apply ah ?_|(apply ai fun K hK=>?_)|apply ak ?_)
 refine qc ?_;refine bb ?_ (r1 hG hX n x.value i.2 v h2 z R2);rintro w H3 ⟨rfl,S3,lv3,m,j⟩;have g3:=fM o (Z.trans j);have I:=PL hG hX m x.name;dsimp only[aZ];repeat' (first
  |(apply aj ?_;clear hK K)|apply Rx.o ?_|apply aE ?_|(apply eC ?_;first|refine bi (I) ?_)|apply ah ?_|(apply ai fun K hK=>?_)|apply ak ?_)
 refine qc ?_;refine bb ?_ (PK hG m (cY (c.aa.map (·.name)) x.name) i.1 U C);rintro w H4 ⟨S4,lv4,R4,F4⟩;have m4:=R4.m;unfold bV at m4;dsimp only[aZ];repeat' (first
  |(apply aj ?_;clear hK K)|apply Rx.o ?_|apply aE ?_|apply ah ?_|(apply ai fun K hK=>?_)|apply ak ?_)
 refine qc ?_;refine bb ?_ (ly hG (R4.alloc _) ⟨28,cY (c.aa.map (·.name)) x.name,[(fL a.len i.1 v.2).ab,i.1,v.1]⟩ rfl gR (cI _) O rfl rfl);rintro w H5 ⟨rfl,S5,Y,R5,F5⟩;have m5:=R5.m;unfold bV at m5;dsimp only[aZ];repeat' (first
  |(apply aj ?_;clear hK K)|apply Rx.o ?_|apply aE ?_|apply ah ?_|(apply ai fun K hK=>?_)|apply ak ?_)
 all_goals refine qq ?_
 obtain⟨R6,F6⟩:=R5.setS (ax ⟨28,cY (c.aa.map (·.name)) x.name,[(fL a.len i.1 v.2).ab,i.1,v.1]⟩ (fL a.len i.1 v.2)).1;exact⟨S5,Y,vv,R6,F1.trans (Z.trans (j.trans (F4.trans (((fd X S4 vv H4).alloc _).trans (F5.trans F6)))))⟩
set_option maxRecDepth 100000 in
include hG hX in
def zdC(hk:x.am=5){n:Nat}(h1:eX c n x.value s=some v)(U:Fin (ax ⟨29,0,[v.2.ab,v.1]⟩ v.2).2)(Y:zd1 X H S s lv vv):
 aY prog (aH pls tb) 73 [.ptr X.b 0,.agg x.cells] H (oI X S vv H { (ax ⟨29,0,[v.2.ab,v.1]⟩ v.2).2 with ab:=(ax ⟨29,0,[v.2.ab,v.1]⟩ v.2).1}):=by
 have L:zd0 (aH pls tb) 73:=hG.plain ea;have R1:=Y.alloc (.cells x.cells 0 true);have F1:=(fd X S vv H).alloc (.cells x.cells 0 true);have z:Fin v.2:=U.le (dB _ _).le;refine bF (M:=241) (rs:=[]) (L.call _) L.aD L.aq func73 rfl rfl mz.2 rfl ?_;dsimp only[mz,bA,Nat.reduceAdd];repeat' (first
  |(apply aj ?_;clear hK K)|apply Ry.o ?_|(apply bq (fun o g=>?_) (fun o g=>?_)<;>try(cases o;done))|apply ah ?_|(apply ai fun K hK=>?_)|apply ak ?_)
 refine qc ?_;refine bb ?_ (r1 hG hX n x.value s v h1 z R1);rintro w C ⟨rfl,V,O,j,J⟩;have m4:=j.m;unfold bV at m4;dsimp only[aZ];repeat' (first
  |(apply aj ?_;clear hK K)|apply Rx.o ?_|apply aE ?_|apply ah ?_|(apply ai fun K hK=>?_)|apply ak ?_)
 refine qc ?_;refine bb ?_ (ly hG (j.alloc _) ⟨29,0,[v.2.ab,v.1]⟩ rfl gR (cI _) U rfl rfl);rintro w H5 ⟨rfl,I,Z,m,i⟩;have m5:=m.m;unfold bV at m5;dsimp only[aZ];repeat' (first
  |(apply aj ?_;clear hK K)|apply Rx.o ?_|apply aE ?_|apply ah ?_|(apply ai fun K hK=>?_)|apply ak ?_)
 all_goals refine qq ?_
 obtain⟨R6,F6⟩:=m.setS (ax ⟨29,0,[v.2.ab,v.1]⟩ v.2).1;exact⟨I,Z,vv,R6,F1.trans (J.trans (((fd X V vv C).alloc _).trans (i.trans F6)))⟩
set_option maxRecDepth 100000 in
include hG hX in
theorem zdD(hk:x.am=7)(I:Fin (lj (cC (16+x.n)) (ax ⟨1,0,[]⟩ s).1 (ax ⟨1,0,[]⟩ s).2))(o:zd1 X H S s lv vv):
 aY prog (aH pls tb) 73 [.ptr X.b 0,.agg x.cells] H (oI X S vv H (lj (cC (16+x.n)) (ax ⟨1,0,[]⟩ s).1 (ax ⟨1,0,[]⟩ s).2)):=by
 have L:zd0 (aH pls tb) 73:=hG.plain ea;have R1:=o.alloc (.cells x.cells 0 true);have F1:=(fd X S vv H).alloc (.cells x.cells 0 true);have O:Fin (ax ⟨1,0,[]⟩ s).2:=I.le (uA _ _ _).le;refine bF (M:=241) (rs:=[]) (L.call _) L.aD L.aq func73 rfl rfl mz.2 rfl ?_;dsimp only[mz,bA,Nat.reduceAdd];repeat' (first
  |(apply aj ?_;clear hK K)|apply Ry.o ?_|(apply bq (fun z g=>?_) (fun z g=>?_)<;>try(cases z;done))|apply ah ?_|(apply ai fun K hK=>?_)|(apply au 4 [(3,7),(3,10),(6,7)] fun K hK=>?_)|(apply au 16 [(3,11),(8,11),(10,11)] fun K hK=>?_)|(apply au 38 [(3,18),(3,20),(10,18),(14,18),(17,18)] fun K hK=>?_)|(apply aS ?_;try intro _)|(apply aT ?_ ?_<;>clear hK K)|apply aR ?_|apply bD rfl ?_|apply ak ?_)
 refine qc ?_;refine bb ?_ (r0 hG R1 1 0 O);rintro w C ⟨rfl,i,lv4,j,Y⟩;have g4:=fM o Y;have m4:=j.m;have ew:IntKind.wrap .i64 (16+x.n)=cC (16+x.n):=rfl;unfold bV at m4;dsimp only[aZ];have U:=ly hG (j.alloc (.cells [.int .i64 (ax ⟨1,0,[]⟩ s).2.ab,.int .i64 (ax ⟨1,0,[]⟩ s).1] 0 true)) ⟨27,cC (16+x.n),[(ax ⟨1,0,[]⟩ s).2.ab,(ax ⟨1,0,[]⟩ s).1]⟩ rfl gR (cI _) (I.le ⟨uq _,aO _⟩) rfl rfl;repeat' (first
  |(apply aj ?_;clear hK K)|apply Rx.o ?_|apply aE ?_|apply ah ?_|(apply ai fun K hK=>?_)|(apply au 4 [(3,7),(3,10),(6,7)] fun K hK=>?_)|(apply au 16 [(3,11),(8,11),(10,11)] fun K hK=>?_)|(apply au 38 [(3,18),(3,20),(10,18),(14,18),(17,18)] fun K hK=>?_)|(apply aS ?_;try intro _)|(apply aT ?_ ?_<;>clear hK K)|apply aR ?_|apply bD rfl ?_|apply ak ?_)
 refine qc ?_;refine bb ?_ U;rintro w H5 ⟨rfl,S5,V,m,F5⟩;have Z:=((fd X i vv C).alloc _).trans F5;have g5:=fM o (Y.trans Z);have n4:H.next+1<=C.next:=Y.next
 have n5:C.next+1<=H5.next:=F5.next
 have g4a:(C.alloc (.cells [.int .i64 (ax ⟨1,0,[]⟩ s).2.ab,.int .i64 (ax ⟨1,0,[]⟩ s).1] 0 true)).get H.next=some (.cells x.cells 0 true):=fM o (Y.trans ((fd X i vv C).alloc _))
 have m5:H5.get X.b=some (.cells (bV X { (ax ⟨27,cC (16+x.n),[(ax ⟨1,0,[]⟩ s).2.ab,(ax ⟨1,0,[]⟩ s).1]⟩ (ax ⟨1,0,[]⟩ s).2).2 with ab:=(ax ⟨1,0,[]⟩ s).2.ab} V vv) 0 true):=m.m;have J:=(j.alloc (.cells [.int .i64 (ax ⟨1,0,[]⟩ s).2.ab,.int .i64 (ax ⟨1,0,[]⟩ s).1] 0 true)).m;have m6:=(m.setS (ax ⟨27,cC (16+x.n),[(ax ⟨1,0,[]⟩ s).2.ab,(ax ⟨1,0,[]⟩ s).1]⟩ (ax ⟨1,0,[]⟩ s).2).1).1.m;obtain⟨R6,F6⟩:=m.setS (ax ⟨27,cC (16+x.n),[(ax ⟨1,0,[]⟩ s).2.ab,(ax ⟨1,0,[]⟩ s).1]⟩ (ax ⟨1,0,[]⟩ s).2).1;have g6:=fM o (Y.trans (Z.trans F6));dsimp only[bV]at J m5 m6 g6;dsimp only[aZ];repeat' (first
  |(apply aj ?_;clear hK K)|apply Rx.o ?_|apply aE ?_|apply ah ?_|(apply ai fun K hK=>?_)|(apply au 4 [(3,7),(3,10),(6,7)] fun K hK=>?_)|(apply au 16 [(3,11),(8,11),(10,11)] fun K hK=>?_)|(apply au 38 [(3,18),(3,20),(10,18),(14,18),(17,18)] fun K hK=>?_)|(apply aS ?_;try intro _)|(apply aT ?_ ?_<;>clear hK K)|apply aR ?_|apply bD rfl ?_|apply ak ?_)
 .exact di
 .all_goals refine qq ?_
  exact⟨S5,V,vv,R6,F1.trans (Y.trans (Z.trans F6))⟩
set_option maxRecDepth 100000 in
include hG in
def zdE(h1:¬x.am=1)(h2:¬x.am=2)(m:¬x.am=3)(U:¬x.am=4)(O:¬x.am=5)(J:¬x.am=6)(z:¬x.am=7)(Z:zd1 X H S s lv vv):
 aY prog (aH pls tb) 73 [.ptr X.b 0,.agg x.cells] H (oI X S vv H s):=by
 have L:zd0 (aH pls tb) 73:=hG.plain ea;have Y:=Z.alloc (.cells x.cells 0 true);have V:=(fd X S vv H).alloc (.cells x.cells 0 true);refine bF (M:=241) (rs:=[]) (L.call _) L.aD L.aq func73 rfl rfl mz.2 rfl ?_;dsimp only[mz,bA,Nat.reduceAdd];repeat' (first
  |(apply aj ?_;clear hK K)|apply Ry.o ?_|(apply bq (fun o g=>?_) (fun o g=>?_)<;>try(cases o;done))|apply ah ?_|(apply ai fun K hK=>?_)|apply ak ?_|apply am ?_)
 all_goals refine qq ?_
 exact⟨S,lv,vv,Y,V⟩
end
end
section
def tyQaG.tyF:=ad @ez (ad @cR (ad @dt (ad @fP (ad @gH (ad @iU (ad @iV (ad @gO (ad @fb (ad @eA (ad @ft (ad @fc (ad @rF (ad @fG (@xQ))))))))))))))
open tyQaG
structure zd4 (X:Qx) (S:Nat->Prop) (vv:AV) (lo:Nat) (H:Hp) (av:AV) (l:qu):Prop where
 r:fI H av l lo
 n:∀k,bc av k->¬S k/\¬bc vv k/\¬bc X.nv k
def zd4.fr{vv i:AV}(h:zd4 X S vv lo H Y l)(o:X.b<lo)(f:FrQ X S vv H S' i H'):zd4 X S' i lo H' Y l:=by
 refine⟨h.r.keep f.next fun k j=>?_,fun k j=>?_⟩
 .have a:=h.r.lt j;have b:=h.n k j;exact f.get k a.2 ac b.1 b.2.1
 .have a:=h.r.lt j;have b:=h.n k j;refine⟨fun e=>?_,fun e=>?_,b.2.2⟩
  .rcases f.sub k e with e|e
   .exact b.1 e
   .omega
  .rcases f.own k e with e|e
   .exact b.2.1 e
   .omega
def zd4.app{vv:AV}{C:Hp}(h:zd4 X S vv lo H Y l)(o:zd1 X C S s O vv)(V:lo<=C.next)(M:H.next<=C.next)(J:∀k,k<H.next->C.get k=H.get k)(x:Int){r imm:Nat}(I:C.get r=some (.cells [.int .i64 x] imm true))(m:X.b<lo)(K:l.length<2^39):
 ∃z H',dm prog false C 22 22 Y (.sl r 0 1 1)=some (z,H')/\zd4 X S vv lo H' z (l++[x])/\zd1 X H' S s O vv/\C.next<=H'.next/\(∀k,k<C.next->¬bc Y k->H'.get k=C.get k)/\(∀k,bc z k->bc Y k\/C.next<=k)/\gI H' z (l++[x]) lo:=by
 have hr:fI C Y l lo:=h.r.keep M fun k j=>J k (h.r.lt j).2;obtain⟨z,H',bK,bW,a3,a4,Z,U⟩:=GB x hr V I K;refine⟨z,H',bK,⟨.inr bW,fun k j=>?_⟩,o.keep ac fun k i g=>Z k i fun e=>?_,ac,Z,U,bW⟩
 .rcases U k j with e|e
  .exact h.n k e
  .have:=o.new e;exact⟨this.1,this.2.1,fun L=>by have:=(o.nS k L).2.1;omega⟩
 .have b:=h.n k e;have c:=h.r.lt e;rcases g with g|g|g|g
  .omega
  .exact b.1 g
  .exact b.2.1 g
  .exact b.2.2 g
theorem zd1.dE{vv:AV}(h:zd1 X H S s O vv):eY prog H 41 (.ptr X.b 0)=some (.agg X.p.cells):=by
 rw[pS,h.m,Pr.aA];show cQ 2 (List.drop 0 (bV X s O vv))=_;rfl
def zdF{tb:qA}(V:zd5 tb)(p:Pr)(Z:p.funcs.length<2^60)(nm:cc)(H:Hp):aY prog (aH pls tb) 118 [.agg p.cells,.ai nm] H fun v H'=>v=.int .i64 (dc p.funcs nm 0)/\H'=H:=
 cF (enc:=v9) (ok:=fun x=>x.1.funcs.length<2^60) (out:=fun x=>.int .i64 (dc x.1.funcs x.2 0)) Hu (x:=(p,nm)) (V.ff _) Z
section
variable {tb:qA} (hG:zd5 tb) {X:Qx} {c:Cx} (hX:CxQ X c) {x:St} {s:Bd} {H:Hp} {S:Nat -> Prop} {lv vv:AV}
set_option maxRecDepth 100000 in
include hG hX in
theorem zdG(m:x.am=6){n:Nat}{Y:qu×Bd}(h1:oG c n x.args s=some Y)(hl:cY c.aw x.name<Y.2.vars.length)(hz:x.sz<2^36)
 (hF:Fin (ax ⟨24,0,[(ax ⟨30,dc c.funcs x.to 0,Y.2.ab::Y.1⟩ Y.2).1]⟩ { (ax ⟨30,dc c.funcs x.to 0,Y.2.ab::Y.1⟩ Y.2).2 with ab:=(ax ⟨30,dc c.funcs x.to 0,Y.2.ab::Y.1⟩ Y.2).1}).2) (o:zd1 X H S s lv vv) :
 aY prog (aH pls tb) 73 [.ptr X.b 0,.agg x.cells] H (oI X S vv H (let r:=ax ⟨30,dc c.funcs x.to 0,Y.2.ab::Y.1⟩ Y.2;let q:=ax ⟨24,0,[r.1]⟩ {r.2 with ab:=r.1};{q.2 with vars:=q.2.vars.set (cY c.aw x.name) q.1})):=by
 have hw:zd0 (aH pls tb) 73:=hG.plain ea;have hkeep:(aH pls tb).keep 73=false:=rfl;have R1:=o.alloc (.cells x.cells 0 true);have F1:=(fd X S vv H).alloc (.cells x.cells 0 true);have gx1:(H.alloc (.cells x.cells 0 true)).get H.next=some (.cells x.cells 0 true):=gD
 have o5:=o.o5;have hal:=ph x.args;have hsz:=x.aM;simp only[];generalize hr:ax ⟨30,dc c.funcs x.to 0,Y.2.ab::Y.1⟩ Y.2=r at *;have hFr:Fin r.2:=hF.le ⟨(dB ⟨24,0,[r.1]⟩ {r.2 with ab:=r.1}).le.l,(dB ⟨24,0,[r.1]⟩ {r.2 with ab:=r.1}).le.n⟩;have hFa:Fin Y.2:=by rw[<-hr]at hFr;exact hFr.le (dB _ _).le
 have happl:=(uC c n _ _ _ h1).2;refine bF (M:=241) (rs:=[]) (hw.call _) hw.aD hw.aq func73 rfl rfl mz.2 rfl ?_;dsimp only[mz,bA,Nat.reduceAdd];repeat' (first
  |(apply aj ?_;clear hK K)|apply Ry.o ?_|(apply bq (fun C g=>?_) (fun C g=>?_)<;>try(cases C;done))|apply ah ?_|(apply ai fun K hK=>?_)|(apply nD 23 [0,1,2,3,4,5,6,7,9,10,11,12,13,14,8,15,16,17,18,19] [(5,14),(7,14),(11,14),(11,15),(12,14),(12,15)] fun K hK=>?_)|(apply nD 24 [0,1,2,3,4,5,6,8,9,10,11,12,13,7,14,15,16] [(3,13),(3,14),(3,16),(6,13),(11,13),(11,14),(12,13),(12,14)] fun K hK=>?_)|(apply aS ?_;try intro _)|(apply aT ?_ ?_<;>clear hK K)|apply aR ?_|apply bD rfl ?_|apply ak ?_|apply am ?_|apply aw ?_)
 refine cA [0,3] [] 11 x.args.length (fun i E Z=>∃O J s2 S2 lv2 a,E.at 10=a/\oG c n (x.args.drop i) s2=some (J,Y.2)/\Y.1=O++J/\zd1 X Z S2 s2 lv2 vv/\FrQ X S vv (H.alloc (.cells x.cells 0 true)) S2 vv Z/\zd4 X S2 vv (H.next+1) Z a O/\O.length=i) eE ⟨[],Y.1,s,S,lv,.ah,eE,h1,rfl,R1,fd _ _ _ _,⟨.inl ⟨rfl,rfl⟩,fun k m=>(wr m).elim⟩,rfl⟩ ?_;rintro i E Z hi hcE hrH hnH hsI ⟨O,J,s2,S2,lv2,a,k8,hJ,U,R2,F2,W2,L⟩;(try simp only[bp,bm,aU,aF,aW,Nat.reduceBEq,Nat.reduceAdd,Nat.reduceLeDiff,tyF, *]at hcE);(try simp only[bp,bm,aU,aF,aW,Nat.reduceBEq,Nat.reduceAdd,Nat.reduceLeDiff,tyF, *]at hrH);(try simp only[bj,bE,cm,bO,Nat.reduceAdd]at hnH);have n2:H.next+1<=Z.next:=hnH
 have gb2:=fM o F2;by_cases hlt:i<x.args.length
 .have hlt':(i:Int)<x.args.length:=by omega
  have hgx:x.args[i]?=some x.args[i]:=a0 hlt;rw[eU hlt]at hJ;unfold oG at hJ;simp only[iS,cO]at hJ;obtain⟨e1,he1,bB,hr2,rfl,z⟩:=hJ;generalize x.args[i]=y at *;have hFe:Fin e1.2:=by
   have:=(uC c n _ _ _ hr2).1.le;rw[z]at this;exact hFa.le this
  repeat' (first
   |(apply aj ?_;clear hK K)|apply Ry.o ?_|(apply bq (fun C g=>?_) (fun C g=>?_)<;>try(cases C;done))|apply ah ?_|(apply ai fun K hK=>?_)|(apply nD 23 [0,1,2,3,4,5,6,7,9,10,11,12,13,14,8,15,16,17,18,19] [(5,14),(7,14),(11,14),(11,15),(12,14),(12,15)] fun K hK=>?_)|(apply nD 24 [0,1,2,3,4,5,6,8,9,10,11,12,13,7,14,15,16] [(3,13),(3,14),(3,16),(6,13),(11,13),(11,14),(12,13),(12,14)] fun K hK=>?_)|(apply aS ?_;try intro _)|(apply aT ?_ ?_<;>clear hK K)|apply aR ?_|apply bD rfl ?_|apply ak ?_|apply am ?_|apply aw ?_)
  refine qc ?_;refine bb ?_ (r1 hG hX n y s2 e1 he1 hFe R2);rintro w H3 ⟨rfl,S3,lv3,R3,F3⟩;have W3:=W2.fr ac F3;have n3:Z.next<=H3.next:=F3.next
  have R3a:=R3.alloc (.cells [.int .i64 e1.1] 0 true);obtain⟨v5,H5,a5,W5,R5,n5,q5,_,_⟩:=W3.app R3a dL (dH _) (fun k m=>eG) e1.1 (r:=H3.next) (imm:=0) gD ac ac;have F5:FrQ X S vv (H.alloc (.cells x.cells 0 true)) S3 vv H5:=by
   have F:=F2.trans F3;refine⟨by have:=F.next;simp only[bj]at n5 this⊢;omega,fun k h1 h2 h4 h5=>?_,F.sub,F.own⟩;rw[q5 k (by simp only[bj]at h1⊢;omega) (fun e=>by have:=W3.r.lt e;simp only[bj]at h1;omega),aQ,af (by simp only[bj]at h1;omega)];exact F.get k h1 h2 h4 h5
  have n5':Z.next<=H5.next:=CV
  dsimp only[aZ];repeat' (first
   |(apply aj ?_;clear hK K)|apply Rx.o ?_|apply aE ?_|apply ah ?_|(apply ai fun K hK=>?_)|(apply nD 23 [0,1,2,3,4,5,6,7,9,10,11,12,13,14,8,15,16,17,18,19] [(5,14),(7,14),(11,14),(11,15),(12,14),(12,15)] fun K hK=>?_)|(apply nD 24 [0,1,2,3,4,5,6,8,9,10,11,12,13,7,14,15,16] [(3,13),(3,14),(3,16),(6,13),(11,13),(11,14),(12,13),(12,14)] fun K hK=>?_)|(apply aS ?_;try intro _)|(apply aT ?_ ?_<;>clear hK K)|apply aR ?_|apply bD rfl ?_|apply ak ?_|apply am ?_|apply aw ?_)
  refine⟨ac,a2,a2,ce,CY,?_⟩;exact⟨O++[e1.1],bB.1,e1.2,S3,lv3,v5,eE,by rw[<-z];exact hr2,xm,R5,F5,W5,by simp[L]⟩
 .have hlt':¬(i:Int)<x.args.length:=by omega
  have hd:x.args.drop i=[]:=oB ac;rw[hd]at hJ;simp only[oG,cO]at hJ;obtain⟨hJ1,hJ2⟩:=hJ;subst hJ2;rw[<-hJ1,jI]at U;rw[<-U]at W2 L;clear hd L;have m2:=R2.m;unfold bV at m2;have kf:=zdF hG X.p (by rw[hX.fs];exact Nat.lt_trans hX.l3 aM) x.to;rw[hX.fs]at kf;have Rb:=R2.alloc (.cells [.int .i64 Y.2.ab] 0 true);obtain⟨v6,H6,a6,i6,n6,l6,f6,q6⟩:=YT (H:=Z.alloc (.cells [.int .i64 Y.2.ab] 0 true)) (v:=.sl Z.next 0 1 1) (l:=[Y.2.ab]) (lo:=Z.next) ⟨Z.next,0,rfl,gR,dN _,aO _,cI _⟩ (dH _) (W2.r.keep (dH _) fun k m=>by rw[aQ,af (by have:=W2.r.lt m;omega)]) (by rw[happl];simp only[mC];omega);simp only[bj]at n6 l6 f6 q6;have hf6:∀k,k<Z.next->H6.get k=Z.get k:=fun k m=>by rw[l6 k m,aQ,af ac]
  have R6:zd1 X H6 S2 Y.2 lv2 vv:=R2.keep ac fun k h1 _=>hf6 k h1;have F6:FrQ X S2 vv Z S2 vv H6:=⟨ac,fun k h1 _ _ _=>hf6 k h1,fun _ h=>.inl h,fun _ h=>.inl h⟩;have V:=DV (lo:=Z.next) hG R6 ⟨30,dc c.funcs x.to 0,Y.2.ab::Y.1⟩ (.inr i6) (by rw[hr];exact hFr);have m6:=R6.m;have mb:=Rb.m;have gbb:(Z.alloc (.cells [.int .i64 Y.2.ab] 0 true)).get H.next=some (.cells x.cells 0 true):=by rw[aQ,af ac];exact gb2
  have gb6:H6.get H.next=some (.cells x.cells 0 true):=by rw[hf6 _ ac];exact gb2
  unfold bV at m6 mb;have p2:=R2.dE;have pb:=Rb.dE;have p6:=R6.dE;repeat' (first
   |(apply aj ?_;clear hK K)|apply Ry.o ?_|(apply ee ?_;first|refine bi (kf _) ?_)|(apply bq (fun C g=>?_) (fun C g=>?_)<;>try(cases C;done))|apply ah ?_|(apply ai fun K hK=>?_)|(apply nD 23 [0,1,2,3,4,5,6,7,9,10,11,12,13,14,8,15,16,17,18,19] [(5,14),(7,14),(11,14),(11,15),(12,14),(12,15)] fun K hK=>?_)|(apply nD 24 [0,1,2,3,4,5,6,8,9,10,11,12,13,7,14,15,16] [(3,13),(3,14),(3,16),(6,13),(11,13),(11,14),(12,13),(12,14)] fun K hK=>?_)|(apply aS ?_;try intro _)|(apply aT ?_ ?_<;>clear hK K)|apply aR ?_|apply bD rfl ?_|apply ak ?_|apply am ?_|apply aw ?_)
  refine qc ?_;refine bb ?_ V;intro w H7 h7;rw[hr]at h7;obtain⟨rfl,S7,lv7,R7,F7'⟩:=h7;have F7:=F6.trans F7';have n67:H6.next<=H7.next:=F7'.next
  have n7:Z.next<=H7.next:=F7.next
  clear V;have gb7:=fM o (F2.trans F7);have m7:=R7.m;have p7:=R7.dE;unfold bV at m7;obtain⟨R8,F8⟩:=R7.setS r.1;have gb8:=fM o (F2.trans (F7.trans F8));have m8:=R8.m;have p8:=R8.dE;have hv8:r.2.vars=Y.2.vars:=by rw[<-hr];rfl
  have hst8:r.2.ab=Y.2.ab:=by rw[<-hr];rfl
  have hl8:cY c.aw x.name<r.2.vars.length:=by rw[hv8];exact hl
  clear hv8;obtain⟨q,hix,hld,_⟩:=R8.setV hl8 0;have j:=R8.alloc (.cells [.int .i64 r.1] 0 true);have kix:=CxQ.ix hG hX j x.name;have V:=ly hG j ⟨24,0,[r.1]⟩ rfl gR (cI _) hF rfl rfl;have n8:(H7.set X.b (.cells (bV X {r.2 with ab:=r.1} lv7 vv) 0 true)).next=H7.next:=rfl
  have gb8a:=fM o (F2.trans (F7.trans (F8.alloc (.cells [.int .i64 r.1] 0 true))));have m8a:=j.m;dsimp only[bV]at R8 F8 gb8 gb8a m8 m8a p8 j V hld n8 kix;rw[n8]at V;rw[hst8]at m7;dsimp only[aZ];repeat' (first
   |(apply aj ?_;clear hK K)|apply Rx.o ?_|apply aE ?_|(apply eC ?_;first|refine bi (kix) ?_)|apply ah ?_|(apply ai fun K hK=>?_)|(apply nD 23 [0,1,2,3,4,5,6,7,9,10,11,12,13,14,8,15,16,17,18,19] [(5,14),(7,14),(11,14),(11,15),(12,14),(12,15)] fun K hK=>?_)|(apply nD 24 [0,1,2,3,4,5,6,8,9,10,11,12,13,7,14,15,16] [(3,13),(3,14),(3,16),(6,13),(11,13),(11,14),(12,13),(12,14)] fun K hK=>?_)|(apply aS ?_;try intro _)|(apply aT ?_ ?_<;>clear hK K)|apply aR ?_|apply bD rfl ?_|apply ak ?_|apply am ?_|apply aw ?_)
  .exact di
  .refine qc ?_;refine bb ?_ V;rintro w H9 ⟨rfl,S9,lv9,R9,F9⟩;have hl9:cY c.aw x.name<(ax ⟨24,0,[r.1]⟩ {r.2 with ab:=r.1}).2.vars.length:=hl8;obtain⟨q',I,hld',H10,hst,hq1,hq2,hq3,R10,F10,o10,n10⟩:=R9.setV hl9 (ax ⟨24,0,[r.1]⟩ {r.2 with ab:=r.1}).1;have hqq:q'=q:=by
    rw[hix]at I;simp only[aJ,AV.ptr.injEq]at I;exact I.1.symm
   subst hqq;have m9:H9.get X.b=some (.cells (bV X { (ax ⟨24,0,[r.1]⟩ {r.2 with ab:=r.1}).2 with ab:=r.1} lv9 vv) 0 true):=R9.m;have m10:H10.get X.b=some (.cells (bV X { (ax ⟨24,0,[r.1]⟩ {r.2 with ab:=r.1}).2 with ab:=r.1} lv9 vv) 0 true):=R10.m;have F89:=F2.trans (F7.trans (F8.trans (((fd X S7 vv _).alloc _).trans F9)));have gb9:=fM o F89;have gb10:=fM o (F89.trans F10);have n9:=F9.next
   dsimp only[bV]at m9 m10;simp only[bj,bE]at n9;dsimp only[aZ];repeat' (first
    |(apply aj ?_;clear hK K)|apply Rx.o ?_|apply aE ?_|apply ah ?_|(apply ai fun K hK=>?_)|(apply nD 23 [0,1,2,3,4,5,6,7,9,10,11,12,13,14,8,15,16,17,18,19] [(5,14),(7,14),(11,14),(11,15),(12,14),(12,15)] fun K hK=>?_)|(apply nD 24 [0,1,2,3,4,5,6,8,9,10,11,12,13,7,14,15,16] [(3,13),(3,14),(3,16),(6,13),(11,13),(11,14),(12,13),(12,14)] fun K hK=>?_)|(apply aS ?_;try intro _)|(apply aT ?_ ?_<;>clear hK K)|apply aR ?_|apply bD rfl ?_|apply ak ?_|apply am ?_|apply aw ?_)
   refine pR cS cS hst ?_;repeat' (first
    |(apply aj ?_;clear hK K)|apply Rx.o ?_|apply aE ?_|apply ah ?_|(apply ai fun K hK=>?_)|(apply nD 23 [0,1,2,3,4,5,6,7,9,10,11,12,13,14,8,15,16,17,18,19] [(5,14),(7,14),(11,14),(11,15),(12,14),(12,15)] fun K hK=>?_)|(apply nD 24 [0,1,2,3,4,5,6,8,9,10,11,12,13,7,14,15,16] [(3,13),(3,14),(3,16),(6,13),(11,13),(11,14),(12,13),(12,14)] fun K hK=>?_)|(apply aS ?_;try intro _)|(apply aT ?_ ?_<;>clear hK K)|apply aR ?_|apply bD rfl ?_|apply ak ?_|apply am ?_|apply aw ?_)
   .exact di
   .all_goals refine qq ?_
    exact⟨S9,lv9,vv,R10,F1.trans (F89.trans F10)⟩
end
end
section
def tyQaH.tyF:=ad @ez (ad @cR (ad @dt (ad @fP (ad @gH (ad @iU (ad @iV (ad @gO (ad @fb (ad @eA (ad @ft (ad @fc (ad @rF (ad @fG (@Ig))))))))))))))
open tyQaH
structure zd8 (X:Qx) (S:Nat->Prop) (vv:AV) (lo:Nat) (H:Hp) (av:AV) (l:qu):Prop where
 r:ik H av l lo
 n:∀k,bc av k->¬S k/\¬bc vv k/\¬bc X.nv k
def zd8.fr{vv i:AV}(h:zd8 X S vv lo H Y l)(o:X.b<lo)(f:FrQ X S vv H S' i H'):zd8 X S' i lo H' Y l:=by
 refine⟨h.r.keep f.next fun k j=>?_,fun k j=>?_⟩
 .have a:=h.r.lt j;have b:=h.n k j;exact f.get k a.2 ac b.1 b.2.1
 .have a:=h.r.lt j;have b:=h.n k j;refine⟨fun e=>?_,fun e=>?_,b.2.2⟩
  .rcases f.sub k e with e|e
   .exact b.1 e
   .omega
  .rcases f.own k e with e|e
   .exact b.2.1 e
   .omega
def zd8.at{vv:AV}(h:zd8 X S vv lo H Y l){i:Nat}(z:l[i]?=some x):∃r,ey prog 22 Y (.int .i64 (i:Int))=some (.ptr r i)/\eY prog H 3 (.ptr r i)=some (.int .i64 x)/\bc Y r:=
 RowZ.at (S:=fun _=>False) (vv:=.ah) (lo:=lo) ⟨h.r,fun k _=>⟨fun e=>e,fun e=>wr e⟩⟩ z
def DY(tb:qA)(X:Qx)(c:Cx)(n:Nat):Prop:=∀(l:qD) (s r:Bd),gK c n l s=some r->Fin r->bN l<2^36->s.vars.length<2^36->∀{H:Hp}{S:Nat->Prop}{lv vv:AV},zd1 X H S s lv vv->aY prog (aH pls tb) 38 [.ptr X.b 0,.ao (l.map St.cells)] H (oI X S vv H r)
section
variable {tb:qA} (hG:zd5 tb) {X:Qx} {c:Cx} (hX:CxQ X c) {x:St} {s:Bd} {H:Hp} {S:Nat -> Prop} {lv vv:AV}
set_option maxRecDepth 100000 in
include hG hX in
theorem zdH{n:Nat}(j:x.am=3)(IH:DY tb X c n){r:Int×Bd}{a b m:Bd}(h1:eX c n x.value s=some r)(h2:gK c n x.a5 r.2=some a)(h3:gK c n x.a6 {a with ab:=r.2.ab,vars:=r.2.vars}=some b)(h4:nQ r.1 a.vars b.vars.length 0 b=some m)
 (hF:Fin (bZ r.1 a.ab m.ab m).2) (hz:x.sz<2^36) (hvl:s.vars.length<2^36) (hR:zd1 X H S s lv vv) :
 aY prog (aH pls tb) 73 [.ptr X.b 0,.agg x.cells] H (oI X S vv H { (bZ r.1 a.ab m.ab m).2 with ab:=(bZ r.1 a.ab m.ab m).1}):=by
 have hw:zd0 (aH pls tb) 73:=hG.plain ea;have hkeep:(aH pls tb).keep 73=false:=rfl;have R1:=hR.alloc (.cells x.cells 0 true);have F1:=(fd X S vv H).alloc (.cells x.cells 0 true);have hFm:Fin m:=hF.le (gT _ _ _ _).le;have hml:=wq _ _ _ _ _ _ h4;have hFb:Fin b:=hFm.le hml.1;have e3:=(mp c n).2.1 _ _ _ h3;have e2:=(mp c n).2.1 _ _ _ h2;have hFa:Fin a:=hFb.le ⟨e3.1.l,e3.1.n⟩;have hFr:Fin r.2:=hFa.le e2.1;have hsz:=x.aM;have o5:=hR.o5;have hlv:=ev c n _ _ _ h1;have hrl:r.2.vars.length<2^36:=by rw[hlv.v];exact hvl
 have hbl:b.vars.length<2^36:=by rw[e3.2];exact hrl
 clear e3 e2 hml hlv;refine bF (M:=241) (rs:=[]) (hw.call _) hw.aD hw.aq func73 rfl rfl mz.2 rfl ?_;dsimp only[mz,bA,Nat.reduceAdd];repeat' (first
  |(apply aj ?_;clear hK K)|apply Ry.o ?_|(apply bq (fun C Y=>?_) (fun C Y=>?_)<;>try(cases C;done))|apply ah ?_|(apply ai fun K hK=>?_)|(apply au 4 [(3,7),(3,10),(6,7)] fun K hK=>?_)|(apply au 16 [(3,11),(8,11),(10,11)] fun K hK=>?_)|(apply au 38 [(3,18),(3,20),(10,18),(14,18),(17,18)] fun K hK=>?_)|(apply aS ?_;try intro _)|(apply aT ?_ ?_<;>clear hK K)|apply aR ?_|apply bD rfl ?_|apply ak ?_|apply am ?_|apply aw ?_)
 refine qc ?_;refine bb ?_ (r1 hG hX n x.value s r h1 hFr R1);rintro w H2 ⟨rfl,S2,lv2,R2,F2⟩;have g2:=fM hR F2;have m2:=R2.m;have n2:H.next+1<=H2.next:=F2.next
 obtain⟨cv,H3,a3,c3,n3,q3⟩:=Ii (H:=H2) R2.vars.n ac;have R3:zd1 X H3 S2 r.2 lv2 vv:=R2.keep ac fun k h _=>q3 k h;have F3:FrQ X S2 vv H2 S2 vv H3:=⟨ac,fun k h _ _ _=>q3 k h,fun _ h=>.inl h,fun _ h=>.inl h⟩;have m2a:=(R2.alloc qe).m;have m3:=R3.m;have g3:H3.get H.next=some (.cells x.cells 0 true):=by rw[q3 _ ac];exact g2
 have z3:zd8 X S2 vv (H.next+1) H3 cv r.2.vars:=⟨c3.lo fun k j=>by have:=c3.lt j;omega,fun k j=>by
  have:=R2.new (c3.lt j).1;exact⟨this.1,this.2.1,fun e=>by have:=(R2.nS k e).2.1;have:=(c3.lt j).1;omega⟩⟩
 obtain⟨hc1,hc2⟩:=c3.one;dsimp only[bV]at m2 m2a m3;dsimp only[aZ];repeat' (first
  |(apply aj ?_;clear hK K)|apply Rx.o ?_|apply aE ?_|apply ah ?_|(apply ai fun K hK=>?_)|(apply au 4 [(3,7),(3,10),(6,7)] fun K hK=>?_)|(apply au 16 [(3,11),(8,11),(10,11)] fun K hK=>?_)|(apply au 38 [(3,18),(3,20),(10,18),(14,18),(17,18)] fun K hK=>?_)|(apply aS ?_;try intro _)|(apply aT ?_ ?_<;>clear hK K)|apply aR ?_|apply bD rfl ?_|apply ak ?_|apply am ?_|apply aw ?_)
 refine qc ?_;refine bb ?_ (IH x.a5 r.2 a h2 hFa ac hrl R3);rintro w H4 ⟨S4,g,Z,z,F4⟩;have o:=F2.trans (F3.trans F4);have g4:=fM hR o;have z4:=z3.fr ac F4;have m4:=z.m;obtain⟨R4s,F4s⟩:=z.setS r.2.ab;have m4s:=R4s.m;have zs:=z4.fr (X:=X) ac F4s;have R5:=R4s.swapV (vw:=cv) (l:=r.2.vars) (zs.r.lo fun k _=>dN _) (fun k j=>⟨by have:=zs.r.lt j;omega,(zs.r.lt j).2,(zs.n k j).1,(zs.n k j).2.2⟩);have m5:=R5.m;have hk5:∀k,k≠X.b->((H4.set X.b (.cells (bV X {a with ab:=r.2.ab} g Z) 0 true)).set X.b (.cells (bV X {a with ab:=r.2.ab,vars:=r.2.vars} g cv) 0 true)).get k=H4.get k:=fun k j=>by rw[a1,af j,a1,af j]
 have I:FrQ X S vv (H.alloc (.cells x.cells 0 true)) S4 cv ((H4.set X.b (.cells (bV X {a with ab:=r.2.ab} g Z) 0 true)).set X.b (.cells (bV X {a with ab:=r.2.ab,vars:=r.2.vars} g cv) 0 true)):=⟨o.next,fun k h1 h2 h4 h5=>by rw[hk5 k h2];exact o.get k h1 h2 h4 h5,o.sub,fun k j=>.inr (z4.r.lt j).1⟩;have g5:=fM hR I;have v5:ik ((H4.set X.b (.cells (bV X {a with ab:=r.2.ab} g Z) 0 true)).set X.b (.cells (bV X {a with ab:=r.2.ab,vars:=r.2.vars} g cv) 0 true)) Z a.vars 0:=z.vars.keep (aO _) fun k j=>hk5 k (by have:=(z.vS k j).1;omega);have y5':zd8 X S4 cv (X.b+1) ((H4.set X.b (.cells (bV X {a with ab:=r.2.ab} g Z) 0 true)).set X.b (.cells (bV X {a with ab:=r.2.ab,vars:=r.2.vars} g cv) 0 true)) Z a.vars:=⟨v5.lo fun k j=>(z.vS k j).1,fun k j=>⟨fun e=>(z.sS k e).2.2 j,fun e=>(z4.n k e).2.1 j,fun e=>(z.nS k e).2.2.2 j⟩⟩;clear v5;clear hk5 F4s zs z4 z3 F3 o;dsimp only[bV]at m4 m4s m5 R5 I y5' g5;dsimp only[aZ];repeat' (first
  |(apply aj ?_;clear hK K)|apply Rx.o ?_|apply aE ?_|apply ah ?_|(apply ai fun K hK=>?_)|(apply au 4 [(3,7),(3,10),(6,7)] fun K hK=>?_)|(apply au 16 [(3,11),(8,11),(10,11)] fun K hK=>?_)|(apply au 38 [(3,18),(3,20),(10,18),(14,18),(17,18)] fun K hK=>?_)|(apply aS ?_;try intro _)|(apply aT ?_ ?_<;>clear hK K)|apply aR ?_|apply bD rfl ?_|apply ak ?_|apply am ?_|apply aw ?_)
 refine qc ?_;refine bb ?_ (IH x.a6 _ b h3 hFb ac hrl R5);rintro w H6 ⟨S6,lv6,J,R6,F6⟩;have F06:=I.trans F6;have y6:=y5'.fr ac F6;have n6:H.next+1<=H6.next:=F06.next
 clear F6 I R5 R4s z y5' m5 m4s m4 g5 g4;dsimp only[aZ];repeat' (first
  |(apply aj ?_;clear hK K)|apply Rx.o ?_|apply aE ?_|apply ah ?_|(apply ai fun K hK=>?_)|(apply au 4 [(3,7),(3,10),(6,7)] fun K hK=>?_)|(apply au 16 [(3,11),(8,11),(10,11)] fun K hK=>?_)|(apply au 38 [(3,18),(3,20),(10,18),(14,18),(17,18)] fun K hK=>?_)|(apply aS ?_;try intro _)|(apply aT ?_ ?_<;>clear hK K)|apply aR ?_|apply bD rfl ?_|apply ak ?_|apply am ?_|apply aw ?_)
 refine cA [0,3,12,15,16] [] 17 b.vars.length (fun i E Hi=>∃O Si lvi,nQ r.1 a.vars (b.vars.length-i) i O=some m/\zd1 X Hi Si O lvi J/\FrQ X S vv (H.alloc (.cells x.cells 0 true)) Si J Hi/\zd8 X Si J (X.b+1) Hi Z a.vars/\O.vars.length=b.vars.length) eE ⟨b,S6,lv6,h4,R6,F06,y6,rfl⟩ ?_;clear R6 F06 y6;rintro i E Hi hi hcE hrH hnH hsI ⟨O,Si,lvi,U,Ri,Fi,yi,hil⟩;(try simp only[bp,bm,aU,aF,aW,Nat.reduceBEq,Nat.reduceAdd,Nat.reduceLeDiff,tyF, *]at hcE);(try simp only[bp,bm,aU,aF,aW,Nat.reduceBEq,Nat.reduceAdd,Nat.reduceLeDiff,tyF, *]at hrH);(try simp only[bj,bE,cm,bO,Nat.reduceAdd]at hnH);have mi:=Ri.m;have hlen6:=Ri.vars.n.len';rw[hil]at hlen6;dsimp only[bV]at mi;have ni:H.next+1<=Hi.next:=Fi.next
 by_cases hlt:i<b.vars.length
 .have hlt':(i:Int)<b.vars.length:=by omega
  obtain⟨k,j⟩:∃k,b.vars.length-i=k+1:=⟨b.vars.length-i-1,ac⟩;have hk2:b.vars.length-(i+1)=k:=ac;rw[j]at U;rw[hk2];unfold nQ at U;simp only[iS]at U;obtain⟨xa,hxa,xb,hxb,U⟩:=U;obtain⟨qa,hixa,hlda,hqa⟩:=yi.at hxa;obtain⟨qb,hixb,hldb⟩:=Ri.atV hxb;have hFx:Fin (bZ r.1 xa xb O).2:=hFm.le ⟨(wq _ _ _ _ _ _ U).1.l,(wq _ _ _ _ _ _ U).1.n⟩;have hx2:(bZ r.1 xa xb O).2.vars=O.vars:=(gT _ _ _ _).v;have hvx:i<(bZ r.1 xa xb O).2.vars.length:=by rw[hx2];omega
  repeat' (first
   |(apply aj ?_;clear hK K)|apply Ry.o ?_|(apply bq (fun C Y=>?_) (fun C Y=>?_)<;>try(cases C;done))|apply ah ?_|(apply ai fun K hK=>?_)|(apply au 4 [(3,7),(3,10),(6,7)] fun K hK=>?_)|(apply au 16 [(3,11),(8,11),(10,11)] fun K hK=>?_)|(apply au 38 [(3,18),(3,20),(10,18),(14,18),(17,18)] fun K hK=>?_)|(apply aS ?_;try intro _)|(apply aT ?_ ?_<;>clear hK K)|apply aR ?_|apply bD rfl ?_|apply ak ?_|apply am ?_|apply aw ?_)
  refine qc ?_;refine bb ?_ (xZ hG Ri r.1 xa xb hFx);rintro w H7 ⟨rfl,S7,lv7,R7,F7⟩;obtain⟨q',V,hld',H8,hst,hq1,hq2,hq3,R8,F8,o8,n8⟩:=R7.setV hvx (bZ r.1 xa xb O).1;have hqq:q'=qb:=by
   rw[hixb]at V;simp only[aJ,AV.ptr.injEq]at V;exact V.1.symm
  subst hqq;have y7:=yi.fr ac F7;have y8:=y7.fr ac F8;obtain⟨qa7,ix7,ld7,_⟩:=y7.at hxa;obtain⟨qa8,ix8,ld8,_⟩:=y8.at hxa;rw[hixa]at ix7 ix8;simp only[aJ,AV.ptr.injEq,aU]at ix7 ix8;subst ix7 ix8;have m7:=R7.m;have m8:=R8.m;have n7:=F7.next
  obtain⟨qb7,L,ldb7⟩:=R7.atV (i:=i) (x:=xb) (by rw[hx2];exact hxb);rw[hixb]at L;simp only[aJ,AV.ptr.injEq,aU]at L;subst L;dsimp only[bV]at m7 m8;clear V hx2;dsimp only[aZ];repeat' (first
   |(apply aj ?_;clear hK K)|apply Rx.o ?_|apply aE ?_|apply ah ?_|(apply ai fun K hK=>?_)|(apply au 4 [(3,7),(3,10),(6,7)] fun K hK=>?_)|(apply au 16 [(3,11),(8,11),(10,11)] fun K hK=>?_)|(apply au 38 [(3,18),(3,20),(10,18),(14,18),(17,18)] fun K hK=>?_)|(apply aS ?_;try intro _)|(apply aT ?_ ?_<;>clear hK K)|apply aR ?_|apply bD rfl ?_|apply ak ?_|apply am ?_|apply aw ?_)
  .exact di
  .refine⟨ac,a2,a2,ce,(by simp only[aF,Nat.reduceBEq, *];exact gQ (n:=b.vars.length) ac ac),?_⟩;exact⟨_,S7,lv7,U,R8,Fi.trans (F7.trans F8),y8,by rw[ky,(gT _ _ _ _).v];exact hil⟩
 .have hlt':¬(i:Int)<b.vars.length:=by omega
  have j:b.vars.length-i=0:=ac;rw[j]at U;simp only[nQ,aJ]at U;subst U;repeat' (first
   |(apply aj ?_;clear hK K)|apply Ry.o ?_|(apply bq (fun C Y=>?_) (fun C Y=>?_)<;>try(cases C;done))|apply ah ?_|(apply ai fun K hK=>?_)|(apply au 4 [(3,7),(3,10),(6,7)] fun K hK=>?_)|(apply au 16 [(3,11),(8,11),(10,11)] fun K hK=>?_)|(apply au 38 [(3,18),(3,20),(10,18),(14,18),(17,18)] fun K hK=>?_)|(apply aS ?_;try intro _)|(apply aT ?_ ?_<;>clear hK K)|apply aR ?_|apply bD rfl ?_|apply ak ?_|apply am ?_|apply aw ?_)
  refine qc ?_;refine bb ?_ (xZ hG Ri r.1 a.ab O.ab hF);rintro w H7 ⟨rfl,S7,lv7,R7,F7⟩;have m7:=R7.m;dsimp only[bV]at m7;dsimp only[aZ];repeat' (first
   |(apply aj ?_;clear hK K)|apply Rx.o ?_|apply aE ?_|apply ah ?_|(apply ai fun K hK=>?_)|(apply au 4 [(3,7),(3,10),(6,7)] fun K hK=>?_)|(apply au 16 [(3,11),(8,11),(10,11)] fun K hK=>?_)|(apply au 38 [(3,18),(3,20),(10,18),(14,18),(17,18)] fun K hK=>?_)|(apply aS ?_;try intro _)|(apply aT ?_ ?_<;>clear hK K)|apply aR ?_|apply bD rfl ?_|apply ak ?_|apply am ?_|apply aw ?_)
  all_goals refine qq ?_
  obtain⟨R8,F8⟩:=R7.setS (bZ r.1 a.ab O.ab O).1;exact⟨S7,lv7,J,R8,F1.trans (Fi.trans (F7.trans F8))⟩
end
end
variable{n r:Nat}
section
def tyQaI.tyF:=ad @ez (ad @cR (ad @vz (ad @dt (ad @fP (ad @iU (ad @gO (ad @fb (ad @eA (ad @ft (ad @fc (ad @rF (ad @Ci (ad @fG (ad @xQ (ad @Ig (@z9))))))))))))))))
open tyQaI
noncomputable def PR:{c:SC // aI 197 (f120.body.getD .skip)=c}:=by
 refine⟨?_,?_⟩;rotate_left
 .simp only[f120,bS,aI,bM,bI,bT,bU,Nat.blt,Nat.ble];rfl
def zd4.other{vv:AV}(h:zd4 X S vv lo H Y l)(C:H.next<=H'.next)(K:∀k,k<H.next->¬bc j k->H'.get k=H.get k)(hd:∀k,bc Y k->¬bc j k):zd4 X S vv lo H' Y l:=⟨h.r.keep C fun k Z=>K k (h.r.lt Z).2 (hd k Z),h.n⟩
def zd8.other{vv:AV}(h:zd8 X S vv lo H Y l)(C:H.next<=H'.next)(K:∀k,k<H.next->¬bc j k->H'.get k=H.get k)(hd:∀k,bc Y k->¬bc j k):zd8 X S vv lo H' Y l:=⟨h.r.keep C fun k Z=>K k (h.r.lt Z).2 (hd k Z),h.n⟩
def zd4.same{vv:AV}(h:zd4 X S vv lo H Y l)(C:H.next<=H'.next)(K:∀k,k<H.next->H'.get k=H.get k):zd4 X S vv lo H' Y l:=⟨h.r.keep C fun k j=>K k (h.r.lt j).2,h.n⟩
def zd8.same{vv:AV}(h:zd8 X S vv lo H Y l)(C:H.next<=H'.next)(K:∀k,k<H.next->H'.get k=H.get k):zd8 X S vv lo H' Y l:=⟨h.r.keep C fun k j=>K k (h.r.lt j).2,h.n⟩
def FrQ.other{vv:AV}{bY:Hp}(h:FrQ X o O bY S vv H)(C:H.next<=H'.next)(K:∀k,k<H.next->¬bc j k->H'.get k=H.get k)(L:∀k,bc j k->bY.next<=k):FrQ X o O bY S vv H':=
 ⟨dq h.next C,fun k i g U M=>by rw[K k (mZ i h.next) fun e=>by have:=L k e;omega];exact h.get k i g U M,h.sub,h.own⟩
def FrQ.same{vv:AV}{bY:Hp}(h:FrQ X o O bY S vv H)(C:H.next<=H'.next)(K:∀k,k<H.next->H'.get k=H.get k):FrQ X o O bY S vv H':=
 ⟨dq h.next C,fun k i g U M=>by rw[K k (mZ i h.next)];exact h.get k i g U M,h.sub,h.own⟩
def zd4.d0{vv:AV}(h:zd4 X S vv lo H j l)(o:zd1 X H S s O vv)(U:lo<=H.next)(x:Int)(M:X.b<lo)(K:l.length<2^39):
 ∃z H',dm prog false (H.alloc (.cells [.int .i64 x] 0 true)) 22 22 j (.sl H.next 0 1 1)=some (z,H')/\zd4 X S vv lo H' z (l++[x])/\zd1 X H' S s O vv/\H.next<=H'.next/\(∀k,k<H.next->¬bc j k->H'.get k=H.get k)/\(∀k,bc z k->bc j k\/H.next<=k)/\H'.get H.next=some (.cells [.int .i64 x] 0 true)/\H.next+1<=H'.next:=by
 obtain⟨z,H',bK,bW,L,Y,V,J,_⟩:=h.app (o.alloc (.cells [.int .i64 x] 0 true)) dL (dH _) (fun k Z=>eG) x (r:=H.next) (imm:=0) gD M K;simp only[bj]at Y V J;exact⟨z,H',bK,bW,L,ac,fun k i g=>by rw[V k ac g,aQ,af ac],fun k Z=>by
  rcases J k Z with e|e
  .exact .inl e
  .exact .inr ac,by rw[V _ ac fun e=>by have:=(h.r.lt e).2;omega,aQ,ay rfl],Y⟩
def zd4.ef{vv:AV}{m:qu}(h:zd4 X S vv lo H j l)(o:zd1 X H S s O vv)(U:lo<=H.next)(M:m≠[])(C:X.b<lo)(K:l.length+m.length<2^40):
 ∃z H',dm prog false (H.alloc (.cells (m.map (.int .i64)) 0 true)) 22 22 j (.sl H.next 0 m.length 1)=some (z,H')/\zd4 X S vv lo H' z (l++m)/\zd1 X H' S s O vv/\H.next<=H'.next/\(∀k,k<H.next->¬bc j k->H'.get k=H.get k)/\(∀k,bc z k->bc j k\/H.next<=k):=by
 have Z:∀k,k<H.next->(H.alloc (.cells (m.map (.int .i64)) 0 true)).get k=H.get k:=fun k Z=>eG
 have hr:fI (H.alloc (.cells (m.map (.int .i64)) 0 true)) j l lo:=h.r.keep (dH _) fun k g=>Z k (h.r.lt g).2;obtain⟨z,H',bK,bW,I,a4,Y,V⟩:=GA hr dL (tZ (H:=H.alloc (.cells (m.map (.int .i64)) 0 true)) (r:=H.next) (imm:=0) (m:=m) gD) M K;simp only[bj]at I Y V;have L:∀k,k<H.next->¬bc j k->H'.get k=H.get k:=fun k i g=>by rw[Y k ac g,Z k i]
 refine⟨z,H',bK,⟨.inr bW,fun k g=>?_⟩,o.keep ac fun k i g=>L k i fun e=>?_,ac,L,fun k g=>?_⟩
 .rcases V k g with e|e
  .exact h.n k e
  .have:=o.new (r:=k) ac;exact⟨this.1,this.2.1,fun J=>by have:=(o.nS k J).2.1;omega⟩
 .have b:=h.n k e;have c:=h.r.lt e;rcases g with g|g|g|g
  .omega
  .exact b.1 g
  .exact b.2.1 g
  .exact b.2.2 g
 .rcases V k g with e|e
  .exact .inl e
  .exact .inr ac
def zd4.at{vv:AV}(h:zd4 X S vv lo H Y l){i:Nat}(z:l[i]?=some x):∃r,ey prog 22 Y (.int .i64 (i:Int))=some (.ptr r i)/\eY prog H 3 (.ptr r i)=some (.int .i64 x):=
 RowL.at (S:=fun _=>False) (vv:=.ah) (lo:=lo) ⟨h.r,fun k _=>⟨fun e=>e,fun e=>wr e⟩⟩ z
section
variable {tb:qA} (hG:zd5 tb) {X:Qx} {c:Cx} (hX:CxQ X c) {x:St} {s:Bd} {H:Hp} {S:Nat -> Prop} {lv vv:AV}
set_option maxRecDepth 100000 in
include hG hX in
theorem zdI(IH:DY tb X c n){r:Int×Bd}{b:qO}{t:Bd}{d:Int×Bd}(h1:eX c n x.value {s with loops:=s.loops+1}=some r)(h2:mS c.aw n x.a5 (List.replicate r.2.vars.length false)=some b)
 (h3:gK c n x.a5 (jj (16*(s.loops:Int)+1) (gJ b) 0 { (ax ⟨3,16*(s.loops:Int),[]⟩ r.2).2 with ab:=(ax ⟨3,16*(s.loops:Int),[]⟩ r.2).1})=some t) (h4:eX c n x.value t=some d)
 {k:Int×Bd} (Y:ax ⟨31,s.loops,r.2.ab::((gJ b).map fun i=>r.2.vars.getD i 0)++[d.1,d.2.ab]++((gJ b).map fun i=>d.2.vars.getD i 0)⟩ d.2=k)
 {m:Int×Bd} (hm:bZ r.1 (ax ⟨25,0,[k.1]⟩ {k.2 with vars:=r.2.vars}).1 r.2.ab (ax ⟨25,0,[k.1]⟩ {k.2 with vars:=r.2.vars}).2=m)
 (hF:Fin (iC k.1 r.1 r.2.vars (gJ b) 1 {m.2 with ab:=m.1})) (hz:x.sz<2^36) (hvl:s.vars.length<2^36) (hR:zd1 X H S s lv vv) :
 aY prog (aH pls tb) 120 [.ptr X.b 0,.agg x.cells] H (oI X S vv H (iC k.1 r.1 r.2.vars (gJ b) 1 {m.2 with ab:=m.1})):=by
 have hw:zd0 (aH pls tb) 120:=hG.plain ea;have hkeep:(aH pls tb).keep 120=false:=rfl;have R1:=hR.alloc (.cells x.cells 0 true);have F1:=(fd X S vv H).alloc (.cells x.cells 0 true);have hdl0:d.2.vars.length=r.2.vars.length:=by
  rw[(ev c n _ _ _ h4).v,((mp c n).2.1 _ _ _ h3).2,(ta _ _ _ _).2.2.1];rfl
 have hmv:m.2.vars=r.2.vars:=by rw[<-hm,(gT _ _ _ _).v];rfl
 have hFm:Fin m.2:=hF.le ⟨(uD _ _ _ _ _ {m.2 with ab:=m.1}).1.l,(uD _ _ _ _ _ {m.2 with ab:=m.1}).1.n⟩;have hFf:Fin (ax ⟨25,0,[k.1]⟩ {k.2 with vars:=r.2.vars}).2:=by rw[<-hm]at hFm;exact hFm.le (gT _ _ _ _).le
 have hFk:Fin k.2:=hFf.le ⟨(dB ⟨25,0,[k.1]⟩ {k.2 with vars:=r.2.vars}).le.l,(dB ⟨25,0,[k.1]⟩ {k.2 with vars:=r.2.vars}).le.n⟩;have hFd:Fin d.2:=by rw[<-Y]at hFk;exact hFk.le (dB _ _).le
 have hFt:Fin t:=hFd.le (ev c n _ _ _ h4).le;have e3:=(mp c n).2.1 _ _ _ h3;have hFl:=hFt.le e3.1;have hFp:Fin (ax ⟨3,16*(s.loops:Int),[]⟩ r.2).2:=hFl.le ⟨(ta _ _ _ { (ax ⟨3,16*(s.loops:Int),[]⟩ r.2).2 with ab:=(ax ⟨3,16*(s.loops:Int),[]⟩ r.2).1}).1.l,(ta _ _ _ { (ax ⟨3,16*(s.loops:Int),[]⟩ r.2).2 with ab:=(ax ⟨3,16*(s.loops:Int),[]⟩ r.2).1}).1.n⟩;have hFr:Fin r.2:=hFp.le (dB _ _).le;have hlv:=ev c n _ _ _ h1;have hrl:r.2.vars.length<2^36:=by rw[hlv.v];exact hvl
 have hln:s.loops<2^36:=z5 (dH _) (by have:=hFr.n;rw[hlv.n]at this;exact this);have hbl:b.length=r.2.vars.length:=by rw[wt _ _ _ _ _ h2,pq]
 have hdl:d.2.vars.length=r.2.vars.length:=hdl0;have hsz:=x.aM;have o5:=hR.o5;clear hlv e3;have cz:=R1.m;have gx1:(H.alloc (.cells x.cells 0 true)).get H.next=some (.cells x.cells 0 true):=gD
 obtain⟨R1s,F1s⟩:=R1.cn (s.loops+1);have m1s:=R1s.m;have g1s:=fM hR F1s;have eL1:IntKind.wrap .i64 ((s.loops:Int)+1)=((s.loops+1:Nat):Int):=hT ac;dsimp only[bV]at cz m1s R1s F1s g1s;refine bF (M:=197) (rs:=[]) (hw.call _) hw.aD hw.aq func120 rfl rfl PR.2 rfl ?_;dsimp only[PR,bA,Nat.reduceAdd];repeat' (first
  |(apply aj ?_;clear hK K)|apply Rx.o ?_|apply aE ?_|apply ah ?_|(apply ai fun K hK=>?_)|(apply au 20 [(3,14),(3,16),(7,14),(7,16)] fun K hK=>?_)|(apply au 27 [(4,12),(8,12),(10,12),(11,12)] fun K hK=>?_)|(apply au 36 [(3,18),(3,20),(7,18),(7,20),(15,18),(17,18)] fun K hK=>?_)|(apply aS ?_;try intro _)|(apply aT ?_ ?_<;>clear hK K)|apply aR ?_|apply bD rfl ?_|apply ak ?_|apply am ?_|apply aw ?_)
 refine qc ?_;refine bb ?_ (r1 hG hX n x.value _ r h1 hFr R1s);rintro w O ⟨rfl,S2,lv2,R2,F2⟩;have F02:=F1s.trans F2;have g2:=fM hR F02;have m2:=R2.m;have n2:H.next+1<=O.next:=F02.next
 have hl2:=R2.vars.n.len';have hmk:∀H:Hp,j0 prog H 114 (.int .i64 r.2.vars.length) (.int .i64 r.2.vars.length)=some (.sl H.next 0 r.2.vars.length 1,H.alloc (.cells ((List.replicate r.2.vars.length false).map .bool) 0 true)):=fun H=>YY _ ac;have nw2:=R2.new (aO _);have nv2:¬bc X.nv O.next:=fun e=>by have:=(R2.nS _ e).2.1;omega
 have R3:=R2.alloc (.cells ((List.replicate r.2.vars.length false).map .bool) 0 true);have g3:(O.alloc (.cells ((List.replicate r.2.vars.length false).map .bool) 0 true)).get H.next=some (.cells x.cells 0 true):=by rw[aQ,af ac];exact g2
 clear R1 R1s cz m1s g1s;dsimp only[bV]at m2;dsimp only[aZ];repeat' (first
  |(apply aj ?_;clear hK K)|apply Rx.o ?_|apply aE ?_|apply ah ?_|(apply ai fun K hK=>?_)|(apply au 20 [(3,14),(3,16),(7,14),(7,16)] fun K hK=>?_)|(apply au 27 [(4,12),(8,12),(10,12),(11,12)] fun K hK=>?_)|(apply au 36 [(3,18),(3,20),(7,18),(7,20),(15,18),(17,18)] fun K hK=>?_)|(apply aS ?_;try intro _)|(apply aT ?_ ?_<;>clear hK K)|apply aR ?_|apply bD rfl ?_|apply ak ?_|apply am ?_|apply aw ?_)
 refine qc ?_;have hrep:(List.replicate r.2.vars.length false).length=r.2.vars.length:=pq;have hasg:=Ij hG hX (n+1) n (cI _) x.a5 _ b h2 ac R3 (q:=O.next) gD nw2.2.2 (cI _) nw2.1 nw2.2.1 nv2;rw[hrep]at hasg;refine bb ?_ hasg;clear hasg;rintro w H3 ⟨gb3,n3,q3⟩;simp only[bj]at n3 q3;have hq3:∀k,k<O.next->H3.get k=O.get k:=fun k Y=>by rw[q3 k ac ac,aQ,af ac]
 have R4:zd1 X H3 S2 r.2 lv2 vv:=R2.keep ac fun k Y _=>hq3 k Y;clear q3 R3 g3;dsimp only[aZ];repeat' (first
  |(apply aj ?_;clear hK K)|apply Rx.o ?_|apply aE ?_|apply ah ?_|(apply ai fun K hK=>?_)|(apply au 20 [(3,14),(3,16),(7,14),(7,16)] fun K hK=>?_)|(apply au 27 [(4,12),(8,12),(10,12),(11,12)] fun K hK=>?_)|(apply au 36 [(3,18),(3,20),(7,18),(7,20),(15,18),(17,18)] fun K hK=>?_)|(apply aS ?_;try intro _)|(apply aT ?_ ?_<;>clear hK K)|apply aR ?_|apply bD rfl ?_|apply ak ?_|apply am ?_|apply aw ?_)
 refine cA [0,3,4,5,6] [] 8 r.2.vars.length (fun i E Hi=>∃a,E.at 7=a/\fI Hi a (wu (ww b i)) (O.next+1)/\Sm (O.next+1) H3 Hi) eE ⟨.ah,eE,.inl ⟨rfl,rfl⟩,⟨fun _ _=>rfl⟩⟩ ?_;rintro i E Hi hi hcE hrH hnH hsI ⟨a,k7,ha,hsm⟩;(try simp only[bp,bm,aU,aF,aW,Nat.reduceBEq,Nat.reduceAdd,Nat.reduceLeDiff,tyF, *]at hcE);(try simp only[bp,bm,aU,aF,aW,Nat.reduceBEq,Nat.reduceAdd,Nat.reduceLeDiff,tyF, *]at hrH);(try simp only[bj,bE,cm,bO,Nat.reduceAdd]at hnH);by_cases z:i<r.2.vars.length
 .have hlt':(i:Int)<r.2.vars.length:=by omega
  have gbi:Hi.get O.next=some (.cells (b.map .bool) 0 true):=by rw[hsm.get _ ac];exact gb3
  have hix:=Ou (q:=O.next) z;have hld:=zbS gbi (m:=i) ac;have hws:=zbT b i;have hwl:=Ov b i;cases hbi:b.getD i false with
  |true=>
   rw[hbi]at hld;rw[hbi,ay rfl]at hws;obtain⟨v5,H5,a5,s5,n5,f5,o5'⟩:=GB (H:=Hi.alloc (.cells [.int .i64 (i:Int)] 0 true)) (i:Int) (ha.keep (H':=Hi.alloc (.cells [.int .i64 (i:Int)] 0 true)) (dH _) fun k Y=>by rw[aQ,af (by have:=(ha.lt Y).2;omega)]) dL (r:=Hi.next) (imm:=0) gD (by simp only[dx];omega);have n5':Hi.next<=H5.next:=CV
   repeat' (first
    |(apply aj ?_;clear hK K)|apply Ry.o ?_|(apply bq (fun o U=>?_) (fun o U=>?_)<;>try(cases o;done))|apply ah ?_|(apply ai fun K hK=>?_)|(apply au 20 [(3,14),(3,16),(7,14),(7,16)] fun K hK=>?_)|(apply au 27 [(4,12),(8,12),(10,12),(11,12)] fun K hK=>?_)|(apply au 36 [(3,18),(3,20),(7,18),(7,20),(15,18),(17,18)] fun K hK=>?_)|(apply aS ?_;try intro _)|(apply aT ?_ ?_<;>clear hK K)|apply aR ?_|apply bD rfl ?_|apply ak ?_|apply am ?_|apply aw ?_)
   refine⟨ac,a2,a2,ce,PQ,?_⟩;exact⟨v5,eE,.inr (by rw[hws];simpa using s5),⟨fun k Y=>by rw[f5 k Y,aQ,af ac];exact hsm.get k Y⟩⟩
  |false=>
   rw[hbi]at hld;rw[hbi,af az,jI]at hws;repeat' (first
    |(apply aj ?_;clear hK K)|apply Ry.o ?_|(apply bq (fun o U=>?_) (fun o U=>?_)<;>try(cases o;done))|apply ah ?_|(apply ai fun K hK=>?_)|(apply au 20 [(3,14),(3,16),(7,14),(7,16)] fun K hK=>?_)|(apply au 27 [(4,12),(8,12),(10,12),(11,12)] fun K hK=>?_)|(apply au 36 [(3,18),(3,20),(7,18),(7,20),(15,18),(17,18)] fun K hK=>?_)|(apply aS ?_;try intro _)|(apply aT ?_ ?_<;>clear hK K)|apply aR ?_|apply bD rfl ?_|apply ak ?_|apply am ?_|apply aw ?_)
   refine⟨ac,a2,a2,ce,PQ,?_⟩;exact⟨a,eE,by rw[hws];exact ha,hsm⟩
 .have hlt':¬(i:Int)<r.2.vars.length:=by omega
  have hie:ww b i=gJ b:=by rw[gJ,hbl,show i=r.2.vars.length by omega];rfl
  rw[hie]at ha;have hwm:∀j∈gJ b,j<r.2.vars.length:=fun j hj=>by have:=HT hj;omega
  have hwl:(gJ b).length<2^36:=by have:=Ov b b.length;have e:ww b b.length=gJ b:=rfl;rw[e]at this;omega
  have hnd:=zbU b;generalize gJ b=Z at *;clear hie gb3 h2 hbl;have hi3:∀k,k<O.next+1->Hi.get k=H3.get k:=hsm.get
  have hi2:∀k,k<O.next->Hi.get k=O.get k:=fun k Y=>by rw[hi3 k ac,hq3 k Y]
  have Ri:zd1 X Hi S2 r.2 lv2 vv:=R2.keep ac fun k Y _=>hi2 k Y;have W:zd4 X S2 vv (O.next+1) Hi a (wu Z):=⟨ha,fun k Y=>by
   have:=R2.new (r:=k) (by have:=(ha.lt Y).1;omega);exact⟨this.1,this.2.1,fun e=>by have:=(R2.nS k e).2.1;have:=(ha.lt Y).1;omega⟩⟩
  have Fi:FrQ X S vv (H.alloc (.cells x.cells 0 true)) S2 vv Hi:=F02.same ac hi2;have gi:=fM hR Fi;have mi:=Ri.m;have ni:H.next+1<=Hi.next:=Fi.next
  clear hsm R4 F02 hi3 ha hq3 hi2 R2 m2 g2;obtain⟨cv,H4,a4,c4,n4,q4⟩:=Ii (H:=Hi) Ri.vars.n ac;have R4:zd1 X H4 S2 r.2 lv2 vv:=Ri.keep ac fun k h _=>q4 k h;have W4:=W.same ac q4;have F4:=Fi.same ac q4;have C4:zd8 X S2 vv (O.next+1) H4 cv r.2.vars:=⟨c4.lo fun k Y=>by have:=(c4.lt Y).1;omega,fun k Y=>by
   have:=Ri.new (c4.lt Y).1;exact⟨this.1,this.2.1,fun e=>by have:=(Ri.nS k e).2.1;have:=(c4.lt Y).1;omega⟩⟩
  have dAC:∀k,bc a k->¬bc cv k:=fun k h1 h2=>by have:=(W.r.lt h1).2;have:=(c4.lt h2).1;omega
  have m4:=R4.m;have g4:=fM hR F4;have mia:=(Ri.alloc qe).m;have ew:=(Ow hln (j:=0) ac).1;have Rb:=R4.alloc (.cells [.int .i64 r.2.ab] 0 true);have Fb:=F4.alloc (.cells [.int .i64 r.2.ab] 0 true);have gb:=fM hR Fb;have mb:=Rb.m;obtain⟨hc1,hc2⟩:=c4.one;clear W c4;dsimp only[bV]at mi mia m4 mb;repeat' (first
   |(apply aj ?_;clear hK K)|apply Ry.o ?_|(apply bq (fun o U=>?_) (fun o U=>?_)<;>try(cases o;done))|apply ah ?_|(apply ai fun K hK=>?_)|(apply au 20 [(3,14),(3,16),(7,14),(7,16)] fun K hK=>?_)|(apply au 27 [(4,12),(8,12),(10,12),(11,12)] fun K hK=>?_)|(apply au 36 [(3,18),(3,20),(7,18),(7,20),(15,18),(17,18)] fun K hK=>?_)|(apply aS ?_;try intro _)|(apply aT ?_ ?_<;>clear hK K)|apply aR ?_|apply bD rfl ?_|apply ak ?_|apply am ?_|apply aw ?_)
  refine qc ?_;refine bb ?_ (r0 hG Rb 3 (16*(s.loops:Int)) hFp);generalize hp:ax ⟨3,16*(s.loops:Int),[]⟩ r.2=p at *;have hpv:p.2.vars=r.2.vars:=by rw[<-hp];rfl
  rintro w H5 ⟨rfl,S5,lv5,R5,F5⟩;have kb:∀k,k<H4.next->(H4.alloc (.cells [.int .i64 r.2.ab] 0 true)).get k=H4.get k:=fun k Y=>eG
  have W5:=(W4.same (dH _) kb).fr ac F5;have C5:=(C4.same (dH _) kb).fr ac F5;have V5:zd4 X S5 vv (O.next+1) H5 (.sl H4.next 0 1 1) [r.2.ab]:=zd4.fr (X:=X) (H:=H4.alloc (.cells [.int .i64 r.2.ab] 0 true)) (S:=S2) (vv:=vv) ⟨.inr ⟨H4.next,0,rfl,gR,dN _,ac,cI _⟩,fun k Y=>by
   have e:=HS Y;have:=R4.new (r:=k) (by rw[e];exact aO _);exact⟨this.1,this.2.1,fun e2=>by have:=(R4.nS k e2).2.1;omega⟩⟩ ac F5
  have d5:∀k,bc a k->¬bc (.sl H4.next 0 1 1) k:=fun k h1 h2=>by
   have:=(W4.r.lt h1).2;rw[HS h2]at this;omega
  have dC5:∀k,bc cv k->¬bc (.sl H4.next 0 1 1) k:=fun k h1 h2=>by
   have:=(C4.r.lt h1).2;rw[HS h2]at this;omega
  have m5:=R5.m;obtain⟨R6,F6⟩:=R5.setS p.1;have F06:=Fb.trans (F5.trans F6);have W6:=W5.fr (X:=X) ac F6;have V6:=V5.fr (X:=X) ac F6;have C6:=C5.fr (X:=X) ac F6;have l6:=fun H'=>W5.r.len' (H':=H');have g6:=fM hR F06;have n6:O.next+1<=H5.next:=by have:=F5.next;simp only[bj]at this;omega
  clear R5 F5 Rb gb W5 V5 C5 Ri W4 C4 F4 R4 m4 mb gi mi mia Fi Fb kb g4;dsimp only[bV]at m5 R6 F06 W6 V6 C6 g6;rw[dx]at l6;dsimp only[aZ];repeat' (first
   |(apply aj ?_;clear hK K)|apply Rx.o ?_|apply aE ?_|apply ah ?_|(apply ai fun K hK=>?_)|(apply au 20 [(3,14),(3,16),(7,14),(7,16)] fun K hK=>?_)|(apply au 27 [(4,12),(8,12),(10,12),(11,12)] fun K hK=>?_)|(apply au 36 [(3,18),(3,20),(7,18),(7,20),(15,18),(17,18)] fun K hK=>?_)|(apply aS ?_;try intro _)|(apply aT ?_ ?_<;>clear hK K)|apply aR ?_|apply bD rfl ?_|apply ak ?_|apply am ?_|apply aw ?_)
  have hdl1:∀j,j<Z.length->r.2.vars[Z.getD j 0]?=some (r.2.vars.getD (Z.getD j 0) 0):=fun j hj=>by
   have:Z.getD j 0<r.2.vars.length:=hwm _ (by rw[dF,a0 hj];exact cL hj);generalize Z.getD j 0=q at *;rw[dF,a0 this];rfl
  have haw:∀j,j<Z.length->(wu Z)[j]?=some ((Z.getD j 0:Nat):Int):=fun j hj=>by
   rw[fO,dF,a0 hj];rfl
  have hdr:∀j,j<Z.length->Z.drop j=Z.getD j 0::Z.drop (j+1):=fun j hj=>by rw[eU hj,dF,a0 hj];rfl
  have htk:∀j,j<Z.length->Z.take (j+1)=Z.take j++[Z.getD j 0]:=fun j hj=>by rw[ry,dF,a0 hj];rfl
  have hnt:∀j,j<Z.length->Z.getD j 0∉Z.take j:=fun j hj hm=>by
   have h:=hnd;rw[<-ED j Z,hdr j hj,DX]at h;exact h.2.2 _ hm _ ei rfl
  refine cA [0,3,4,5,7,9,10] [] 12 Z.length (fun j E Hj=>∃wv C Sj lvj,E.at 11=wv/\jj (16*(s.loops:Int)+1) (Z.drop j) j C=jj (16*(s.loops:Int)+1) Z 0 {p.2 with ab:=p.1} /\ C.vars.length=r.2.vars.length/\zd1 X Hj Sj C lvj vv/\FrQ X S vv (H.alloc (.cells x.cells 0 true)) Sj vv Hj/\zd4 X Sj vv (O.next+1) Hj a (wu Z)/\zd8 X Sj vv (O.next+1) Hj cv r.2.vars/\zd4 X Sj vv (O.next+1) Hj wv (r.2.ab::(Z.take j).map fun i=>r.2.vars.getD i 0)/\(∀k,bc a k->¬bc wv k)/\∀k,bc cv k->¬bc wv k) eE ⟨_,_,S5,lv5,eE,by rw[fF],by rw[<-hp];rfl,R6,F06,W6,C6,V6,d5,dC5⟩ ?_;clear R6 F06 W6 V6 C6 d5 dC5 m5 g6;rintro j E Hj hj hcE hrH hnH hsI ⟨wv,C,Sj,lvj,k11,hJ,hjv,Rj,Fj,Aj,Cj,Wj,dj,dCj⟩;(try simp only[bp,bm,aU,aF,aW,Nat.reduceBEq,Nat.reduceAdd,Nat.reduceLeDiff,tyF, *]at hcE);(try simp only[bp,bm,aU,aF,aW,Nat.reduceBEq,Nat.reduceAdd,Nat.reduceLeDiff,tyF, *]at hrH);(try simp only[bj,bE,cm,bO,Nat.reduceAdd]at hnH);have mj:=Rj.m;dsimp only[bV]at mj;have nj:O.next+1<=Hj.next:=dq n6 hnH
  by_cases z:j<Z.length
  .have hlt':(j:Int)<Z.length:=by omega
   have I:=haw j z;have hvj:=hdl1 j z;have htj:=htk j z;have hwl1:Z.getD j 0<C.vars.length:=by rw[hjv];exact hwm _ PN
   rw[hdr j z]at hJ;rw[Oz]at hJ;rw[htj];generalize Z.getD j 0=w at *;generalize hy:r.2.vars.getD w 0=y at *;obtain⟨qa,ixa,lda⟩:=Aj.at I;obtain⟨qc',ixc,ldc,_⟩:=Cj.at hvj;obtain⟨qv,ixv,ldv,_⟩:=Rj.setV hwl1 0;obtain⟨e1,e2,e3⟩:=Ow hln (j:=j) ac;have e4:IntKind.wrap .i64 (16*(s.loops:Int)+1)=16*(s.loops:Int)+1:=iN ac ac;have e5:IntKind.wrap .i64 (16*(s.loops:Int)+1+j)=16*(s.loops:Int)+1+j:=iN ac ac;obtain⟨v',H',bK,W',R',n',q',own',_,_⟩:=Wj.d0 Rj nj y ac (by simp only[eT,dx,lS];omega);have A':=Aj.other n' q' dj;have C':=Cj.other n' q' dCj;have F':=Fj.other n' q' (fun k Y=>by have:=(Wj.r.lt Y).1;simp only[bj];omega);have d':∀k,bc a k->¬bc v' k:=fun k h1 h2=>by
    rcases own' k h2 with e|e
    .exact dj k h1 e
    .have:=(Aj.r.lt h1).2;omega
   have dC':∀k,bc cv k->¬bc v' k:=fun k h1 h2=>by
    rcases own' k h2 with e|e
    .exact dCj k h1 e
    .have:=(Cj.r.lt h1).2;omega
   have m':=R'.m;have hFx:Fin (ax ⟨3,16*(s.loops:Int)+1+j,[]⟩ C).2:=hFl.le (by rw[<-hJ];exact((pE _).setV _).trans (ta _ _ _ _).1);have V:=r0 hG R' 3 (16*(s.loops:Int)+1+j) hFx;obtain⟨qa',ixa',lda'⟩:=A'.at I;rw[ixa]at ixa';simp only[aJ,AV.ptr.injEq,aU]at ixa';subst ixa';dsimp only[bV]at m';clear dj dCj Aj Cj Wj q' own' Rj hvj;repeat' (first
    |(apply aj ?_;clear hK K)|apply Ry.o ?_|(apply bq (fun o U=>?_) (fun o U=>?_)<;>try(cases o;done))|apply ah ?_|(apply ai fun K hK=>?_)|(apply au 20 [(3,14),(3,16),(7,14),(7,16)] fun K hK=>?_)|(apply au 27 [(4,12),(8,12),(10,12),(11,12)] fun K hK=>?_)|(apply au 36 [(3,18),(3,20),(7,18),(7,20),(15,18),(17,18)] fun K hK=>?_)|(apply aS ?_;try intro _)|(apply aT ?_ ?_<;>clear hK K)|apply aR ?_|apply bD rfl ?_|apply ak ?_|apply am ?_|apply aw ?_)
   refine qc ?_;refine bb ?_ V;generalize hpu:ax ⟨3,16*(s.loops:Int)+1+j,[]⟩ C=pu at *;have hpuv:pu.2.vars=C.vars:=by rw[<-hpu];rfl
   have hwl2:w<pu.2.vars.length:=by rw[hpuv];exact hwl1
   rintro u H7 ⟨rfl,S7,lv7,R7,F7⟩;obtain⟨q',L,hld',H8,hst,hq1,hq2,hq3,R8,F8,o8,n8⟩:=R7.setV hwl2 pu.1;have hqq:q'=qv:=by
    rw[ixv]at L;simp only[aJ,AV.ptr.injEq]at L;exact L.1.symm
   subst hqq;have A7:=A'.fr (X:=X) ac F7;have A8:=A7.fr (X:=X) ac F8;have C8:=(C'.fr (X:=X) ac F7).fr (X:=X) ac F8;have W8:=(W'.fr (X:=X) ac F7).fr (X:=X) ac F8;have F08:=F'.trans (F7.trans F8);obtain⟨qa7,ixa7,lda7⟩:=A7.at I;obtain⟨qa8,ixa8,lda8⟩:=A8.at I;rw[ixa]at ixa7 ixa8;simp only[aJ,AV.ptr.injEq,aU]at ixa7 ixa8;subst ixa7 ixa8;have m7:=R7.m;have m8:=R8.m;have n7:=F7.next
   have nj8:Hj.next<=H8.next:=ac
   have hjv':(pu.2.vars.set w pu.1).length=r.2.vars.length:=by rw[ky,hpuv];exact hjv
   have hmap:(r.2.ab::(Z.take j).map fun i=>r.2.vars.getD i 0)++[y]=r.2.ab::(Z.take j++[w]).map fun i=>r.2.vars.getD i 0:=by rw[sw,dS,mK,hy];rfl
   rw[hmap]at W8;clear hpuv hmap hjv L A' W' C' F' hpu hld' A7;dsimp only[bV]at m7 m8;dsimp only[aZ];repeat' (first
    |(apply aj ?_;clear hK K)|apply Rx.o ?_|apply aE ?_|apply ah ?_|(apply ai fun K hK=>?_)|(apply au 20 [(3,14),(3,16),(7,14),(7,16)] fun K hK=>?_)|(apply au 27 [(4,12),(8,12),(10,12),(11,12)] fun K hK=>?_)|(apply au 36 [(3,18),(3,20),(7,18),(7,20),(15,18),(17,18)] fun K hK=>?_)|(apply aS ?_;try intro _)|(apply aT ?_ ?_<;>clear hK K)|apply aR ?_|apply bD rfl ?_|apply ak ?_|apply am ?_|apply aw ?_)
   .exact di
   .refine⟨ac,a2,a2,ce,Il,?_⟩;exact⟨v',_,S7,lv7,eE,hJ,hjv',R8,F08,A8,C8,W8,d',dC'⟩
  .have hlt':¬(j:Int)<Z.length:=by omega
   have hd:Z.drop j=[]:=oB ac;have ht:Z.take j=Z:=gZ ac;rw[hd]at hJ;rw[ht]at Wj;have hJ:C=jj (16*(s.loops:Int)+1) Z 0 {p.2 with ab:=p.1}:=hJ;rw[<-hJ]at hFl h3;have gj:=fM hR Fj;have nj2:H.next+1<=Hj.next:=Fj.next
   clear hJ hd ht;repeat' (first
    |(apply aj ?_;clear hK K)|apply Ry.o ?_|(apply bq (fun o U=>?_) (fun o U=>?_)<;>try(cases o;done))|apply ah ?_|(apply ai fun K hK=>?_)|(apply au 20 [(3,14),(3,16),(7,14),(7,16)] fun K hK=>?_)|(apply au 27 [(4,12),(8,12),(10,12),(11,12)] fun K hK=>?_)|(apply au 36 [(3,18),(3,20),(7,18),(7,20),(15,18),(17,18)] fun K hK=>?_)|(apply aS ?_;try intro _)|(apply aT ?_ ?_<;>clear hK K)|apply aR ?_|apply bD rfl ?_|apply ak ?_|apply am ?_|apply aw ?_)
   refine qc ?_;refine bb ?_ (IH x.a5 C t h3 hFt ac ac Rj);rintro u H6 ⟨S6,lv6,vv6,R6,F6⟩;have A6:=Aj.fr (X:=X) ac F6;have W6:=Wj.fr (X:=X) ac F6;have C6:=Cj.fr (X:=X) ac F6;have F06:=Fj.trans F6;have nj6:O.next+1<=H6.next:=dq nj F6.next
   have g6:=fM hR F06;clear Rj Fj Aj Wj Cj F6 gj mj;dsimp only[aZ];repeat' (first
    |(apply aj ?_;clear hK K)|apply Rx.o ?_|apply aE ?_|apply ah ?_|(apply ai fun K hK=>?_)|(apply au 20 [(3,14),(3,16),(7,14),(7,16)] fun K hK=>?_)|(apply au 27 [(4,12),(8,12),(10,12),(11,12)] fun K hK=>?_)|(apply au 36 [(3,18),(3,20),(7,18),(7,20),(15,18),(17,18)] fun K hK=>?_)|(apply aS ?_;try intro _)|(apply aT ?_ ?_<;>clear hK K)|apply aR ?_|apply bD rfl ?_|apply ak ?_|apply am ?_|apply aw ?_)
   refine qc ?_;refine bb ?_ (r1 hG hX n x.value t d h4 hFd R6);rintro u H7 ⟨rfl,S7,lv7,R7,F7⟩;have A7:=A6.fr (X:=X) ac F7;have W7:=W6.fr (X:=X) ac F7;have C7:=C6.fr (X:=X) ac F7;have F07:=F06.trans F7;have m7:=R7.m;have n7:H.next+1<=H7.next:=F07.next
   have nj7:O.next+1<=H7.next:=dq nj6 F7.next
   clear R6 F06 A6 W6 C6 F7 g6;dsimp only[bV]at m7;dsimp only[aZ];have hwlen:(r.2.ab::Z.map fun i=>r.2.vars.getD i 0).length<2^37:=by simp only[eT,dx];omega
   obtain⟨kv,H9,a9,K9,R9,n9,q9,own9⟩:=W7.ef (m:=[d.1,d.2.ab]) R7 nj7 az ac (by simp only[mC]at hwlen⊢;omega);have A9:=A7.other n9 q9 dj;have C9:=C7.other n9 q9 dCj;have F9:=F07.other n9 q9 (fun k Y=>by have:=(W7.r.lt Y).1;simp only[bj];omega);have dA9:∀k,bc a k->¬bc kv k:=fun k h1 h2=>by
    rcases own9 k h2 with e|e
    .exact dj k h1 e
    .have:=(A7.r.lt h1).2;omega
   have dC9:∀k,bc cv k->¬bc kv k:=fun k h1 h2=>by
    rcases own9 k h2 with e|e
    .exact dCj k h1 e
    .have:=(C7.r.lt h1).2;omega
   have l9a:=fun H'=>A9.r.len' (H':=H');rw[dx]at l9a;simp only[dS,mK,mC,bO,Nat.reduceAdd]at a9;clear R7 F07 A7 W7 C7 dj dCj own9 q9;repeat' (first
    |(apply aj ?_;clear hK K)|apply Rx.o ?_|apply aE ?_|apply ah ?_|(apply ai fun K hK=>?_)|(apply au 20 [(3,14),(3,16),(7,14),(7,16)] fun K hK=>?_)|(apply au 27 [(4,12),(8,12),(10,12),(11,12)] fun K hK=>?_)|(apply au 36 [(3,18),(3,20),(7,18),(7,20),(15,18),(17,18)] fun K hK=>?_)|(apply aS ?_;try intro _)|(apply aT ?_ ?_<;>clear hK K)|apply aR ?_|apply bD rfl ?_|apply ak ?_|apply am ?_|apply aw ?_)
   have hdv:∀w,w<r.2.vars.length->d.2.vars[w]?=some (d.2.vars.getD w 0):=fun w hw=>by
    rw[dF,a0 ac];rfl
   have hwj0:∀j,j<Z.length->Z.getD j 0<r.2.vars.length:=fun j z=>hwm _ PN;refine cA [0,3,4,5,7,9,10] [] 14 Z.length (fun j E Hj=>∃kj,E.at 11=kj/\zd1 X Hj S7 d.2 lv7 vv6/\FrQ X S vv (H.alloc (.cells x.cells 0 true)) S7 vv6 Hj/\zd4 X S7 vv6 (O.next+1) Hj a (wu Z)/\zd8 X S7 vv6 (O.next+1) Hj cv r.2.vars/\zd4 X S7 vv6 (O.next+1) Hj kj (r.2.ab::(Z.map fun i=>r.2.vars.getD i 0)++[d.1,d.2.ab]++((Z.take j).map fun i=>d.2.vars.getD i 0))/\(∀k,bc a k->¬bc kj k)/\∀k,bc cv k->¬bc kj k) eE ⟨kv,eE,R9,F9,A9,C9,by rw[zG,mK,jI];exact K9,dA9,dC9⟩ ?_;clear R9 F9 A9 C9 K9 dA9 dC9 m7 a9;rintro j E Hj hj hcE hrH hnH hsI ⟨kj,k11,Rj,Fj,Aj,Cj,Kj,dAj,dCj⟩;(try simp only[bp,bm,aU,aF,aW,Nat.reduceBEq,Nat.reduceAdd,Nat.reduceLeDiff,tyF, *]at hcE);(try simp only[bp,bm,aU,aF,aW,Nat.reduceBEq,Nat.reduceAdd,Nat.reduceLeDiff,tyF, *]at hrH);(try simp only[bj,bE,cm,bO,Nat.reduceAdd]at hnH);have mj:=Rj.m;dsimp only[bV]at mj;have nj:O.next+1<=Hj.next:=ac
   by_cases z:j<Z.length
   .have hlt':(j:Int)<Z.length:=by omega
    have I:=haw j z;have hvj:=hdv _ (hwj0 j z);have htj:=htk j z;rw[htj];generalize Z.getD j 0=w at *;generalize hy:d.2.vars.getD w 0=y at *;obtain⟨qa,ixa,lda⟩:=Aj.at I;obtain⟨qv,ixv,ldv⟩:=Rj.atV hvj;obtain⟨v',H',bK,K',R',n',q',own',gk,n''⟩:=Kj.d0 Rj nj y ac (by simp only[fg,eT,dx,lS,gM];omega);have A':=Aj.other n' q' dAj;have C':=Cj.other n' q' dCj;have F':=Fj.other n' q' (fun k Y=>by have:=(Kj.r.lt Y).1;simp only[bj];omega);have dA':∀k,bc a k->¬bc v' k:=fun k h1 h2=>by
     rcases own' k h2 with e|e
     .exact dAj k h1 e
     .have:=(Aj.r.lt h1).2;omega
    have dC':∀k,bc cv k->¬bc v' k:=fun k h1 h2=>by
     rcases own' k h2 with e|e
     .exact dCj k h1 e
     .have:=(Cj.r.lt h1).2;omega
    have hmap:(r.2.ab::(Z.map fun i=>r.2.vars.getD i 0)++[d.1,d.2.ab]++((Z.take j).map fun i=>d.2.vars.getD i 0))++[y]=r.2.ab::(Z.map fun i=>r.2.vars.getD i 0)++[d.1,d.2.ab]++((Z.take j++[w]).map fun i=>d.2.vars.getD i 0):=by rw[sw,dS,mK,hy];simp
    rw[hmap]at K';have Rja:=Rj.alloc (.cells [.int .i64 y] 0 true);have Aja:=Aj.same (dH _) (H':=Hj.alloc (.cells [.int .i64 y] 0 true)) fun k Y=>eG;obtain⟨qa',ixa',lda'⟩:=A'.at I;obtain⟨qa2,ixa2,ldaa⟩:=Aja.at I;obtain⟨qv',ixv',ldv'⟩:=R'.atV hvj;obtain⟨qv2,ixv2,ldva⟩:=Rja.atV hvj;rw[ixa]at ixa' ixa2;rw[ixv]at ixv' ixv2;simp only[aJ,AV.ptr.injEq,aU]at ixa' ixa2 ixv' ixv2;subst ixa' ixa2 ixv' ixv2;have m':=R'.m;have mja:=Rja.m;dsimp only[bV]at m' mja;clear hmap dAj dCj Aj Cj Kj q' own' Rj Rja Aja hvj;repeat' (first
     |(apply aj ?_;clear hK K)|apply Ry.o ?_|(apply bq (fun o U=>?_) (fun o U=>?_)<;>try(cases o;done))|apply ah ?_|(apply ai fun K hK=>?_)|(apply au 20 [(3,14),(3,16),(7,14),(7,16)] fun K hK=>?_)|(apply au 27 [(4,12),(8,12),(10,12),(11,12)] fun K hK=>?_)|(apply au 36 [(3,18),(3,20),(7,18),(7,20),(15,18),(17,18)] fun K hK=>?_)|(apply aS ?_;try intro _)|(apply aT ?_ ?_<;>clear hK K)|apply aR ?_|apply bD rfl ?_|apply ak ?_|apply am ?_|apply aw ?_)
    .exact di
    .refine⟨ac,a2,a2,ce,Il,?_⟩;exact⟨v',eE,R',F',A',C',K',dA',dC'⟩
   .have hlt':¬(j:Int)<Z.length:=by omega
    have ht:Z.take j=Z:=gZ ac;rw[ht]at Kj;clear ht;have V:=DV (lo:=O.next+1) hG Rj ⟨31,s.loops,r.2.ab::(Z.map fun i=>r.2.vars.getD i 0)++[d.1,d.2.ab]++(Z.map fun i=>d.2.vars.getD i 0)⟩ Kj.r (by rw[Y];exact hFk);rw[Y]at V;repeat' (first
     |(apply aj ?_;clear hK K)|apply Ry.o ?_|(apply bq (fun o U=>?_) (fun o U=>?_)<;>try(cases o;done))|apply ah ?_|(apply ai fun K hK=>?_)|(apply au 20 [(3,14),(3,16),(7,14),(7,16)] fun K hK=>?_)|(apply au 27 [(4,12),(8,12),(10,12),(11,12)] fun K hK=>?_)|(apply au 36 [(3,18),(3,20),(7,18),(7,20),(15,18),(17,18)] fun K hK=>?_)|(apply aS ?_;try intro _)|(apply aT ?_ ?_<;>clear hK K)|apply aR ?_|apply bD rfl ?_|apply ak ?_|apply am ?_|apply aw ?_)
    refine qc ?_;refine bb ?_ V;rintro u J ⟨rfl,S10,lv10,R10,F10⟩;have A10:=Aj.fr (X:=X) ac F10;have C10:=Cj.fr (X:=X) ac F10;have F010:=Fj.trans F10;have n10:Hj.next<=J.next:=F10.next
    clear Rj Fj Aj Cj Kj dAj dCj V mj F10;have m10:=R10.m;have hkv:k.2.vars=d.2.vars:=by rw[<-Y];rfl
    have R11:=R10.swapV (vw:=cv) (l:=r.2.vars) (C10.r.lo fun k _=>dN _) (fun k Y=>⟨by have:=(C10.r.lt Y).1;omega,(C10.r.lt Y).2,(C10.n k Y).1,(C10.n k Y).2.2⟩);have hk11:∀q,q≠X.b->(J.set X.b (.cells (bV X {k.2 with vars:=r.2.vars} lv10 cv) 0 true)).get q=J.get q:=fun q hq=>by rw[a1,af hq]
    have F11:FrQ X S vv (H.alloc (.cells x.cells 0 true)) S10 cv (J.set X.b (.cells (bV X {k.2 with vars:=r.2.vars} lv10 cv) 0 true)):=⟨F010.next,fun k h1 h2 h4 h5=>by rw[hk11 k h2];exact F010.get k h1 h2 h4 h5,F010.sub,fun k Y=>.inr (by have:=(C10.r.lt Y).1;simp only[bj];omega)⟩;have hAC:∀q,bc a q->¬bc cv q:=dAC;have A11:zd4 X S10 cv (O.next+1) (J.set X.b (.cells (bV X {k.2 with vars:=r.2.vars} lv10 cv) 0 true)) a (wu Z):=⟨A10.r.keep (aO _) fun q hq=>hk11 q (by have:=(A10.r.lt hq).1;omega),fun q hq=>⟨(A10.n q hq).1,hAC q hq,(A10.n q hq).2.2⟩⟩;clear A10 C10 F010 hk11;have R11a:=R11.alloc (.cells [.int .i64 k.1] 0 true);have F11a:=(fd X S10 cv (J.set X.b (.cells (bV X {k.2 with vars:=r.2.vars} lv10 cv) 0 true))).alloc (.cells [.int .i64 k.1] 0 true);have V:=ly hG R11a ⟨25,0,[k.1]⟩ rfl gR (cI _) hFf rfl rfl;have n11:(J.set X.b (.cells (bV X {k.2 with vars:=r.2.vars} lv10 cv) 0 true)).next=J.next:=rfl
    dsimp only[bV]at m10 R11 F11 F11a A11 V n11;rw[n11]at V;dsimp only[aZ];repeat' (first
     |(apply aj ?_;clear hK K)|apply Rx.o ?_|apply aE ?_|apply ah ?_|(apply ai fun K hK=>?_)|(apply au 20 [(3,14),(3,16),(7,14),(7,16)] fun K hK=>?_)|(apply au 27 [(4,12),(8,12),(10,12),(11,12)] fun K hK=>?_)|(apply au 36 [(3,18),(3,20),(7,18),(7,20),(15,18),(17,18)] fun K hK=>?_)|(apply aS ?_;try intro _)|(apply aT ?_ ?_<;>clear hK K)|apply aR ?_|apply bD rfl ?_|apply ak ?_|apply am ?_|apply aw ?_)
    refine qc ?_;refine bb ?_ V;generalize hf:ax ⟨25,0,[k.1]⟩ {k.2 with vars:=r.2.vars}=f at *;rintro u H12 ⟨rfl,S12,lv12,R12,F12⟩;have F012:=F11.trans (F11a.trans F12);have kb:∀q,q<J.next->(Hp.alloc (Hp.set J X.b (.cells [.ao (X.p.aa.map Ar.cells),.ao (X.p.funcs.map Fu.cells),lv10,X.nv,cv,.int .i64 k.2.ab,.int .i64 k.2.loops] 0 true)) (.cells [.int .i64 k.1] 0 true)).get q=(Hp.set J X.b (.cells [.ao (X.p.aa.map Ar.cells),.ao (X.p.funcs.map Fu.cells),lv10,X.nv,cv,.int .i64 k.2.ab,.int .i64 k.2.loops] 0 true)).get q:=fun q hq=>by rw[aQ,af db]
    have A12:=(A11.same (dH _) kb).fr (X:=X) ac F12;have n12:J.next+1<=H12.next:=F12.next
    clear R11 R11a F11 F11a A11 kb F12 V;dsimp only[aZ];repeat' (first
     |(apply aj ?_;clear hK K)|apply Rx.o ?_|apply aE ?_|apply ah ?_|(apply ai fun K hK=>?_)|(apply au 20 [(3,14),(3,16),(7,14),(7,16)] fun K hK=>?_)|(apply au 27 [(4,12),(8,12),(10,12),(11,12)] fun K hK=>?_)|(apply au 36 [(3,18),(3,20),(7,18),(7,20),(15,18),(17,18)] fun K hK=>?_)|(apply aS ?_;try intro _)|(apply aT ?_ ?_<;>clear hK K)|apply aR ?_|apply bD rfl ?_|apply ak ?_|apply am ?_|apply aw ?_)
    refine qc ?_;refine bb ?_ (xZ hG R12 r.1 f.1 r.2.ab (by rw[hm];exact hFm));rw[hm];rintro u H13 ⟨rfl,S13,lv13,R13,F13⟩;have m13:=R13.m;obtain⟨R14,F14⟩:=R13.setS m.1;have F014:=F012.trans (F13.trans F14);have A14:=(A12.fr (X:=X) ac F13).fr (X:=X) ac F14;have n13:H12.next<=H13.next:=F13.next
    have l14:=fun H'=>A14.r.len' (H':=H');rw[dx]at l14;dsimp only[bV]at m13 R14 F014 A14;dsimp only[aZ];repeat' (first
     |(apply aj ?_;clear hK K)|apply Rx.o ?_|apply aE ?_|apply ah ?_|(apply ai fun K hK=>?_)|(apply au 20 [(3,14),(3,16),(7,14),(7,16)] fun K hK=>?_)|(apply au 27 [(4,12),(8,12),(10,12),(11,12)] fun K hK=>?_)|(apply au 36 [(3,18),(3,20),(7,18),(7,20),(15,18),(17,18)] fun K hK=>?_)|(apply aS ?_;try intro _)|(apply aT ?_ ?_<;>clear hK K)|apply aR ?_|apply bD rfl ?_|apply ak ?_|apply am ?_|apply aw ?_)
    refine cA [0,3,5,7,9,15] [] 17 Z.length (fun j E Hj=>∃C Sj lvj,iC k.1 r.1 r.2.vars (Z.drop j) (j+1) C=iC k.1 r.1 r.2.vars Z 1 {m.2 with ab:=m.1} /\ C.vars.length=r.2.vars.length/\(∀i,i∉Z.take j->C.vars[i]?=r.2.vars[i]?)/\zd1 X Hj Sj C lvj cv/\FrQ X S vv (H.alloc (.cells x.cells 0 true)) Sj cv Hj/\zd4 X Sj cv (O.next+1) Hj a (wu Z)) eE ⟨{m.2 with ab:=m.1},S13,lv13,by rw[fF],by rw[<-hmv],fun i _=>by rw[<-hmv],R14,F014,A14⟩ ?_;clear R14 F014 A14 m13 R12 R13 F13 F14 F012 A12;rintro i3 E3 Hi3 hi3 hcE hrH hnH hsI ⟨C,Sj,lvj,hJ,hjv,hjo,Rj,Fj,Aj⟩;(try simp only[bp,bm,aU,aF,aW,Nat.reduceBEq,Nat.reduceAdd,Nat.reduceLeDiff,tyF, *]at hcE);(try simp only[bp,bm,aU,aF,aW,Nat.reduceBEq,Nat.reduceAdd,Nat.reduceLeDiff,tyF, *]at hrH);(try simp only[bj,bE,cm,bO,Nat.reduceAdd]at hnH);have mj:=Rj.m;dsimp only[bV]at mj;have nj:O.next+1<=Hi3.next:=ac
    by_cases z:i3<Z.length
    .have hlt':(i3:Int)<Z.length:=by omega
     have I:=haw i3 z;have hvj:=hdl1 i3 z;have hnj:=hnt i3 z;have htj:=htk i3 z;have hwl1:Z.getD i3 0<C.vars.length:=by rw[hjv];exact hwj0 i3 z
     rw[hdr i3 z,OA]at hJ;rw[<-hjo _ hnj]at hvj;rw[htj];generalize Z.getD i3 0=w at *;generalize r.2.vars.getD w 0=y at *;have hsx:IntKind.wrap .i64 (1+(i3:Int))=((i3+1:Nat):Int):=CX;have hFq:Fin (bZ r.1 (ax ⟨25,((i3+1:Nat):Int),[k.1]⟩ C).1 y (ax ⟨25,((i3+1:Nat):Int),[k.1]⟩ C).2).2:=hF.le (by rw[<-hJ];exact((pE _).setV _).trans (uD _ _ _ _ _ _).1);have hFq0:Fin (ax ⟨25,((i3+1:Nat):Int),[k.1]⟩ C).2:=hFq.le (gT _ _ _ _).le;have Rja:=Rj.alloc (.cells [.int .i64 k.1] 0 true);have V:=ly hG Rja ⟨25,((i3+1:Nat):Int),[k.1]⟩ rfl gR (cI _) hFq0 rfl rfl;repeat' (first
      |(apply aj ?_;clear hK K)|apply Ry.o ?_|(apply bq (fun o U=>?_) (fun o U=>?_)<;>try(cases o;done))|apply ah ?_|(apply ai fun K hK=>?_)|(apply au 20 [(3,14),(3,16),(7,14),(7,16)] fun K hK=>?_)|(apply au 27 [(4,12),(8,12),(10,12),(11,12)] fun K hK=>?_)|(apply au 36 [(3,18),(3,20),(7,18),(7,20),(15,18),(17,18)] fun K hK=>?_)|(apply aS ?_;try intro _)|(apply aT ?_ ?_<;>clear hK K)|apply aR ?_|apply bD rfl ?_|apply ak ?_|apply am ?_|apply aw ?_)
     refine qc ?_;refine bb ?_ V;generalize hg:ax ⟨25,((i3+1:Nat):Int),[k.1]⟩ C=g at *;have hgv:g.2.vars=C.vars:=by rw[<-hg];rfl
     rintro u H14 ⟨rfl,S14,lv14,R14,F14'⟩;have F14:=((fd X Sj cv Hi3).alloc (.cells [.int .i64 k.1] 0 true)).trans F14';have A14:=Aj.fr (X:=X) ac F14;have F014:=Fj.trans F14;have n14:Hi3.next<=H14.next:=F14.next
     have m14:=R14.m;obtain⟨qa,ixa,lda⟩:=A14.at I;obtain⟨qv,ixv,ldv⟩:=R14.atV (i:=w) (x:=y) (by rw[hgv];exact hvj);clear Rja V F14 F14' Fj Aj;dsimp only[bV]at m14;dsimp only[aZ];repeat' (first
      |(apply aj ?_;clear hK K)|apply Rx.o ?_|apply aE ?_|apply ah ?_|(apply ai fun K hK=>?_)|(apply au 20 [(3,14),(3,16),(7,14),(7,16)] fun K hK=>?_)|(apply au 27 [(4,12),(8,12),(10,12),(11,12)] fun K hK=>?_)|(apply au 36 [(3,18),(3,20),(7,18),(7,20),(15,18),(17,18)] fun K hK=>?_)|(apply aS ?_;try intro _)|(apply aT ?_ ?_<;>clear hK K)|apply aR ?_|apply bD rfl ?_|apply ak ?_|apply am ?_|apply aw ?_)
     refine qc ?_;refine bb ?_ (xZ hG R14 r.1 g.1 y hFq);generalize hmq:bZ r.1 g.1 y g.2=mq at *;have hmqv:mq.2.vars=C.vars:=by rw[<-hmq,(gT _ _ _ _).v];exact hgv
     have hwl2:w<mq.2.vars.length:=by rw[hmqv];exact hwl1
     rintro u H15 ⟨rfl,S15,lv15,R15,F15⟩;obtain⟨q',L,hld',H16,hst,hq1,hq2,hq3,R16,F16,o16,n16⟩:=R15.setV hwl2 mq.1;have hqq:q'=qv:=by
      rw[ixv]at L;simp only[aJ,AV.ptr.injEq]at L;exact L.1.symm
     subst hqq;have A15:=A14.fr (X:=X) ac F15;have A16:=A15.fr (X:=X) ac F16;have F016:=F014.trans (F15.trans F16);obtain⟨qa5,ixa5,lda5⟩:=A15.at I;obtain⟨qa6,ixa6,lda6⟩:=A16.at I;rw[ixa]at ixa5 ixa6;simp only[aJ,AV.ptr.injEq,aU]at ixa5 ixa6;subst ixa5 ixa6;obtain⟨qv5,ixv5,ldv5⟩:=R15.atV (i:=w) (x:=y) (by rw[hmqv];exact hvj);rw[ixv]at ixv5;simp only[aJ,AV.ptr.injEq,aU]at ixv5;subst ixv5;have m15:=R15.m;have m16:=R16.m;have n15:H14.next<=H15.next:=F15.next
     have nj16:Hi3.next<=H16.next:=ac
     have hjv':(mq.2.vars.set w mq.1).length=r.2.vars.length:=by rw[ky,hmqv];exact hjv
     have hjo':∀i,i∉Z.take i3++[w]->(mq.2.vars.set w mq.1)[i]?=r.2.vars[i]?:=fun i hi=>by
      rw[kU,not_or,wa]at hi;rw[BB,af (fun e=>hi.2 e.symm),hmqv];exact hjo i hi.1
     clear hmqv hjv hjo L hld' hmq A14 A15 Rj R14 hgv hg;dsimp only[bV]at m15 m16;dsimp only[aZ];repeat' (first
      |(apply aj ?_;clear hK K)|apply Rx.o ?_|apply aE ?_|apply ah ?_|(apply ai fun K hK=>?_)|(apply au 20 [(3,14),(3,16),(7,14),(7,16)] fun K hK=>?_)|(apply au 27 [(4,12),(8,12),(10,12),(11,12)] fun K hK=>?_)|(apply au 36 [(3,18),(3,20),(7,18),(7,20),(15,18),(17,18)] fun K hK=>?_)|(apply aS ?_;try intro _)|(apply aT ?_ ?_<;>clear hK K)|apply aR ?_|apply bD rfl ?_|apply ak ?_|apply am ?_|apply aw ?_)
     .exact di
     .refine⟨ac,a2,a2,ce,Il,?_⟩;exact⟨_,S15,lv15,hJ,hjv',hjo',R16,F016,A16⟩
    .have hlt':¬(i3:Int)<Z.length:=by omega
     have hd:Z.drop i3=[]:=oB ac;rw[hd]at hJ;have hJ:C=iC k.1 r.1 r.2.vars Z 1 {m.2 with ab:=m.1}:=hJ;repeat' (first
      |(apply aj ?_;clear hK K)|apply Ry.o ?_|(apply bq (fun o U=>?_) (fun o U=>?_)<;>try(cases o;done))|apply ah ?_|(apply ai fun K hK=>?_)|(apply au 20 [(3,14),(3,16),(7,14),(7,16)] fun K hK=>?_)|(apply au 27 [(4,12),(8,12),(10,12),(11,12)] fun K hK=>?_)|(apply au 36 [(3,18),(3,20),(7,18),(7,20),(15,18),(17,18)] fun K hK=>?_)|(apply aS ?_;try intro _)|(apply aT ?_ ?_<;>clear hK K)|apply aR ?_|apply bD rfl ?_|apply ak ?_|apply am ?_|apply aw ?_)
     all_goals refine qq ?_
     rw[<-hJ];exact⟨Sj,lvj,cv,Rj,F1.trans Fj⟩
end
end
section
def tyQaJ.tyF:=ad @cR (ad @dt (ad @fb (ad @eA (ad @fc (ad @fG (ad @ez (ad @fP (ad @gH (ad @iU (ad @iV (ad @gO (ad @ft (@rF)))))))))))))
open tyQaJ
noncomputable def PS:{c:SC // aI 17 (f38.body.getD .skip)=c}:=by
 refine⟨?_,?_⟩;rotate_left
 .simp only[f38,bS,aI,bM,bI,bT,bU,Nat.blt,Nat.ble];rfl
section
variable {tb:qA} (hG:zd5 tb) {X:Qx} {c:Cx} (hX:CxQ X c)
set_option maxRecDepth 100000 in
include hG hX in
def zdJ(IH:∀m,m<n->DY tb X c m){x:St}{r:Bd}(h:nR c n x s=some r)(U:Fin r)(j:x.sz<2^36)(z:s.vars.length<2^36){lv vv:AV}(o:zd1 X H S s lv vv):
 aY prog (aH pls tb) 73 [.ptr X.b 0,.agg x.cells] H (oI X S vv H r):=by
 cases n with
 |zero=>simp[nR]at h
 |succ n=>
 have hw:zd0 (aH pls tb) 73:=hG.plain ea;have R1:=o.alloc (.cells x.cells 0 true);have F1:=(fd X S vv H).alloc (.cells x.cells 0 true);unfold nR at h;by_cases k1:x.am=1
 .rw[ay k1]at h;simp only[iS]at h;obtain⟨v,Z,h⟩:=h;split at h
  .rename_i hl;cases h;exact zdA hG hX k1 Z hl ⟨U.r,U.l,U.n⟩ o
  .cases h
 rw[af k1]at h;by_cases k2:x.am=2
 .rw[ay k2]at h;simp only[iA]at h;obtain⟨i,Z,v,g,a,ha,rfl⟩:=h;exact zdB hG hX k2 Z g ha ⟨U.r,U.l,U.n⟩ o
 rw[af k2]at h;by_cases C:x.am=3
 .rw[ay C]at h;simp only[iA]at h;obtain⟨q,Z,a,g,b,V,m,h4,rfl⟩:=h;exact zdH hG hX C (IH n (cI n)) Z g V h4 ⟨U.r,U.l,U.n⟩ j z o
 rw[af C]at h;by_cases k4:x.am=4
 .rw[ay k4]at h;cases n with
  |zero=>simp[oH]at h
  |succ n=>
  unfold oH at h;simp only[iA]at h;obtain⟨q,Z,b,O,t,g,d,V,rfl⟩:=h;have Y:=zdI hG hX (IH n ac) Z O g V rfl rfl U j z R1;refine bF (M:=241) (rs:=[]) (hw.call _) hw.aD hw.aq func73 rfl rfl mz.2 rfl ?_;dsimp only[mz,bA,Nat.reduceAdd];repeat' (first
   |(apply aj ?_;clear hK K)|apply Ry.o ?_|(apply bq (fun O hbp=>?_) (fun O hbp=>?_)<;>try(cases O;done))|apply ah ?_|(apply ai fun K hK=>?_)|apply ak ?_)
  refine qc ?_;refine bb ?_ Y;intro w H2 g;have V:=g.cu F1;clear g Y;dsimp only[aZ];repeat' (first
   |(apply aj ?_;clear hK K)|apply ah ?_|(apply ai fun K hK=>?_)|apply ak ?_)
  all_goals refine qq ?_
  exact V
 rw[af k4]at h;by_cases L:x.am=5
 .rw[ay L]at h;simp only[iA]at h;obtain⟨v,Z,rfl⟩:=h;exact zdC hG hX L Z ⟨U.r,U.l,U.n⟩ o
 rw[af L]at h;by_cases J:x.am=6
 .rw[ay J]at h;simp only[iS]at h;obtain⟨av,Z,h⟩:=h;split at h
  .rename_i hc;cases h;exact zdG hG hX J Z hc.2 j ⟨U.r,U.l,U.n⟩ o
  .cases h
 rw[af J]at h;by_cases I:x.am=7
 .rw[ay I]at h;cases h;exact zdD hG hX I U o
 rw[af I]at h;cases h;exact zdE hG k1 k2 C k4 L J I o
set_option maxRecDepth 100000 in
include hG hX in
theorem PT:∀(N n:Nat),n<N->DY tb X c n
 |0,n,hn=>by omega
 |N+1,n,hn=>fun l s r h hF hz hvl H S lv vv hR=>by
  have hw:zd0 (aH pls tb) 38:=hG.plain ea;have hll:=tR l;refine bF (M:=17) (rs:=[]) (hw.call _) hw.aD hw.aq func38 rfl rfl PS.2 rfl ?_;dsimp only[PS,bA,Nat.reduceAdd];repeat' (first
   |(apply aj ?_;clear hK K)|apply Rx.o ?_|apply ah ?_|(apply ai fun K hK=>?_)|apply ak ?_|apply am ?_|apply aw ?_)
  refine cA [0,1] [] 4 l.length (fun i E I=>∃m O C V L,m<=n/\gK c m (l.drop i) O=some r/\O.vars.length=s.vars.length/\zd1 X I C O V L/\FrQ X S vv H C L I) eE ⟨n,s,S,lv,vv,aO _,h,rfl,hR,fd _ _ _ _⟩ ?_;rintro i E I hi j hrH hnH hsI ⟨m,O,C,V,L,hm,Z,Y,Ri,Fi⟩;(try simp only[bp,bm,aU,aF,aW,Nat.reduceBEq,Nat.reduceAdd,Nat.reduceLeDiff,tyF, *]at j);(try simp only[bp,bm,aU,aF,aW,Nat.reduceBEq,Nat.reduceAdd,Nat.reduceLeDiff,tyF, *]at hrH);(try simp only[bj,bE,cm,bO,Nat.reduceAdd]at hnH);by_cases z:i<l.length
  .have U:(i:Int)<l.length:=by omega
   have hgx:l[i]?=some l[i]:=a0 z;have hmem:=pi (cL z);cases m with
   |zero=>simp[gK]at Z
   |succ m=>
   rw[eU z]at Z;unfold gK at Z;simp only[iS]at Z;obtain⟨q,h1,h2⟩:=Z;generalize l[i]=x at *;have hFq:Fin q:=hF.le ((mp c m).2.1 _ _ _ h2).1;have hql:=((mp c m).1 _ _ _ h1).2;repeat' (first
    |(apply aj ?_;clear hK K)|apply Ry.o ?_|(apply bq (fun o g=>?_) (fun o g=>?_)<;>try(cases o;done))|apply ah ?_|(apply ai fun K hK=>?_)|apply ak ?_|apply am ?_|apply aw ?_)
   refine qc ?_;refine bb ?_ (zdJ hG hX (fun k hk=>PT N k ac) h1 hFq ac ac Ri);rintro w H3 ⟨S3,lv3,vv3,R3,F3⟩;have F03:=Fi.trans F3;have n3:I.next<=H3.next:=F3.next
   have J:q.vars.length=s.vars.length:=ac;clear hql Y;dsimp only[aZ];repeat' (first
    |(apply aj ?_;clear hK K)|apply Rx.o ?_|apply ah ?_|(apply ai fun K hK=>?_)|apply ak ?_|apply am ?_|apply aw ?_)
   refine⟨ac,a2,a2,ce,rJ,?_⟩;exact⟨m,q,S3,lv3,vv3,ac,h2,J,R3,F03⟩
  .have U:¬(i:Int)<l.length:=by omega
   have hd:l.drop i=[]:=oB ac;rw[hd]at Z;cases m with
   |zero=>simp[gK]at Z
   |succ m=>
   have Z:O=r:=by unfold gK at Z;simpa using Z
   subst Z;clear Y;repeat' (first
    |(apply aj ?_;clear hK K)|apply Ry.o ?_|(apply bq (fun o g=>?_) (fun o g=>?_)<;>try(cases o;done))|apply ah ?_|(apply ai fun K hK=>?_)|apply ak ?_|apply am ?_|apply aw ?_)
   all_goals refine qq ?_
   exact⟨C,V,L,Ri,Fi⟩
end
end
section
abbrev Qx.nx(X:Qx)(nv:AV)(ns:List cc):Qx:={X with nv:=nv,ns:=ns}
structure FrM (b:Nat) (bY:Hp) (S:Nat->Prop) (vv nv:AV) (H:Hp):Prop where
 next:bY.next<=H.next
 get:∀k,k<bY.next->k≠b->H.get k=bY.get k
 sub:∀k,S k->bY.next<=k
 own:∀k,bc vv k->bY.next<=k
 di:∀k,bc nv k->bY.next<=k
def FrM.fr{bY:Hp}{vv i:AV}(h:FrM X.b bY S vv X.nv H)(f:FrQ X S vv H S' i H'):FrM X.b bY S' i X.nv H' where
 next:=dq h.next f.next
 get k h1 h2:=by
  rw[f.get k (mZ h1 h.next) h2 (fun e=>by have:=h.sub k e;omega) (fun e=>by have:=h.own k e;omega)];exact h.get k h1 h2
 sub k e:=by
  rcases f.sub k e with e|e
  .exact h.sub k e
  .exact dq h.next e
 own k e:=by
  rcases f.own k e with e|e
  .exact h.own k e
  .exact dq h.next e
 di:=h.di
def wF:=@FrM.fr
def zd1.cH{vv:AV}(h:zd1 X H S s O vv)(nm:cc)(hl:X.ns.length<2^36):
 ∃z H',dm prog false (H.alloc (.cells [.ai nm] 0 true)) 60 60 X.nv (.sl H.next 0 1 1)=some (z,H')/\AV.one z=true/\z.cells=[z]/\H'.get X.b=some (.cells (bV X s O vv) 0 true)/\H.next+1<=H'.next/\(∀k,k<H.next->¬bc X.nv k->H'.get k=H.get k)/\H'.get H.next=some (.cells [.ai nm] 0 true) /\
  zd1 (X.nx z (X.ns++[nm])) (H'.set X.b (.cells (bV (X.nx z (X.ns++[nm])) s O vv) 0 true)) S s O vv/\(∀k,bc z k->bc X.nv k\/H.next<=k):=by
 have o5:=h.o5;have o:∀k,k<H.next->(H.alloc (.cells [.ai nm] 0 true)).get k=H.get k:=fun k j=>eG
 have hv:dZ (H.alloc (.cells [.ai nm] 0 true)) X.nv X.ns 0:=h.nm.keep (dH _) fun k j=>o k (h.nS k j).2.1;obtain⟨z,H',bK,bW,a3,a4,Y⟩:=vM (r:=H.next) (imm:=0) nm hv (dN _) gD ac;simp only[bj]at a3;have L:∀k,k<H.next->¬bc X.nv k->H'.get k=H.get k:=fun k Z g=>by rw[Y.1 k dL g,o k Z]
 have i:∀k,bc z k->bc X.nv k\/H.next<=k:=fun k j=>by
  rcases Y.2 k j with e|e
  .exact .inl e
  .exact .inr (by simp only[bj]at e;omega)
 have m:¬bc X.nv X.b:=fun e=>by have:=(h.nS _ e).1;omega
 have J:H'.get H.next=some (.cells [.ai nm] 0 true):=by rw[Y.1 _ dL fun e=>by have:=(h.nS _ e).2.1;omega,aQ,ay rfl]
 have M:∀k,k≠X.b->(H'.set X.b (.cells (bV (X.nx z (X.ns++[nm])) s O vv) 0 true)).get k=H'.get k:=fun k j=>uo;obtain⟨V,U⟩:=bW.one;have K:∀k,bc z k->k<H'.next:=fun k j=>(bW.lt j).2
 have hn:H.next+1<=H'.next:=ac
 refine⟨z,H',bK,V,U,by rw[L _ o5 m];exact h.m,hn,L,J,⟨gL,?_,h.ag.keep (fun _ _ h=>h) db fun k j C=>by rw[M k (by have:=(h.sS k j).1;omega),L k C fun e=>(h.nS k e).2.2.1 j],h.vars.keep db fun k j=>by rw[M k (by have:=(h.vS k j).1;omega),L k (h.vS k j).2 fun e=>(h.nS k e).2.2.2 j],by simp only[bE];show X.b<H'.next;omega,fun k j=>?_,fun k j=>?_,fun k j=>?_⟩,i⟩
 .have I:dZ H' z (X.ns++[nm]) 0:=.inr bW;refine I.keep (aO _) fun k j=>M k fun e=>?_;rcases i k j with q|q
  .have:=(h.nS k q).1;omega
  .omega
 .have Z:=K k j;rcases i k j with q|q
  .have:=h.nS k q;exact⟨this.1,by simp only[bE];exact Z,this.2.2⟩
  .have:=h.new q;exact⟨this.2.2,by simp only[bE];exact Z,this.1,this.2.1⟩
 .have:=h.sS k j;exact⟨this.1,db,this.2.2⟩
 .have:=h.vS k j;exact⟨this.1,db⟩
def zd1.cS{vv:AV}(h:zd1 X H S s O vv)(x:Int)(hl:s.vars.length<2^36):
 ∃z H',dm prog false (H.alloc (.cells [.int .i64 x] 0 true)) 22 22 vv (.sl H.next 0 1 1)=some (z,H')/\AV.one z=true/\z.cells=[z]/\H'.get X.b=some (.cells (bV X s O vv) 0 true)/\H'.next=H.next+2/\(∀k,k<H.next->¬bc vv k->H'.get k=H.get k) /\
  zd1 X (H'.set X.b (.cells (bV X {s with vars:=s.vars++[x] } O z) 0 true)) S {s with vars:=s.vars++[x] } O z /\
  FrQ X S vv H S z (H'.set X.b (.cells (bV X {s with vars:=s.vars++[x] } O z) 0 true)):=by
 have o5:=h.o5;have hv:ik (H.alloc (.cells [.int .i64 x] 0 true)) vv s.vars 0:=h.vars.keep (dH _) fun k j=>by rw[aQ,af (by have:=(h.vS k j).2;omega)]
 have hx:fN (H.alloc (.cells [.int .i64 x] 0 true)) 1 (.sl H.next 0 1 1)=some ([x].length,[x].map (.int .i64)):=tZ (m:=[x]) (imm:=0) gR;obtain⟨z,H',bK,bW,o,a4,K,Z⟩:=GD hv (dN _) hx az ca;simp only[bj]at o K Z;have L:∀k,k<H.next->¬bc vv k->H'.get k=H.get k:=fun k i g=>by rw[K k ac g,aQ,af ac]
 have U:¬bc vv X.b:=fun e=>by have:=(h.vS _ e).1;omega
 have V:=ik.one (.inr bW);have J:∀k,k≠X.b->(H'.set X.b (.cells (bV X {s with vars:=s.vars++[x] } O z) 0 true)).get k=H'.get k:=fun k j=>uo;refine⟨z,H',bK,V.1,V.2,by rw[L _ o5 U];exact h.m,ac,L,⟨gL,h.nm.keep db fun k j=>by rw[J k (by have:=(h.nS k j).1;omega),L k (h.nS k j).2.1 (h.nS k j).2.2.2],h.ag.keep (fun _ _ h=>h) db fun k j I=>by rw[J k (by have:=(h.sS k j).1;omega),L k I (h.sS k j).2.2],?_,db,fun k j=>⟨(h.nS k j).1,by have:=(h.nS k j).2.1;simp only[bE];omega,(h.nS k j).2.2.1,fun e=>?_⟩,fun k j=>⟨(h.sS k j).1,by have:=(h.sS k j).2.1;simp only[bE];omega,fun e=>?_⟩,fun k j=>?_⟩,⟨db,fun k i g _ C=>by rw[J k g,L k i C],fun _ h=>.inl h,fun k j=>?_⟩⟩
 .have M:ik H' z (s.vars++[x]) 0:=.inr bW;exact M.keep (aO _) fun k j=>J k fun e=>by
   rcases Z k j with q|q
   .have:=(h.vS k q).1;omega
   .omega
 .rcases Z k e with q|q
  .exact(h.nS k j).2.2.2 q
  .have:=(h.nS k j).2.1;omega
 .rcases Z k e with q|q
  .exact(h.sS k j).2.2 q
  .have:=(h.sS k j).2.1;omega
 .have Y:k<H'.next:=(ik.lt (.inr bW) j).2
  rcases Z k j with q|q
  .exact⟨(h.vS k q).1,Y⟩
  .exact⟨ac,Y⟩
 .rcases Z k j with q|q
  .exact .inl q
  .exact .inr ac
def zdK(H:Hp)(l:qP)(K:l.length<2^36):∃Y H',dm prog false (H.alloc qe) 23 23 (.sl H.next 0 0 2) (.ao (l.map Ar.cells))=some (Y,H')/\dQ (fun k=>H.next<=k) 1 H' 2 Y (l.map Ar.cells)/\H.next+1<=H'.next/\(∀k,k<H.next->H'.get k=H.get k):=by
 have V:∀x∈l.map Ar.cells,x.length=2:=fun x I=>PO;have I:=On (H:=H.alloc qe) V;rw[dx]at I;have o:∀k,k<H.next->(H.alloc qe).get k=H.get k:=fun k j=>eG
 have J:(H.alloc qe).get H.next=some qe:=gD
 by_cases c:l=[]
 .subst c;refine⟨.sl H.next 0 0 2,_,?_,.inr ⟨H.next,0,[],rfl,aO _,cI _,J,aO _,trivial⟩,aO _,o⟩;simp only[dm,underlying23,zf,Ce,Cf,show iR prog 23=true by kernel_rfl,gM,I]
 .obtain⟨m,O⟩:∃m,l.length=m+1:=⟨l.length-1,by have:=ur.2 c;omega⟩;rw[O]at I;have Z:ii false (H.alloc qe) 2 (.sl H.next 0 0 2)=H.alloc qe:=by
   unfold ii;simp[J];rfl
  refine⟨.sl (H.next+1) 0 (m+1) 2,((H.alloc qe).aP H.next).alloc (.cells (l.map Ar.cells).flatten 0 true),?_,.inr ⟨H.next+1,0,l.map Ar.cells,by rw[dx,O],dH _,cI _,?_,dN _,Oo l⟩,dH _,fun k j=>?_⟩
  .have z:=HQ l;simp only[dm,underlying23,zf,Ce,Cf,show iR prog 23=true by kernel_rfl,I,z,Z,pP,bC,mC,mW,J,bO,fF,ve];rw[ay ⟨by rw[show dX=70368744177664 from rfl];omega,by rw[show dX=70368744177664 from rfl];omega,by trivial,by trivial,ac⟩];simp
  .show((Hp.aP _ H.next).alloc _).get (H.next+1)=_;rw[aQ,ay ea]
  .rw[aQ,af Ik,hO,af ac,o k j]
def tyG5a.tyF:=ad @cR (ad @dt (ad @fP (ad @fb (ad @eA (ad @ft (ad @fc (ad @xr (ad @fG (ad @vr (ad @Pz (ad @tf (ad @z7 (ad @zdm (ad @zdn (@Py)))))))))))))))
open tyG5a
set_option maxRecDepth 100000 in
theorem zdL(hG:zfT i){deep:Nat}(hst:deep<=2->pF i k f (deep+1))(U:AtT f deep lo H H2 r g c q m E2) (hp0:q<6):cb prog (aH pls i) 78 156 nU E2 H2 (nV k f deep lo H r g c q m):=by
 obtain⟨hd,hrl,hlo,n2,g2,J,I,hL1,O,hqd,k0,k1,k2,k6,k8,k9,k10⟩:=U;have z:(aH pls i).keep 78=false:=rfl;have hq2:(2:Int)≠0:=aM;have j:((cr f).length:Int)≠0:=by rcases sY f with h|h<;>rw[h]<;>decide
 obtain⟨hi0,hix⟩:=rX (cr f) j O.1 [];have hxs:=td O.1;have hxa:=te O.1;have hxf:=uI O.1;have er:(H.next == r)=false:=bz ac;have e41:=eP f 4 1 g;have e50:=eP f 5 0 g;have e32:=eP f 3 2 g;have hwd:IntKind.wrap .i64 ((deep:Int)+1)=((deep+1:Nat):Int):=hT ac;unfold nV;generalize o:gc (rZ f k deep) f g c q m=R;rw[gc]at o;dsimp only[nU,oK,rY];repeat' (first
  |(apply aj ?_;clear hK K)|apply Ry.o ?_|(apply bq (fun hb Z=>?_) (fun hb Z=>?_)<;>try(cases hb;done))|apply ah ?_|(apply ai fun K hK=>?_)|(apply au 8 [(3,9),(3,11),(6,9),(6,11)] fun K hK=>?_)|(apply au 10 [(0,7),(0,10),(0,12),(4,7),(4,10),(4,12)] fun K hK=>?_)|(apply au 24 [(3,14),(6,14),(7,14),(11,14),(13,14)] fun K hK=>?_)|(apply au 28 [(1,4),(1,6),(5,6)] fun K hK=>?_)|(apply aS ?_;try intro _)|(apply aT ?_ ?_<;>clear hK K)|apply aR ?_|apply bD rfl ?_|apply ak ?_|apply aq ?_)
 refine qc ?_;refine bb ?_ (my hG 5 f 0 ac ac lo _ r g c I ac);rintro v H4 ⟨⟨cs,rfl,V,L,C⟩,M,n4,o4⟩;obtain⟨v0,v1,v2,v3,v4,rfl⟩:=kI V;obtain⟨w0,dd,w2,w3,w4⟩:=uJ L;have g4:H4.get H.next=some qh:=by rw[o4 _ ac ac];exact g2
 dsimp only[aZ];repeat' (first
  |(apply aj ?_;clear hK K)|apply Rx.o ?_|apply aE ?_|apply ah ?_|(apply ai fun K hK=>?_)|(apply au 8 [(3,9),(3,11),(6,9),(6,11)] fun K hK=>?_)|(apply au 10 [(0,7),(0,10),(0,12),(4,7),(4,10),(4,12)] fun K hK=>?_)|(apply au 24 [(3,14),(6,14),(7,14),(11,14),(13,14)] fun K hK=>?_)|(apply au 28 [(1,4),(1,6),(5,6)] fun K hK=>?_)|(apply aS ?_;try intro _)|(apply aT ?_ ?_<;>clear hK K)|apply aR ?_|apply bD rfl ?_|apply ak ?_|apply aq ?_)
 .exact di
 .refine⟨aD,_,(by(try simp only[aF,aW,Nat.reduceBEq,Nat.reduceAdd,Nat.reduceLeDiff,tyF,eh,eM,tf, *]);first|done|with_reducible rfl),?_⟩;try simp only[aC]
  rw[ay ac]at o;subst o;refine wE rfl PP (wC (n:=8+k) 1 _ [] 0 uH ((C.up ac).aR (fun q _ hq=>ac) db fun q h1 Y=>jd) .ah .ah .ah) ?_ ?_ ?_
  .exact M.keep db fun q hq=>jd
  .simp only[bE];omega
  .intro q h1 Y;rw[a1,af ac,o4 _ ac Y];exact J q h1 Y
set_option maxRecDepth 100000 in
theorem zdM(hG:zfT i){deep:Nat}(hst:deep<=2->pF i k f (deep+1))(U:AtT f deep lo H H2 r g c q m E2)(hn0:¬q<6)(hp0:q<8):cb prog (aH pls i) 78 156 nU E2 H2 (nV k f deep lo H r g c q m):=by
 obtain⟨hd,hrl,hlo,n2,g2,o2',hr2,hL1,O,hqd,k0,k1,k2,k6,k8,k9,k10⟩:=U;have hkeep:(aH pls i).keep 78=false:=rfl;have hq2:(2:Int)≠0:=aM;have j:((cr f).length:Int)≠0:=by rcases sY f with h|h<;>rw[h]<;>decide
 obtain⟨hi0,hix⟩:=rX (cr f) j O.1 [];have hxs:=td O.1;have hxa:=te O.1;have hxf:=uI O.1;have er:(H.next == r)=false:=bz ac;have e41:=eP f 4 1 g;have e50:=eP f 5 0 g;have e32:=eP f 3 2 g;have hwd:IntKind.wrap .i64 ((deep:Int)+1)=((deep+1:Nat):Int):=hT ac;unfold nV;generalize hR:gc (rZ f k deep) f g c q m=R;rw[gc]at hR;dsimp only[nU,oK,rY];repeat' (first
  |(apply aj ?_;clear hK K)|apply Ry.o ?_|(apply bq (fun hb V=>?_) (fun hb V=>?_)<;>try(cases hb;done))|apply ah ?_|(apply ai fun K hK=>?_)|(apply au 8 [(3,9),(3,11),(6,9),(6,11)] fun K hK=>?_)|(apply au 10 [(0,7),(0,10),(0,12),(4,7),(4,10),(4,12)] fun K hK=>?_)|(apply au 24 [(3,14),(6,14),(7,14),(11,14),(13,14)] fun K hK=>?_)|(apply au 28 [(1,4),(1,6),(5,6)] fun K hK=>?_)|(apply aS ?_;try intro _)|(apply aT ?_ ?_<;>clear hK K)|apply aR ?_|apply bD rfl ?_|apply ak ?_|apply aq ?_)
 refine qc ?_;refine bb ?_ (my hG 3 f 2 ac ac lo _ r g c (hr2.keep (dH _) fun q M=>eG) ac);rintro v H4 ⟨⟨al,rfl,J,z,C⟩,o,n4,Y⟩;simp only[bj]at n4 Y C;obtain⟨mA,bK,bW,a3,a4,rfl⟩:=kI J;obtain⟨u0,u1,u2,u3,u4⟩:=uJ z;have g4s:H4.get (H.next+1)=some qr:=by rw[Y _ ac ac,aQ,ay ac]
 dsimp only[aZ];repeat' (first
  |(apply aj ?_;clear hK K)|apply Rx.o ?_|apply aE ?_|apply ah ?_|(apply ai fun K hK=>?_)|(apply au 8 [(3,9),(3,11),(6,9),(6,11)] fun K hK=>?_)|(apply au 10 [(0,7),(0,10),(0,12),(4,7),(4,10),(4,12)] fun K hK=>?_)|(apply au 24 [(3,14),(6,14),(7,14),(11,14),(13,14)] fun K hK=>?_)|(apply au 28 [(1,4),(1,6),(5,6)] fun K hK=>?_)|(apply aS ?_;try intro _)|(apply aT ?_ ?_<;>clear hK K)|apply aR ?_|apply bD rfl ?_|apply ak ?_|apply aq ?_)
 refine qc ?_;refine bb ?_ (my hG 4 f 1 ac ac lo H4 r _ c o ac);rintro v H5 ⟨⟨cs,rfl,hc1,hc2,hc3⟩,hr5,n5,I⟩;obtain⟨v0,v1,v2,v3,v4,rfl⟩:=kI hc1;obtain⟨w0,dd,w2,w3,w4⟩:=uJ hc2;have g5s:H5.get (H.next+1)=some qr:=by rw[I _ ac ac];exact g4s
 have g5:H5.get H.next=some qh:=by rw[I _ ac ac,Y _ ac ac,aQ,af ac];exact g2
 dsimp only[aZ];repeat' (first
  |(apply aj ?_;clear hK K)|apply Rx.o ?_|apply aE ?_|apply ah ?_|(apply ai fun K hK=>?_)|(apply au 8 [(3,9),(3,11),(6,9),(6,11)] fun K hK=>?_)|(apply au 10 [(0,7),(0,10),(0,12),(4,7),(4,10),(4,12)] fun K hK=>?_)|(apply au 24 [(3,14),(6,14),(7,14),(11,14),(13,14)] fun K hK=>?_)|(apply au 28 [(1,4),(1,6),(5,6)] fun K hK=>?_)|(apply aS ?_;try intro _)|(apply aT ?_ ?_<;>clear hK K)|apply aR ?_|apply bD rfl ?_|apply ak ?_|apply aq ?_)
 .exact di
 .refine⟨aD,_,(by(try simp only[aF,aW,Nat.reduceBEq,Nat.reduceAdd,Nat.reduceLeDiff,tyF,eh,eM,tf, *]);first|done|with_reducible rfl),?_⟩;try simp only[aC]
  rw[af ac,ay ac]at hR;subst hR;refine wE rfl (by simp only[oy,oz,u0,u1,u2,u3,u4,w0,dd,w2,w3,w4,kW];rfl) (wC (n:=8+k) 2 _ [] 0 ((C.up ac).aR (fun q _ M=>ac) db fun q L Z=>by rw[a1,af ac,I _ ac ac]) ((hc3.up ac).aR (fun q _ M=>ac) db fun q L Z=>jd) .ah .ah .ah) ?_ ?_ ?_
  .exact hr5.keep db fun q M=>jd
  .simp only[bE];omega
  .intro q L Z;rw[a1,af ac,I _ ac Z,Y _ ac Z,aQ,af ac];exact o2' q L Z
set_option maxRecDepth 100000 in
theorem zdN(hG:zfT i){deep:Nat}(hst:deep<=2->pF i k f (deep+1))(U:AtT f deep lo H H2 r g c q m E2)(hn0:¬q<6)(hn1:¬q<8)(hn2:¬q<10)(hn3:¬q<12)(hp0:q<14):cb prog (aH pls i) 78 156 nU E2 H2 (nV k f deep lo H r g c q m):=by
 obtain⟨hd,hrl,hlo,n2,g2,J,I,hL1,O,hqd,k0,k1,k2,k6,k8,k9,k10⟩:=U;have z:(aH pls i).keep 78=false:=rfl;have hq2:(2:Int)≠0:=aM;have j:((cr f).length:Int)≠0:=by rcases sY f with h|h<;>rw[h]<;>decide
 obtain⟨hi0,hix⟩:=rX (cr f) j O.1 [];have hxs:=td O.1;have hxa:=te O.1;have hxf:=uI O.1;have er:(H.next == r)=false:=bz ac;have e41:=eP f 4 1 g;have e50:=eP f 5 0 g;have e32:=eP f 3 2 g;have hwd:IntKind.wrap .i64 ((deep:Int)+1)=((deep+1:Nat):Int):=hT ac;unfold nV;generalize o:gc (rZ f k deep) f g c q m=R;rw[gc]at o;dsimp only[nU,oK,rY];repeat' (first
  |(apply aj ?_;clear hK K)|apply Ry.o ?_|(apply bq (fun hb Z=>?_) (fun hb Z=>?_)<;>try(cases hb;done))|apply ah ?_|(apply ai fun K hK=>?_)|apply ak ?_|apply aq ?_)
 refine qc ?_;refine bb ?_ (my hG 4 f 1 ac ac lo _ r g c I ac);rintro v H4 ⟨⟨cs,rfl,V,L,C⟩,M,n4,o4⟩;obtain⟨v0,v1,v2,v3,v4,rfl⟩:=kI V;obtain⟨w0,dd,w2,w3,w4⟩:=uJ L;have g4:H4.get H.next=some qh:=by rw[o4 _ ac ac];exact g2
 dsimp only[aZ];repeat' (first
  |(apply aj ?_;clear hK K)|apply Rx.o ?_|apply aE ?_|apply ah ?_|(apply ai fun K hK=>?_)|apply ak ?_|apply aq ?_)
 refine⟨aD,_,(by(try simp only[aF,aW,Nat.reduceBEq,Nat.reduceAdd,Nat.reduceLeDiff,tyF,eh,eM,tf, *]);first|done|with_reducible rfl),?_⟩;try simp only[aC]
 rw[af ac,af ac,af ac,af ac,ay ac]at o;subst o;refine wE rfl PP (wC (n:=8+k) 5 [] [] 0 uH ((C.up ac).aR (fun q _ hq=>ac) db fun q h1 Y=>jd) .ah .ah .ah) ?_ ?_ ?_
 .exact M.keep db fun q hq=>jd
 .simp only[bE];omega
 .intro q h1 Y;rw[a1,af ac,o4 _ ac Y];exact J q h1 Y
set_option maxRecDepth 100000 in
theorem zdO(hG:zfT i){deep:Nat}{L:Hp}{J:aB}(C:deep<=2->pF i k f (deep+1))(U:AtT f deep lo H L r g c q m J)(z:¬q<6)(hn1:¬q<8)(hn2:¬q<10)(hn3:¬q<12)(hn4:¬q<14)(hn5:¬q<15) : cb prog (aH pls i) 78 156 nU J L (nV k f deep lo H r g c q m):=by
 obtain⟨hd,hrl,hlo,n2,g2,Y,V,hL1,O,hqd,k0,k1,k2,k6,k8,k9,k10⟩:=U;have M:(aH pls i).keep 78=false:=rfl;have hq2:(2:Int)≠0:=aM;have j:((cr f).length:Int)≠0:=by rcases sY f with h|h<;>rw[h]<;>decide
 obtain⟨hi0,hix⟩:=rX (cr f) j O.1 [];have hxs:=td O.1;have hxa:=te O.1;have hxf:=uI O.1;have er:(H.next == r)=false:=bz ac;have e41:=eP f 4 1 g;have e50:=eP f 5 0 g;have e32:=eP f 3 2 g;have hwd:IntKind.wrap .i64 ((deep:Int)+1)=((deep+1:Nat):Int):=hT ac;unfold nV;generalize o:gc (rZ f k deep) f g c q m=R;rw[gc]at o;dsimp only[nU,oK,rY];repeat' (first
  |(apply aj ?_;clear hK K)|apply Ry.o ?_|apply b8 ?_|(apply bq (fun I Z=>?_) (fun I Z=>?_)<;>try(cases I;done))|apply ah ?_|(apply ai fun K hK=>?_)|apply ak ?_|apply am ?_|apply aq ?_)
 refine⟨aD,_,(by(try simp only[aF,aW,Nat.reduceBEq,Nat.reduceAdd,Nat.reduceLeDiff,tyF,eh,eM,tf, *]);first|done|with_reducible rfl),?_⟩;try simp only[aC]
 rw[af ac,af ac,af ac,af ac,af ac,af ac]at o;subst o;refine wE rfl rfl (wC (n:=8+k) 7 [] [] _ uH uH .ah .ah .ah) ?_ ?_ ?_
 .exact V.keep db fun q hq=>jd
 .simp only[bE];omega
 .intro q h1 h2;rw[a1,af ac];exact Y q h1 h2
end
end Go.Proofs.Ytbflaciihaijgaa
