/- Lemmas for the last file. -/
import Derived.Test.YtbflaciihaijgaaGreatREQ
set_option linter.all false
set_option maxHeartbeats 32000000
namespace Go.Ab
set_option maxRecDepth 20000
open Go
variable{qb:Prop}
def OT(h:qb:=by simp only[eJ,dE,cK,and_true,true_and];exact⟨mC,a.1⟩):=h
def xy(h:qb:=by rw[e]at o;omega):=h
def GM(h:qb:=by rw[Hp.get_set,if_neg hq]):=h
def GN(h:qb:=by rw[e]at S;omega):=h
def sH(h:qb:=by rw[e]at lrf;omega):=h
def pA(h:qb:=by rw[e]at lra;omega):=h
def OU(h:qb:=by have:=I.F.bo.len (P:=Tryz.prog) (H':=H) Tryz.underlying67;rw[List.length_map,hN]at this;exact this):=h
def OV(h:qb:=by rw[show dd=70368744177664 from rfl];omega):=h
def OW(h:qb:=by rw[List.length_map,Y,show dd=70368744177664 from rfl];omega):=h
def C9(h:qb:=by rw[eX bY,eX j]):=h
def xz(h:qb:=by simp only[aK,Nat.reduceBEq, *];exact jV (n:=M) aa aa):=h
def OX(h:qb:=by rw[<- Y,Hp.get_set,if_neg U,Hp.get_set,if_neg aa]):=h
def OY(h:qb:=by rw[<- Y,Hp.get_set,if_neg (fun e=>aa),Hp.get_set,if_pos rfl]):=h
def OZ(h:qb:=by rw[<- Y,Hp.get_set,if_neg (fun e=>GN),Hp.get_set,if_neg aa,fr q U aa]):=h
def O0(h:qb:=by rw[Hp.get_set,if_neg aa,aP,if_pos rfl];rfl):=h
def GO:=@List.range_succ
def zbJ:=@Nat.mul_zero
def mB:=And.intro @zbJ @jS
end Go.Ab
namespace Go.Proofs.YtbflaciihaijgaaGreat
set_option maxRecDepth 20000
open Go Go.Ab Proofs.Tryz
variable{i n lo n' Z P r m U A:Nat}{l V M:qu}{S:Nat->Prop}{H H':Hp}{cs:qm}{x y a h k:Int}{f g:Fu}{E:aD}{p:Pr}
section
def Da:qo:=[[103],[105,102],[],[97],[116,111,111,108,111,110,103,97,110,97,109,101,49,50,51,52,53],[57,120]]
def xA:qo:=[[120],[110],[97],[122],[114,101,116,117,114,110],[95]]
def xB:qo:=[[105],[98],[113],[120,32,121],[119,104,105,108,101]]
def xC:qo:=[[97],[99],[120],[102],[111,117,116]]
def xD:qo:=[[102],[104]]
def ui(n:Int):Ex:=.mk 1 n [] 0 []
def sI:Nat->Ex->Ex
 |0,e=>e
 |n+1,e=>.mk 4 0 [] 21 [sI n e]
def uj:Nat->qt->qt
 |0,b=>b
 |n+1,b=>[.mk 3 [] [] 0 eI (ui 0) [] (uj n b) []]
def xE:St:=.mk 4 [] [] 0 eI (ui 0) [] [] []
def xF(i:Nat):St:=.mk 5 [] [] 0 eI (ui i) [] [] []
section
variable {c:Cx} {np:Nat} {s:Bd}
end
def zdG2{vs S:List aS}{l:qz}{k:Ex}(J:eM vs S l=true)(h:l[i]?=some k):dN vs S k=true:=by
 induction l generalizing i with
 |nil=>simp at h
 |cons e U ih=>
  rw[eM,cN]at J;cases i with
  |zero=>simp at h;subst h;exact J.1
  |succ i=>exact ih J.2 fQ
def il(L:qp):Prop:=∀n∈L,i9 n
def zM{L:qp}(h:il L):i9 (bZ L).1/\il (bZ L).2:=by
 cases L with
 |nil=>exact⟨by show i9 0;unfold i9;omega,h⟩
 |cons a l=>exact⟨h a gW,fun n I=>h n (jE _ I)⟩
def zbK(n:Int):i9 (bA n):=by
 unfold bA i9;rw[IntKind.wrap_i64];omega
def zbL{n j:Int}(h:i9 j):i9 (hC n j):=by
 unfold hC;split
 .have e:∀k,i9 (tR.getD k 0):=fun k=>by
   by_cases c:k<10
   .have:∀k:_root_.Fin 10,i9 (tR.getD k.1 0):=by unfold i9;decide
    exact this ⟨k,c⟩
   .rw[iY,oS (by simp[tR];omega)];show i9 0;unfold i9;omega
  exact e _
 split
 .exact zbK _
 .exact h
def pB:i9 0:=by unfold i9;omega
theorem rF(f:Int):∀(k F:Nat) (L:qp),il L->dO (bO f k F L).1/\il (bO f k F L).2
 |0,F,L,h=>⟨by simp[bO,dO,dE,pB],h⟩
 |k+1,F,L,h=>by
  have ih:=rF f k (F+1);obtain⟨j,Z⟩:=zM h;simp only[bO];generalize aZ (bZ L).1 16=q;generalize aZ (bA ((bZ L).1.tdiv 16)) 1000=m;split
  .split
   .exact⟨by simp[dO,dE,pB],Z⟩
   .exact⟨by simp only[dO,dE,bb];exact zbL j,Z⟩
  .have a:=ih _ Z;have b:=ih _ a.2;have c:=ih _ b.2;split
   .exact⟨by simp only[dO,dE,bb];exact⟨pB,a.1⟩,a.2⟩
   .split
    .exact⟨by simp only[dO,dE,bb];exact⟨pB,a.1,b.1,c.1⟩,c.2⟩
    .split
     .exact⟨by simp only[dO,dE,bb];exact⟨pB,a.1⟩,a.2⟩
     .exact⟨by simp only[dO,dE,bb];exact⟨pB,a.1,b.1⟩,b.2⟩
theorem O1(f:Int):∀(n:Nat) (L:qp),il L->dE (gP f n L).1/\il (gP f n L).2
 |0,L,h=>⟨by simp[gP,dE],h⟩
 |n+1,L,h=>by
  have a:=rF f 3 2 L h;have b:=O1 f n _ a.2;rw[gP];exact⟨by rw[dE];exact⟨a.1,b.1⟩,b.2⟩
def mC:dO eI:=by simp[eI,dO,dE,pB]
def zbM{M:Int->da->qt×da}(S:∀U s,il s.1->cK (M U s).1/\il (M U s).2.1)(f:Int)(j:qp)(c q m:Int)(h:il j):eJ (gD M f j c q m).1/\il (gD M f j c q m).2.1:=by
 unfold gD;split
 .have a:=rF f 5 0 j h;exact⟨OT,a.2⟩
 split
 .have a:=rF f 3 2 j h;have b:=rF f 4 1 _ a.2;exact⟨by simp only[eJ,dE,cK,iw];exact⟨a.1,b.1⟩,b.2⟩
 split
 .have a:=rF f 4 1 j h;have b:=S 3 ((bO f 4 1 j).2,c) a.2;have d:=S 2 (M 3 ((bO f 4 1 j).2,c)).2 b.2;exact⟨by simp only[eJ,dE,cK,iw];exact⟨mC,a.1,b.1,d.1⟩,d.2⟩
 split
 .have a:=rF f 4 1 j h;have b:=S 3 ((bO f 4 1 j).2,bA (c+1)) a.2;exact⟨by simp only[eJ,dE,cK,iw];exact⟨mC,a.1,b.1⟩,b.2⟩
 split
 .have a:=rF f 4 1 j h;exact⟨OT,a.2⟩
 split
 .have a:=O1 f (2-m.tmod 2).toNat j h;exact⟨by simp only[eJ,dE,cK,iw];exact⟨mC,mC,a.1⟩,a.2⟩
 .exact⟨by simp only[eJ,dE,cK,iw];exact⟨mC,mC⟩,h⟩
theorem GP{step:da->St×da}(S:∀s,il s.1->eJ (step s).1/\il (step s).2.1):∀(n:Nat) (s:da),il s.1->cK (gL step n s).1/\il (gL step n s).2.1
 |0,s,h=>⟨by simp[gL,cK],h⟩
 |n+1,s,h=>by
  have a:=S s h;have b:=GP S n _ a.2;rw[gL];split
  .exact⟨by simp[cK],h⟩
  .exact⟨by rw[cK];exact⟨a.1,b.1⟩,b.2⟩
theorem O2(f:Int):∀(k F:Nat) (s:da),il s.1->eJ (gE f k F s).1/\il (gE f k F s).2.1
 |0,F,s,h=>⟨by simp only[gE,eJ,dE,cK,iw];exact⟨mC,mC⟩,h⟩
 |k+1,F,s,h=>by
  have ih:=O2 f k (F+1);rw[gE,vG];exact zbM (fun U s S=>GP ih _ ((bZ s.1).2,s.2) (zM S).2) f _ _ _ _ (zM h).2
def O3(f:Int)(k deep:Nat)(U:Int)(s:da)(h:il s.1):cK (lj f k deep U s).1/\il (lj f k deep U s).2.1:=
 GP (O2 f k deep) _ ((bZ s.1).2,s.2) (zM h).2
def zbN{l:qp}(h:il l):∀f∈(ei l).funcs,cK f.body/\dO f.value:=by
 have o:il (l.take 60):=fun n I=>h n (List.mem_of_mem_take I);have F:=O3 0 4 0 5 ((bZ (l.take 60)).2,0) (zM o).2;have v1:=rF 0 4 1 (gF (l.take 60)).2.1 F.2;have z:=O3 1 3 1 3 ((lk (l.take 60)).2,(gF (l.take 60)).2.2) v1.2;have v2:=rF 1 4 1 (jv (l.take 60)).2.1 z.2;intro f m;simp only[ei,fY,nj,pu]at m;rcases m with rfl|rfl
 .exact⟨F.1,v1.1⟩
 .exact⟨z.1,v2.1⟩
theorem GQ:∀{a b:qz},dE a->dE b->dE (a++b)
 |[],b,_,h=>h
 |x::a,b,h,k=>by rw[dE]at h;rw[jW,dE];exact⟨h.1,GQ h.2 k⟩
theorem zN:∀{a b:qt},cK a->cK b->cK (a++b)
 |[],b,_,h=>h
 |x::a,b,h,k=>by rw[cK]at h;rw[jW,cK];exact⟨h.1,zN h.2 k⟩
def O4:dE [kg]:=by simp[kg,dO,dE,pB]
def O5(n:Int):cK [kJ n]:=by
 simp only[kJ,cK,eJ,dE,iw];exact⟨mC,mC⟩
mutual
theorem Db:∀(e:Ex) (V a:Int),dO e->dO (fH e V a)
 | .mk k n C o J,V,a,h=>by
   rw[dO]at h;have Z:=O6 J (aZ a J.length).toNat (bA (V.tdiv 9)) (bA (a.tdiv 3)) h.2;have A:=fb (n:=a) (m:=3) aa aa;have O:i9 (aZ a 3):=by unfold i9;omega
   rw[fH];generalize aZ V 9=q;split
   .rw[dO];exact h
   split
   .rw[dO];exact⟨O,h.2⟩
   split
   .rw[dO];exact h
   split
   .rw[dO];exact h
   split
   .rw[dO];exact⟨h.1,GQ h.2 O4⟩
   split
   .rw[dO,dE];exact⟨h.1,trivial⟩
   split
   .rw[dO];exact⟨h.1,Z⟩
   .rw[dO];exact h
theorem O6:∀(l:qz) (i:Nat) (V a:Int),dE l->dE (nn l i V a)
 |[],i,V,a,h=>by rw[nn];exact h
 |x::l,0,V,a,h=>by
  rw[dE]at h;rw[nn,dE];exact⟨Db x V a h.1,h.2⟩
 |x::l,i+1,V,a,h=>by
  rw[dE]at h;rw[nn,dE];exact⟨h.1,O6 l i V a h.2⟩
end
mutual
theorem O7:∀(e:St) (V a:Int),eJ e->eJ (iQ e V a)
 | .mk k C F n e v S z I,V,a,h=>by
   rw[eJ]at h;obtain⟨j,m,A,O,J⟩:=h;have o:=Db e (bA (V.tdiv 13)) a j;have K:=Db v (bA (V.tdiv 13)) a m;have M:=O8 z (aZ a z.length).toNat (bA (V.tdiv 13)) (bA (a.tdiv 3)) O;rw[iQ];generalize aZ V 13=q;by_cases c0:q=0
   .rw[au c0,eJ];exact⟨j,m,A,O,J⟩
   rw[ad c0];by_cases c1:q=1
   .rw[au c1,eJ];exact⟨j,m,A,O,J⟩
   rw[ad c1];by_cases c2:q=2
   .rw[au c2,eJ];exact⟨j,m,A,O,J⟩
   rw[ad c2];by_cases c3:q=3
   .rw[au c3,eJ];exact⟨j,m,A,O,J⟩
   rw[ad c3];by_cases c4:q=4
   .rw[au c4,eJ];exact⟨o,m,A,O,J⟩
   rw[ad c4];by_cases c5:q=5
   .rw[au c5,eJ];exact⟨j,K,A,O,J⟩
   rw[ad c5];by_cases c6:q=6
   .rw[au c6,eJ];exact⟨j,m,GQ A O4,O,J⟩
   rw[ad c6];by_cases c7:q=7
   .rw[au c7,eJ];exact⟨j,m,(by rw[dE];trivial),O,J⟩
   rw[ad c7];by_cases U:q=8
   .rw[au U,eJ];exact⟨j,m,A,O,zN J (O5 _)⟩
   rw[ad U];by_cases Y:q=9
   .rw[au Y,eJ];exact⟨j,m,A,zN O (O5 _),J⟩
   rw[ad Y];by_cases Z:q=10
   .rw[au Z,eJ];exact⟨j,m,A,M,J⟩
   rw[ad Z];rw[eJ];exact⟨j,m,A,O,J⟩
theorem O8:∀(l:qt) (i:Nat) (V a:Int),cK l->cK (nr l i V a)
 |[],i,V,a,h=>by rw[nr];exact h
 |x::l,0,V,a,h=>by
  rw[cK]at h;rw[nr,cK];exact⟨O7 x V a h.1,h.2⟩
 |x::l,i+1,V,a,h=>by
  rw[cK]at h;rw[nr,cK];exact⟨h.1,O8 l i V a h.2⟩
end
theorem O9:∀(j:Nat) (e:Ex),dO e->dO (sI j e)
 |0,e,h=>h
 |j+1,e,h=>by
  have:=O9 j e h;simp only[sI,dO,dE,bb];exact⟨pB,this⟩
def GR{n:Int}(I:0<=n)(h:n<2^60):dO (ui n):=by
 simp only[ui,dO,dE,bb];unfold i9;omega
theorem Pa:∀(j:Nat) (b:qt),cK b->cK (uj j b)
 |0,b,h=>h
 |j+1,b,h=>by
  have:=Pa j b h;simp only[uj,cK,eJ,dE,iw];exact⟨mC,GR aa aa,this⟩
def zbO(h:i<2^60):eJ (xF i):=by
 simp only[xF,cK,eJ,dE,iw];exact⟨mC,GR aa aa⟩
def zbP:eJ xE:=by
 simp only[xE,cK,eJ,dE,iw];exact⟨mC,GR aa aa⟩
theorem Dc:∀{l:qt},(∀x∈l,eJ x)->cK l
 |[],_=>by rw[cK];trivial
 |x::l,h=>by rw[cK];exact⟨h x gW,Dc fun y hy=>h y (jE _ hy)⟩
theorem GS:∀{l:qt},cK l->∀x∈l,eJ x
 |[],_,x,hx=>by simp at hx
 |y::l,h,x,hx=>by
  rw[cK]at h;rcases fY.1 hx with rfl|hx
  .exact h.1
  .exact GS h.2 x hx
def zbQ{l:qt}{x:St}(h:cK l)(O:eJ x):cK (l.set i x):=Dc fun y hy=>by
 rcases List.mem_or_eq_of_mem_set hy with hy|rfl
 .exact GS h y hy
 .exact O
def tyMuQ0.tyF:=ac @dF (ac @cI (ac @oX (ac @cY (ac @fg (ac @fh (ac @eL (ac @dW (ac @dR (ac @dX (ac @dy (ac @ge (ac @tm (ac @iW (ac @eD (@pT)))))))))))))))
open tyMuQ0
noncomputable def kh:{c:SC // aG 285 (f10.body.getD .skip)=c}:=by
 refine⟨?_,?_⟩;rotate_left
 .simp only[f10,bE,aG,bz,bq,bF,bB,Nat.blt,Nat.ble];rfl
theorem zbR(K:∀I,dD l 29 I=(vA zK).sp I)(F:ir l 29=true){e:Ex}(V:n<59)(Z:cJ S n H cs e.cells)(Y:e.sz<2^36)(k a:Int):
 aU prog (aF pls l) 29 [.agg cs,.int .i64 k,.int .i64 a] H fun v H'=>v=.agg (fH e k a).cells/\Icy S H H':=by
 obtain⟨us,j,m⟩:=Z;refine Mo (x:=(⟨e,k,a⟩:MuA)) (enc:=py) (ok:=fun y=>y.x.sz<2^36) (out:=fun y=>.agg (fH y.x y.how y.a).cells) (us:=[.agg us,.int .i64 k,.int .i64 a]) (n:=n+1) C4 (fun I=>by rw[K];rfl) F (fun y=>?_) Y aa ⟨⟨us,j,rfl⟩,vy ⟨.int _ _,trivial⟩,vy ⟨.int _ _,trivial⟩,trivial⟩ ?_
 .obtain⟨x,_,_⟩:=y;simp only[py,jm];rfl
 .show [AV.agg (us.map (bW 59)),.int .i64 k,.int .i64 a]=_;rw[m 59 aa];rfl
noncomputable def Dd:En:=⟨30,true,bS (fun y=>y.x.sz<2^36) rE fun y=>.agg (iQ y.x y.how y.a).cells⟩
def zbS(ρ:Nat->Int):cS prog ρ Dd:=cZ fun y hy=>zbI ρ y hy
theorem zbT(K:∀I,dD l 30 I=(vA Dd).sp I)(F:ir l 30=true){e:St}(V:n<59)(Z:cJ S n H cs e.cells)(Y:e.sz<2^36)(k a:Int):
 aU prog (aF pls l) 30 [.agg cs,.int .i64 k,.int .i64 a] H fun v H'=>v=.agg (iQ e k a).cells/\Icy S H H':=by
 obtain⟨us,j,m⟩:=Z;refine Mo (x:=(⟨e,k,a⟩:MuB)) (enc:=rE) (ok:=fun y=>y.x.sz<2^36) (out:=fun y=>.agg (iQ y.x y.how y.a).cells) (us:=[.agg us,.int .i64 k,.int .i64 a]) (n:=n+1) GI (fun I=>by rw[K];rfl) F (fun y=>?_) Y aa ⟨⟨us,j,rfl⟩,vy ⟨.int _ _,trivial⟩,vy ⟨.int _ _,trivial⟩,trivial⟩ ?_
 .obtain⟨x,_,_⟩:=y;simp only[rE,l7];rfl
 .show [AV.agg (us.map (bW 59)),.int .i64 k,.int .i64 a]=_;rw[m 59 aa];rfl
structure zdi (lG:qu):Prop extends zdj lG where
 me:∀ar,dD lG 29 ar=(vA zK).sp ar
 mei:ir lG 29=true
 ms:∀ar,dD lG 30 ar=(vA Dd).sp ar
 msi:ir lG 30=true
 plm:(∀ar,dD lG 10 ar=none)/\ir lG 10=false
def sG.dG{j pt':Nat->Nat}{b b' b2 I:Nat}{rf:Nat}{x' y':Int}{f' J:Fu}{pf lf bf:AV}{vf:qm}{pg lg bg:AV}{vg:qm}{m K bf':AV}{vf':qm}{Y M O:AV}{S:qm}{o:Hp}(h:zc8 i j lo b b' n H Z rf x y f g pf lf bf vf pg lg bg vg)(hP:j P=0)(V:P<H.next)(gp:H.get P=some (.cells [.sl Z 0 2 2,.sl rf 0 2 9] 0 true))(U:∀q,q<lo->H.get q=o.get q)
 (h':zc8 i pt' lo b2 I n' H' Z rf x' y' f' J m K bf' vf' Y M O S) (F:pt' P=0) (hn:H.next<=H'.next) (z:∀q,q<H.next->j q=0->H'.get q=H.get q) (C:n'<=48) (h1:f'.sz<2^28) (h2:J.sz<2^28) (h3:oG f') (h4:oG J):sG lo P o H':=
 sG.of h' F aa ((z P V hP).trans gp) (fun q A=>(z q (fO A h.cU) (h.f3 q A)).trans (U q A)) C h1 h2 h3 h4
def oH:=@sG.dG
section
variable {i:Nat} {pt:Nat -> Nat} {lo b b' n:Nat} {H:Hp} {ra rf:Nat} {x y:Int} {f g:Fu} {pf lf bf:AV} {v0 v1 v2 v3 v4:AV} {pg lg bg:AV} {w0 ct w2 w3 w4:AV}
def zc8.cZ(h:zc8 0 pt lo b b' n H ra rf x y f g pf lf bf [v0,v1,v2,v3,v4] pg lg bg [w0,ct,w2,w3,w4]):H.get rf=some (.cells [.ae f.name,pf,lf,bf,v0,v1,v2,v3,v4,.ae g.name,pg,lg,bg,w0,ct,w2,w3,w4] 0 true):=h.gf
def zc8.cX(h:zc8 1 pt lo b b' n H ra rf x y f g pf lf bf [v0,v1,v2,v3,v4] pg lg bg [w0,ct,w2,w3,w4]):H.get rf=some (.cells [.ae g.name,pg,lg,bg,w0,ct,w2,w3,w4,.ae f.name,pf,lf,bf,v0,v1,v2,v3,v4] 0 true):=h.gf
end
theorem zO:∀a b:qo,db (a++b)=db a+db b
 |[],b=>by rw[jO,db];omega
 |x::a,b=>by rw[jW,db,db,zO a b];omega
def uk{l:qo}(h:∀s∈l,s.length<=17)(j:Nat):(l.getD j []).length<=17:=by
 rw[iY];cases e:l[j]? with
 |none=>simp
 |some s=>exact h s (fq e)
def GT{l:qo}(h:∀s∈l,s≠nA)(j:Nat):l.getD j []≠nA:=by
 rw[iY];cases e:l[j]? with
 |none=>intro h;cases h
 |some s=>exact h s (fq e)
def lw:SC->SC
 | .seq a _=>a
 |x=>x
noncomputable def fM:SC:=fC (lw (fC (fC (fC (fC kh.1)))))
def zbU:((List.range 20).all fun i=>decide (UInt8.ofNat (IntKind.wrap .u8 (97+(i:Int))).toNat=UInt8.ofNat (97+i)))=true:=aA
def Pb(h:i<20):UInt8.ofNat (IntKind.wrap .u8 (97+(i:Int))).toNat=UInt8.ofNat (97+i):=by
 have:=zbU;simp only[kj,nO,kR]at this;exact this i h
def Pc(H:Hp)(n:Int):dc prog H 73 1 [(0,.int .u8 n)]=some (.sl H.next 0 1 1,H.alloc (.cells [.int .u8 n] 0 true)):=aA
theorem De{n:Int}(C:H.get r=some (.cells [.int .u8 n] 0 true)):lV prog H 73 9 (.sl r 0 1 1)=some (.ae [UInt8.ofNat n.toNat]):=by
 have hx:fc H 1 (.sl r 0 1 1)=some (1,[.int .u8 n]):=pN (H:=H) (r:=r) (o:=0) (n:=1) (z:=1) (s:=1) C aI;simp only[lV,underlying73,underlying9,underlying5,hx];rfl
def zbV(n:Int):cQ prog 70 [(0,.int .i64 1),(1,.int .i64 n)]=some (.agg [.int .i64 1,.int .i64 n,.ae [],.int .i64 0,.ab]):=aA
def rG(c:UInt8)(j:Nat):qo:=(List.range j).map fun j=>[c,UInt8.ofNat (97+j)]
def Pd(c:UInt8)(j:Nat):rG c (j+1)=rG c j++[[c,UInt8.ofNat (97+j)]]:=by simp[rG,GO]
def zbW(c:UInt8)(j:Nat):(rG c j).length=j:=by simp[rG]
theorem Pe(c:UInt8):∀j,db (rG c j)<=20*j
 |0=>by simp[rG,db]
 |j+1=>by
  have:=Pe c j;rw[Pd,zO];simp only[db,nL];omega
def oI(j:Nat):qt:=(List.range j).map xF
def Pf(j:Nat):oI (j+1)=oI j++[xF j]:=by simp[oI,GO]
theorem Pg:∀j,a6 (oI j)<=20*j
 |0=>by simp[oI,a6]
 |j+1=>by
  have:=Pg j;rw[Pf,lp];simp only[a6,xF,St.sz,ui,eI,Ex.sz,cF,eg];omega
def pC(j:Nat):qt:=List.replicate j xE
theorem Ph(j:Nat):pC (j+1)=pC j++[xE]:=by rw[pC,List.replicate_succ'];rfl
theorem Pi:∀j,a6 (pC j)<=20*j
 |0=>by simp[pC,a6]
 |j+1=>by
  have:=Pi j;rw[Ph,lp];simp only[a6,xE,St.sz,ui,eI,Ex.sz,cF,eg];omega
def zbX(j:Nat)(h:j<2^60):cK (oI j):=Dc fun x hx=>by
 simp only[oI,l3,nO]at hx;obtain⟨i,F,rfl⟩:=hx;exact zbO aa
def zbY(j:Nat)(_:j<2^60):cK (pC j):=Dc fun x hx=>by
 rw[List.eq_of_mem_replicate hx];exact zbP
def zbZ(j:Nat):(oI j).length=j:=by simp[oI]
def zb0(j:Nat):(pC j).length=j:=by simp[pC]
structure AtM (i:Nat) (a h k:Int) (lo m P:Nat) (Hs H:Hp) (ra rf:Nat) (x y:Int) (f g:Fu) (pf lf bf:AV) (vf:qm) (pg lg bg:AV) (vg:qm) (E:aD):Prop where
 X:∃pt b b',zc8 i pt lo b b' 14 H ra rf x y f g pf lf bf vf pg lg bg vg/\pt P=0
 hi:i=0\/i=1
 hm:m<lo
 loP:lo<=P
 ltP:P<H.next
 gp:H.get P=some (.cells [.sl ra 0 2 2,.sl rf 0 2 9] 0 true)
 old:∀q,q<lo->H.get q=Hs.get q
 fs:f.sz<2^24
 gs:g.sz<2^24
 fn:oG f
 gn:oG g
 hpi:aZ a 2=i
 k2:E.at 2=.int .i64 a
 k6:E.at 6=.ptr m 0
 k7:E.at 7=.ptr P 0
 k8:E.at 8=.ptr rf (9*i)
 k9:E.at 9=.int .i64 k
 k27:E.at 27=.int .i64 h
def lx(lo m P:Nat)(o:Hp):AX->aD->Hp->Prop:=fun x E' H'=>x=.normal/\E'.at 6=.ptr m 0/\E'.at 7=.ptr P 0/\sG lo P o H'
end
section
def tyMuQa.tyF:=ac @dF (ac @cI (ac @oX (ac @cY (ac @fg (ac @fh (ac @eL (ac @dW (ac @dR (ac @dX (ac @dy (ac @ge (ac @tm (ac @iW (ac @eD (ac @pT (@CO))))))))))))))))
open tyMuQa
set_option maxRecDepth 100000 in
theorem zb1{Y:qu}(hG:zdi Y){C:Hp}{rf:Nat}{pf lf bf:AV}{vf:qm}{pg lg bg:AV}{vg:qm}(U:AtM i a h k lo m P C H Z rf x y f g pf lf bf vf pg lg bg vg E)(hh:(∀j∈[1,2,3,4,5,6,7,8,9,10,11,12,13,14,15,16,17,18],h≠j)):bN prog (aF pls Y) 10 285 fM E H (lx lo m P C):=by
 obtain⟨⟨pt,b,b',J,S⟩,hi,hm,loP,O,gp,M,fs,gs,fn,gn,hpi,k2,k6,k7,k8,k9,k27⟩:=U;have I:(aF pls Y).aj 10=false:=rfl
 skip
 obtain⟨v0,v1,v2,v3,v4,rfl⟩:=dM J.F.len;obtain⟨w0,ct,w2,w3,w4,rfl⟩:=dM J.G.len;obtain⟨z0,z1,z2,z3,z4⟩:=ij J.F.one;have ltA:=J.cS;have ltF:=J.ca;have hlo:=J.cU;have hbb:=J.hb;have F:=J.bF;have o:=J.cr;have z:rf≠P:=fun e=>by rw[e]at F;omega
 have raP:Z≠P:=fun e=>xy;have hrr:=J.ne;have lof:=J.av (q:=rf) aa;have loa:=J.av (q:=Z) aa;have e1:(rf == H.next)=false:=ay aa;have e2:(rf == H.next+1)=false:=ay aa;have e3:(rf == H.next+2)=false:=ay aa;have e4:(H.next == rf)=false:=ay aa;have e5:(rf == P)=false:=ay z;have e6:(P == rf)=false:=ay (Ne.symm z);have e7:(P == H.next)=false:=ay aa;have e8:(P == H.next+1)=false:=ay aa;have e9:(Z == H.next)=false:=ay aa;have e10:(Z == H.next+1)=false:=ay aa;simp only[yE,nj,false_implies,implies_true,bb]at hh;dsimp only[fM,lw,fC,kh];repeat' (first
  |(apply ai ?_;clear hK K)|apply Ry.o ?_|(apply a2 (fun A V=>?_) (fun A V=>?_)<;>try(cases A;done))|apply ae ?_|(apply ah fun K hK=>?_)|apply aj ?_|apply ak ?_)
 exact⟨rfl,eE,eE,sG.of J S O gp M aa aa aa fn gn⟩
set_option maxRecDepth 100000 in
theorem zb2(hG:zdi V){Hs:Hp}{rf:Nat}{pf lf bf:AV}{vf:qm}{pg lg bg:AV}{vg:qm}(U:AtM i a h k lo m P Hs H Z rf x y f g pf lf bf vf pg lg bg vg E)(hh:h=1):bN prog (aF pls V) 10 285 fM E H (lx lo m P Hs):=by
 obtain⟨⟨pt,b,b',J,Y⟩,hi,hm,loP,O,gp,M,fs,gs,fn,gn,hpi,k2,k6,k7,k8,k9,k27⟩:=U;have I:(aF pls V).aj 10=false:=rfl;subst hh;obtain⟨v0,v1,v2,v3,v4,rfl⟩:=dM J.F.len;obtain⟨w0,ct,w2,w3,w4,rfl⟩:=dM J.G.len;obtain⟨z0,z1,z2,z3,z4⟩:=ij J.F.one;have F:=J.cS;have ltF:=J.ca;have hlo:=J.cU;have hbb:=J.hb;have C:=J.bF;have o:=J.cr;have z:rf≠P:=fun e=>by rw[e]at C;omega
 have raP:Z≠P:=fun e=>xy;have hrr:=J.ne;have lof:=J.av (q:=rf) aa;have loa:=J.av (q:=Z) aa;have e1:(rf == H.next)=false:=ay aa;have e2:(rf == H.next+1)=false:=ay aa;have e3:(rf == H.next+2)=false:=ay aa;have e4:(H.next == rf)=false:=ay aa;have e5:(rf == P)=false:=ay z;have e6:(P == rf)=false:=ay (Ne.symm z);have e7:(P == H.next)=false:=ay aa;have e8:(P == H.next+1)=false:=ay aa;have e9:(Z == H.next)=false:=ay aa;have e10:(Z == H.next+1)=false:=ay aa;have hr:=fb (n:=k) (m:=6) aa aa;have hr0:=hr.1;have hnm:=uh Da (n:=aZ k 6) CX;have hix:=fun r=>ug r 6 hr.1 aa;have A:=fun H=>C5 H [103] [105,102] [] [97] [116,111,111,108,111,110,103,97,110,97,109,101,49,50,51,52,53] [57,120];change ∀H,dc _ H _ _ _=some (_,H.alloc (.cells (Da.map .ae) 0 true))at A;rcases hi with rfl|rfl;all_goals
  simp only[mB]at k8;first|have gf:=J.cZ|have gf:=J.cX
  dsimp only[fM,lw,fC,kh];repeat' (first
   |(apply ai ?_;clear hK K)|apply Ry.o ?_|apply bP ?_|(apply cU ?_;first|refine aY (iC hG.pick k 6 cy _) ?_)|(apply a2 (fun hb S=>?_) (fun hb S=>?_)<;>try(cases hb;done))|apply ae ?_|(apply ah fun K hK=>?_)|apply aj ?_)
  refine⟨rfl,eE,eE,oH J Y O gp M (J.ft (x':=x) (y':=y) (nf:=Da.getD (aZ k 6).toNat []) ?_ ?_ ?_ ?_) Y ?_ ?_ aa ?_ aa ⟨GT cy _,fn.2⟩ gn⟩
  .simp only[bG,br];omega
  .intro q _ j h2 h3;rw[aO,ad h3,eX j]
  .rw[aO,ad aa,eX F];exact J.ga
  .rw[aO,au rfl];rfl
  .simp only[bG,br];omega
  .intro q j h2;rw[aO,ad (fun e=>by rw[e]at h2;omega),eX j]
  .have:=uk (l:=Da) cy (aZ k 6).toNat;simp only[Fu.sz]at fs⊢;omega
set_option maxRecDepth 100000 in
theorem zb3(hG:zdi V){Hs:Hp}{rf:Nat}{pf lf bf:AV}{vf:qm}{pg lg bg:AV}{vg:qm}(U:AtM i a h k lo m P Hs H Z rf x y f g pf lf bf vf pg lg bg vg E)(hh:h=2):bN prog (aF pls V) 10 285 fM E H (lx lo m P Hs):=by
 obtain⟨⟨pt,b,b',J,Y⟩,hi,hm,loP,M,gp,I,fs,gs,fn,gn,hpi,k2,k6,k7,k8,k9,k27⟩:=U;have F:(aF pls V).aj 10=false:=rfl;subst hh;obtain⟨v0,v1,v2,v3,v4,rfl⟩:=dM J.F.len;obtain⟨w0,ct,w2,w3,w4,rfl⟩:=dM J.G.len;obtain⟨z0,z1,z2,z3,z4⟩:=ij J.F.one;have ltA:=J.cS;have A:=J.ca;have hlo:=J.cU;have hbb:=J.hb;have C:=J.bF;have o:=J.cr;have z:rf≠P:=fun e=>by rw[e]at C;omega
 have raP:Z≠P:=fun e=>xy;have hrr:=J.ne;have lof:=J.av (q:=rf) aa;have loa:=J.av (q:=Z) aa;have e1:(rf == H.next)=false:=ay aa;have e2:(rf == H.next+1)=false:=ay aa;have e3:(rf == H.next+2)=false:=ay aa;have e4:(H.next == rf)=false:=ay aa;have e5:(rf == P)=false:=ay z;have e6:(P == rf)=false:=ay (Ne.symm z);have e7:(P == H.next)=false:=ay aa;have e8:(P == H.next+1)=false:=ay aa;have e9:(Z == H.next)=false:=ay aa;have e10:(Z == H.next+1)=false:=ay aa;have hr:=fb (n:=k) (m:=6) aa aa;have hr0:=hr.1;have hnm:=uh xA (n:=aZ k 6) CX;have hix:=fun r=>ug r 6 hr.1 aa;have hbs:=fun H=>C5 H [120] [110] [97] [122] [114,101,116,117,114,110] [95];change ∀H,dc _ H _ _ _=some (_,H.alloc (.cells (xA.map .ae) 0 true))at hbs;obtain⟨N,hN⟩:∃N,f.params.length=N:=⟨_,rfl⟩;have hNl:N<2^30:=by
  have j:=ig f.params;simp only[Fu.sz]at fs;omega
 have hnl:=uk (l:=xA) cy (aZ k 6).toNat;obtain⟨H',b7,ci,bX,bQ⟩:=J.fM (Hb:=(H.alloc (.cells (xA.map .ae) 0 true)).alloc (.cells [.ae (xA.getD (aZ k 6).toNat [])] 0 true)) bY (fun q _ j=>C9) (r:=H.next+1) (s:=xA.getD (aZ k 6).toNat []) po hN hNl;simp only[br,gU,Nat.reduceAdd]at b7 ci bX bQ;have fr:∀q,q<H.next->pt q≠b->H'.get q=H.get q:=fun q j S=>by
  rw[bX q aa (.inr S),eX bY,eX j]
 have gr:=fr rf A aa;rcases hi with rfl|rfl;all_goals
  simp only[mB]at k8;first|have gf:=J.cZ|have gf:=J.cX
  rw[gf]at gr;dsimp only[fM,lw,fC,kh];repeat' (first
   |(apply ai ?_;clear hK K)|apply Ry.o ?_|apply bP ?_|(apply cU ?_;first|refine aY (iC hG.pick k 6 cy _) ?_)|(apply a2 (fun hb O=>?_) (fun hb O=>?_)<;>try(cases hb;done))|apply ae ?_|(apply ah fun K hK=>?_)|(apply aq 8 [(4,7),(4,11),(5,7),(5,11),(9,11),(10,11)] fun K hK=>?_)|(apply aM ?_;try intro _)|(apply aR ?_ ?_<;>clear hK K)|apply aL ?_|apply bu rfl ?_|apply aj ?_)
  .exact di
  refine⟨rfl,eE,eE,oH J Y M gp I (bQ _ rfl (fun q hq=>GM) zj) (by rw[ad aa];exact Y) ?_ ?_ aa ?_ aa fn gn⟩
  .simp only[bG];omega
  .intro q j S;rw[aO,ad (fun e=>GN),fr q j aa]
  .simp only[Fu.sz,zO,db]at fs⊢;omega
set_option maxRecDepth 100000 in
theorem zb4(hG:zdi V){Hs:Hp}{rf:Nat}{pf lf bf:AV}{vf:qm}{pg lg bg:AV}{vg:qm}(U:AtM i a h k lo m P Hs H Z rf x y f g pf lf bf vf pg lg bg vg E)(hh:h=3):bN prog (aF pls V) 10 285 fM E H (lx lo m P Hs):=by
 obtain⟨⟨pt,b,b',J,Y⟩,hi,hm,loP,M,gp,I,fs,gs,fn,gn,hpi,k2,k6,k7,k8,k9,k27⟩:=U;have F:(aF pls V).aj 10=false:=rfl;subst hh;obtain⟨v0,v1,v2,v3,v4,rfl⟩:=dM J.F.len;obtain⟨w0,ct,w2,w3,w4,rfl⟩:=dM J.G.len;obtain⟨z0,z1,z2,z3,z4⟩:=ij J.F.one;have ltA:=J.cS;have A:=J.ca;have hlo:=J.cU;have hbb:=J.hb;have C:=J.bF;have o:=J.cr;have z:rf≠P:=fun e=>by rw[e]at C;omega
 have raP:Z≠P:=fun e=>xy;have hrr:=J.ne;have lof:=J.av (q:=rf) aa;have loa:=J.av (q:=Z) aa;have e1:(rf == H.next)=false:=ay aa;have e2:(rf == H.next+1)=false:=ay aa;have e3:(rf == H.next+2)=false:=ay aa;have e4:(H.next == rf)=false:=ay aa;have e5:(rf == P)=false:=ay z;have e6:(P == rf)=false:=ay (Ne.symm z);have e7:(P == H.next)=false:=ay aa;have e8:(P == H.next+1)=false:=ay aa;have e9:(Z == H.next)=false:=ay aa;have e10:(Z == H.next+1)=false:=ay aa;have hr:=fb (n:=k) (m:=5) aa aa;have hr0:=hr.1;have hnm:=uh xB (n:=aZ k 5) CY;have hix:=fun r=>ug r 5 hr.1 aa;have hbs:=fun H=>GK H [105] [98] [113] [120,32,121] [119,104,105,108,101];change ∀H,dc _ H _ _ _=some (_,H.alloc (.cells (xB.map .ae) 0 true))at hbs;obtain⟨N,hN⟩:∃N,f.ah.length=N:=⟨_,rfl⟩;have hNl:N<2^30:=by
  have j:=ig f.ah;simp only[Fu.sz]at fs;omega
 have hnl:=uk (l:=xB) cy (aZ k 5).toNat;obtain⟨H',b7,ci,bX,bQ⟩:=J.e5 (Hb:=(H.alloc (.cells (xB.map .ae) 0 true)).alloc (.cells [.ae (xB.getD (aZ k 5).toNat [])] 0 true)) bY (fun q _ j=>C9) (r:=H.next+1) (s:=xB.getD (aZ k 5).toNat []) po hN hNl;simp only[br,gU,Nat.reduceAdd]at b7 ci bX bQ;have fr:∀q,q<H.next->pt q≠b+1->H'.get q=H.get q:=fun q j S=>by
  rw[bX q aa (.inr S),eX bY,eX j]
 have gr:=fr rf A aa;rcases hi with rfl|rfl;all_goals
  simp only[mB]at k8;first|have gf:=J.cZ|have gf:=J.cX
  rw[gf]at gr;dsimp only[fM,lw,fC,kh];repeat' (first
   |(apply ai ?_;clear hK K)|apply Ry.o ?_|apply bP ?_|(apply cU ?_;first|refine aY (iC hG.pick k 5 cy _) ?_)|(apply a2 (fun hb O=>?_) (fun hb O=>?_)<;>try(cases hb;done))|apply ae ?_|(apply ah fun K hK=>?_)|(apply aq 10 [(4,7),(4,11),(5,7),(5,11),(9,11),(10,11)] fun K hK=>?_)|(apply aM ?_;try intro _)|(apply aR ?_ ?_<;>clear hK K)|apply aL ?_|apply bu rfl ?_|apply aj ?_)
  .exact di
  refine⟨rfl,eE,eE,oH J Y M gp I (bQ _ rfl (fun q hq=>GM) zj) (by rw[ad aa];exact Y) ?_ ?_ aa ?_ aa fn gn⟩
  .simp only[bG];omega
  .intro q j S;rw[aO,ad (fun e=>GN),fr q j aa]
  .simp only[Fu.sz,zO,db]at fs⊢;omega
end
section
def tyMuQc.tyF:=ac @dF (ac @cI (ac @oX (ac @cY (ac @fg (ac @fh (ac @eL (ac @dW (ac @dR (ac @dX (ac @dy (ac @ge (ac @tm (ac @iW (ac @eD (ac @pT (ac @Pc (ac @CO (ac @vI (ac @xw (ac @zL (@zbV)))))))))))))))))))))
open tyMuQc
set_option maxRecDepth 100000 in
theorem zb5{lG:qu}(hG:zdi lG){Hs:Hp}{rf:Nat}{pf lf bf:AV}{vf:qm}{pg lg bg:AV}{vg:qm}(hat:AtM i a h k lo m P Hs H U rf x y f g pf lf bf vf pg lg bg vg E)(hh:h=4):bN prog (aF pls lG) 10 285 fM E H (lx lo m P Hs):=by
 obtain⟨⟨pt,b,b',Z,hPt⟩,hi,hm,loP,ltP,gp,old,fs,gs,fn,gn,hpi,k2,k6,k7,k8,k9,k27⟩:=hat;have hkeep:(aF pls lG).aj 10=false:=rfl;subst hh;obtain⟨v0,v1,v2,v3,v4,rfl⟩:=dM Z.F.len;obtain⟨w0,ct,w2,w3,w4,rfl⟩:=dM Z.G.len;obtain⟨z0,z1,z2,z3,z4⟩:=ij Z.F.one;have ltA:=Z.cS;have ltF:=Z.ca;have hlo:=Z.cU;have hbb:=Z.hb;have lrf:=Z.bF;have lra:=Z.cr;have rfP:rf≠P:=fun e=>sH;have raP:U≠P:=fun e=>pA;have hrr:=Z.ne;have lof:=Z.av (q:=rf) aa;have loa:=Z.av (q:=U) aa;have e1:(rf == H.next)=false:=ay aa;have e2:(rf == H.next+1)=false:=ay aa;have e3:(rf == H.next+2)=false:=ay aa;have e4:(H.next == rf)=false:=ay aa;have e5:(rf == P)=false:=ay rfP;have e6:(P == rf)=false:=ay (Ne.symm rfP);have e7:(P == H.next)=false:=ay aa;have e8:(P == H.next+1)=false:=ay aa;have e9:(U == H.next)=false:=ay aa;have e10:(U == H.next+1)=false:=ay aa;have hpr:=fb (n:=k) (m:=12) aa aa;obtain⟨M,hM⟩:∃M:Nat,aZ k 12=(M:Int):=⟨(aZ k 12).toNat,aa⟩;have hMl:M<12:=aa;have kp:=fun H=>iC hG.pick k 12 cy H;rw[hM]at kp;rcases hi with rfl|rfl;all_goals
  simp only[mB]at k8;first|have gf:=Z.cZ|have gf:=Z.cX
  dsimp only[fM,lw,fC,kh];repeat' (first
   |(apply ai ?_;clear hK K)|apply Ry.o ?_|(apply a2 (fun z V=>?_) (fun z V=>?_)<;>try(cases z;done))|apply ae ?_|(apply ah fun K hK=>?_)|(apply aq 15 [(4,12),(7,12),(8,12),(9,12),(11,12)] fun K hK=>?_)|(apply aM ?_;try intro _)|(apply aR ?_ ?_<;>clear hK K)|apply aL ?_|apply bu rfl ?_|apply aj ?_|apply ak ?_|apply ax ?_)
  refine dG [2,6,7,8,9] [] 10 M (fun j E J=>∃F A,zc8 _ F lo b b' 14 J U rf x y {f with ah:=f.ah++rG 118 j} g pf A bf [v0,v1,v2,v3,v4] pg lg bg [w0,ct,w2,w3,w4]/\F P=0/\(∀q,q<H.next->pt q=0->F q=0)/\(∀q,q<H.next->pt q=0->J.get q=H.get q)) eE ⟨pt,lf,by rw[show f.ah++rG 118 0=f.ah from iS _];exact Z,hPt,fun _ _ h=>h,fun _ _ _=>rfl⟩ ?_;rintro j E J hj hcE hrH o hsI ⟨F,A,I,hP3,hl3,hf3⟩;(try simp only[bL,bK,bb,aK,aW,Nat.reduceBEq,Nat.reduceAdd,Nat.reduceLeDiff,tyF, *]at hcE);(try simp only[bL,bK,bb,aK,aW,Nat.reduceBEq,Nat.reduceAdd,Nat.reduceLeDiff,tyF, *]at hrH);(try simp only[br,bG,cR,bR,Nat.reduceAdd]at o);have hnx:H.next<=J.next:=by simpa using o
  have f1:(rf == J.next)=false:=ay aa;have f2:(rf == J.next+1)=false:=ay aa;have f3:(rf == J.next+2)=false:=ay aa;first|have gf3:=I.cZ|have gf3:=I.cX
  repeat' (first
   |(apply ai ?_;clear hK K)|apply Ry.o ?_|(apply cU ?_;first|refine aY (kp _) ?_)|(apply a2 (fun z V=>?_) (fun z V=>?_)<;>try(cases z;done))|apply ae ?_|(apply ah fun K hK=>?_)|(apply aq 15 [(4,12),(7,12),(8,12),(9,12),(11,12)] fun K hK=>?_)|(apply aM ?_;try intro _)|(apply aR ?_ ?_<;>clear hK K)|apply aL ?_|apply bu rfl ?_|apply aj ?_|apply ak ?_|apply ax ?_)
  .have hlt:j<M:=by omega
   have lrf3:=I.bF;have hw97:IntKind.wrap .i64 (97+(j:Int))=97+(j:Int):=k3 aa aa;have hcv:=fun H=>pT H .i64 (97+(j:Int));generalize hmm:IntKind.wrap .u8 (97+(j:Int))=mm at hcv;have O:UInt8.ofNat mm.toNat=UInt8.ofNat (97+j):=by rw[<-hmm];exact Pb aa
   have S:(J.alloc (.cells [.int .u8 mm] 0 true)).get J.next=some (.cells [.int .u8 mm] 0 true):=fN
   have hcu:=De S;rw[O]at hcu;have hcat:∀D t,dP prog D .add t (.ae [118]) (.ae [UInt8.ofNat (97+j)])=some (.ae [118,UInt8.ofNat (97+j)]):=fun D t=>II (by simp[dd]);obtain⟨N,hN⟩:∃N,(f.ah++rG 118 j).length=N:=⟨_,rfl⟩;have hNl:N<2^30:=by
    have Y:=ig f.ah;rw[lA,zbW]at hN;simp only[Fu.sz]at fs;omega
   obtain⟨H',b7,ci,bX,bQ⟩:=I.e5 (Hb:=(J.alloc (.cells [.int .u8 mm] 0 true)).alloc (.cells [.ae [118,UInt8.ofNat (97+j)]] 0 true)) bY (fun q _ Y=>by rw[eX bY,eX Y]) (r:=J.next+1) (s:=[118,UInt8.ofNat (97+j)]) po hN hNl;simp only[br,gU,Nat.reduceAdd]at b7 ci bX bQ;have fr:∀q,q<J.next->F q≠b+1->H'.get q=J.get q:=fun q Y C=>by
    rw[bX q aa (.inr C),eX bY,eX Y]
   have gr:=(fr rf aa aa).trans gf3;have dl:J.next<=H'.next:=aa
   have gu:H'.get J.next=some (.cells [.int .u8 mm] 0 true):=by rw[bX J.next aa (.inl (aT _)),eX bY];exact S
   have gs2:H'.get (J.next+1)=some (.cells [.ae [118,UInt8.ofNat (97+j)]] 0 true):=by rw[bX (J.next+1) aa (.inl aa),aP,au gB]
   have hcu2:=De gu;rw[O]at hcu2;have hcu3:=De (H:=(J.alloc (.cells [.int .u8 mm] 0 true)).alloc (.cells [.ae [118,UInt8.ofNat (97+j)]] 0 true)) (r:=J.next) (by rw[eX bY];exact S);rw[O]at hcu3;repeat' (first
    |(apply ai ?_;clear hK K)|apply Rx.o ?_|apply aN ?_|apply ae ?_|(apply ah fun K hK=>?_)|(apply aq 15 [(4,12),(7,12),(8,12),(9,12),(11,12)] fun K hK=>?_)|(apply aM ?_;try intro _)|(apply aR ?_ ?_<;>clear hK K)|apply aL ?_|apply bu rfl ?_|apply aj ?_|apply ak ?_|apply ax ?_)
   .exact di
   refine⟨aa,bM,bM,dr,xz,?_⟩;refine⟨_,_,by rw[Pd,<-kP];exact bQ _ rfl (fun q hq=>GM) zj,?_,?_,?_⟩
   .show(if _ then _ else _)=0;rw[ad aa];exact hP3
   .intro q Y C;show(if _ then _ else _)=0;rw[ad aa];exact hl3 q Y C
   .intro q Y C;have:=hl3 q Y C;rw[aO,ad (fun e=>by rw[e]at this;omega),fr q aa aa];exact hf3 q Y C
  .have hje:j=M:=by omega
   subst hje;refine⟨rfl,eE,eE,oH Z hPt ltP gp old I hP3 hnx hf3 aa ?_ aa fn gn⟩;have:=Pe 118 j;simp only[Fu.sz,zO]at fs⊢;omega
set_option maxRecDepth 100000 in
theorem zb6{lG:qu}(hG:zdi lG){Hs:Hp}{rf:Nat}{pf lf bf:AV}{vf:qm}{pg lg bg:AV}{vg:qm}(hat:AtM i a h k lo m P Hs H A rf x y f g pf lf bf vf pg lg bg vg E)(hh:h=10):bN prog (aF pls lG) 10 285 fM E H (lx lo m P Hs):=by
 obtain⟨⟨pt,b,b',Z,hPt⟩,hi,hm,loP,ltP,gp,old,fs,gs,fn,gn,hpi,k2,k6,k7,k8,k9,k27⟩:=hat;have hkeep:(aF pls lG).aj 10=false:=rfl;subst hh;obtain⟨v0,v1,v2,v3,v4,rfl⟩:=dM Z.F.len;obtain⟨w0,ct,w2,w3,w4,rfl⟩:=dM Z.G.len;obtain⟨z0,z1,z2,z3,z4⟩:=ij Z.F.one;have ltA:=Z.cS;have ltF:=Z.ca;have hlo:=Z.cU;have hbb:=Z.hb;have lrf:=Z.bF;have lra:=Z.cr;have rfP:rf≠P:=fun e=>sH;have raP:A≠P:=fun e=>pA;have hrr:=Z.ne;have lof:=Z.av (q:=rf) aa;have loa:=Z.av (q:=A) aa;have e1:(rf == H.next)=false:=ay aa;have e2:(rf == H.next+1)=false:=ay aa;have e3:(rf == H.next+2)=false:=ay aa;have e4:(H.next == rf)=false:=ay aa;have e5:(rf == P)=false:=ay rfP;have e6:(P == rf)=false:=ay (Ne.symm rfP);have e7:(P == H.next)=false:=ay aa;have e8:(P == H.next+1)=false:=ay aa;have e9:(A == H.next)=false:=ay aa;have e10:(A == H.next+1)=false:=ay aa;have hpr:=fb (n:=k) (m:=24) aa aa;obtain⟨M,hM⟩:∃M:Nat,aZ k 24=(M:Int):=⟨(aZ k 24).toNat,aa⟩;have hMl:M<24:=aa;have kp:=fun H=>iC hG.pick k 24 cy H;rw[hM]at kp;rcases hi with rfl|rfl;all_goals
  simp only[mB]at k8;first|have gf:=Z.cZ|have gf:=Z.cX
  dsimp only[fM,lw,fC,kh];repeat' (first
   |(apply ai ?_;clear hK K)|apply Ry.o ?_|apply bP ?_|(apply a2 (fun z V=>?_) (fun z V=>?_)<;>try(cases z;done))|apply ae ?_|(apply ah fun K hK=>?_)|(apply aM ?_;try intro _)|apply aL ?_|apply bu rfl ?_|apply aj ?_|apply ak ?_|apply ax ?_)
  refine dG [2,6,7,8,9] [] 13 M (fun j E J=>∃F O,zc8 _ F lo b b' 14 J A rf x y {f with body:=f.body++pC j} g pf lf O [v0,v1,v2,v3,v4] pg lg bg [w0,ct,w2,w3,w4]/\F P=0/\(∀q,q<H.next->pt q=0->F q=0)/\(∀q,q<H.next->pt q=0->J.get q=H.get q)) eE ⟨pt,bf,by rw[show f.body++pC 0=f.body from iS _];exact Z,hPt,fun _ _ h=>h,fun _ _ _=>rfl⟩ ?_;rintro j E J hj hcE hrH o hsI ⟨F,O,I,hP3,hl3,hf3⟩;(try simp only[bL,bK,bb,aK,aW,Nat.reduceBEq,Nat.reduceAdd,Nat.reduceLeDiff,tyF, *]at hcE);(try simp only[bL,bK,bb,aK,aW,Nat.reduceBEq,Nat.reduceAdd,Nat.reduceLeDiff,tyF, *]at hrH);(try simp only[br,bG,cR,bR,Nat.reduceAdd]at o);have hnx:H.next<=J.next:=by simpa using o
  have f1:(rf == J.next)=false:=ay aa;have f2:(rf == J.next+1)=false:=ay aa;have f3:(rf == J.next+2)=false:=ay aa;first|have gf3:=I.cZ|have gf3:=I.cX
  obtain⟨o1,o2⟩:=I.F.bo.one;repeat' (first
   |(apply ai ?_;clear hK K)|apply Ry.o ?_|apply bP ?_|(apply cU ?_;first|refine aY (kp _) ?_)|(apply a2 (fun z V=>?_) (fun z V=>?_)<;>try(cases z;done))|apply ae ?_|(apply ah fun K hK=>?_)|(apply aM ?_;try intro _)|apply aL ?_|apply bu rfl ?_|apply aj ?_|apply ak ?_|apply ax ?_)
  .have hlt:j<M:=by omega
   have lrf3:=I.bF;obtain⟨N,hN⟩:∃N,(f.body++pC j).length=N:=⟨_,rfl⟩;have hNl:N<2^30:=by
    have U:=mS f.body;rw[lA,zb0]at hN;simp only[Fu.sz]at fs;omega
   have hlen:∀H,gj prog H 67 O=some (.int .i64 N):=fun H=>OU;obtain⟨H',flat,imm',b7,ci,bX,bQ,dt,fD,hY,a8,C⟩:=I.e6 (Hb:=J.alloc qd) bY (fun q _ U=>eX U) (r:=J.next) (row:=[.int .i64 0,.ae [],.ae [],.int .i64 0,.int .i64 0,.int .i64 0,.ae [],.int .i64 0,.ab,.int .i64 0,.int .i64 0,.ae [],.int .i64 0,.ab,.ab,.ab,.ab]) fN rfl rfl hN hNl;simp only[br]at b7 ci hY a8 C;have fr:∀q,q<J.next->F q≠b+2->H'.get q=J.get q:=fun q U S=>by
    rw[a8 q aa (.inr S),eX U]
   have gr:=(fr rf aa aa).trans gf3;have dl:J.next<=H'.next:=aa
   have hn1:N<N+1:=dq _;have g1:(J.next+1 == rf)=false:=ay aa;have gz:=@OC;(apply Rx.dS 36 10 13 [0,1,2,3,4,5,6,7,8,9,11,12,13,10] [(3,8),(6,8),(7,8)] [(3,8),(6,8),(7,8)] ?_ ?_ ?_;rotate_left 2)
   .repeat' (first
     |(apply ai ?_;clear hK K)|apply Ry.o ?_|apply bP ?_|(apply a2 (fun z V=>?_) (fun z V=>?_)<;>try(cases z;done))|apply ae ?_|(apply ah fun K hK=>?_)|(apply aM ?_;try intro _)|apply aL ?_|apply bu rfl ?_|apply aj ?_|apply ak ?_|apply ax ?_)
    try any_goals intro _
    repeat' (first
     |(apply ai ?_;clear hK K)|apply Ry.o ?_|apply bP ?_|(apply a2 (fun z V=>?_) (fun z V=>?_)<;>try(cases z;done))|apply ae ?_|(apply ah fun K hK=>?_)|(apply aM ?_;try intro _)|apply aL ?_|apply bu rfl ?_|apply aj ?_|apply ak ?_|apply ax ?_)
    try any_goals intro _
    any_goals refine yI ⟨?_,rfl,rfl⟩
    all_goals exact di
   .repeat' (first
     |(apply ai ?_;clear hK K)|apply Ry.o ?_|apply bP ?_|(apply a2 (fun z V=>?_) (fun z V=>?_)<;>try(cases z;done))|apply ae ?_|(apply ah fun K hK=>?_)|(apply aM ?_;try intro _)|apply aL ?_|apply bu rfl ?_|apply aj ?_|apply ak ?_|apply ax ?_)
    try any_goals intro _
    repeat' (first
     |(apply ai ?_;clear hK K)|apply Ry.o ?_|apply bP ?_|(apply a2 (fun z V=>?_) (fun z V=>?_)<;>try(cases z;done))|apply ae ?_|(apply ah fun K hK=>?_)|(apply aM ?_;try intro _)|apply aL ?_|apply bu rfl ?_|apply aj ?_|apply ak ?_|apply ax ?_)
    try any_goals intro _
    any_goals refine yI ⟨?_,rfl,Jr _ (fun e=>aa) _ _⟩
    all_goals exact di
   generalize Y:Hp.set (Hp.set H' (J.next+1) (.cells (flat++[.int .i64 4,.ae [],.ae [],.int .i64 0,.int .i64 0,.int .i64 0,.ae [],.int .i64 0,.ab,.int .i64 1,.int .i64 0,.ae [],.int .i64 0,.ab,.ab,.ab,.ab]) imm' true)) rf _=H5;have X5:=C H5 [.int .i64 4,.ae [],.ae [],.int .i64 0,.int .i64 0,.int .i64 0,.ae [],.int .i64 0,.ab,.int .i64 1,.int .i64 0,.ae [],.int .i64 0,.ab,.ab,.ab,.ab] (xE) (by rw[<-Y];rfl) (fun q U S=>OX) OY rfl (ni (n:=13) 4 [] [] 0 lQ (mr 1 0 0 []) .ab .ab .ab) (by rw[<-Y,aO,au rfl];rfl);have f5:∀q,q<J.next->F q=0->H5.get q=J.get q:=fun q U S=>OZ
   have n5:J.next<=H5.next:=by rw[<-Y];simp only[bG];omega
   clear Y b7 ci C a8 gr;dsimp only[lE,nU,a0];repeat' (first
    |(apply ai ?_;clear hK K)|apply Rx.o ?_|apply ae ?_|(apply ah fun K hK=>?_)|(apply aM ?_;try intro _)|apply aL ?_|apply bu rfl ?_|apply aj ?_|apply ak ?_|apply ax ?_)
   refine⟨aa,bM,bM,dr,xz,?_⟩;refine⟨_,_,by rw[Ph,<-kP];exact X5,?_,?_,?_⟩
   .show(if _ then _ else _)=0;rw[ad aa];exact hP3
   .intro q U S;show(if _ then _ else _)=0;rw[ad aa];exact hl3 q U S
   .intro q U S;rw[f5 q aa (hl3 q U S)];exact hf3 q U S
  .have hje:j=M:=by omega
   subst hje;refine⟨rfl,eE,eE,oH Z hPt ltP gp old I hP3 hnx hf3 aa ?_ aa ⟨fn.1,zN fn.2.1 (zbY _ aa),fn.2.2⟩ gn⟩;have:=Pi j;simp only[Fu.sz,lp]at fs⊢;omega
set_option maxRecDepth 100000 in
theorem zb7{lG:qu}(hG:zdi lG){Hs:Hp}{rf:Nat}{pf lf bf:AV}{vf:qm}{pg lg bg:AV}{vg:qm}(hat:AtM i a h k lo m P Hs H A rf x y f g pf lf bf vf pg lg bg vg E)(hh:h=11):bN prog (aF pls lG) 10 285 fM E H (lx lo m P Hs):=by
 obtain⟨⟨pt,b,b',Z,hPt⟩,hi,hm,loP,ltP,gp,old,fs,gs,fn,gn,hpi,k2,k6,k7,k8,k9,k27⟩:=hat;have hkeep:(aF pls lG).aj 10=false:=rfl;subst hh;obtain⟨v0,v1,v2,v3,v4,rfl⟩:=dM Z.F.len;obtain⟨w0,ct,w2,w3,w4,rfl⟩:=dM Z.G.len;obtain⟨z0,z1,z2,z3,z4⟩:=ij Z.F.one;have ltA:=Z.cS;have ltF:=Z.ca;have hlo:=Z.cU;have hbb:=Z.hb;have lrf:=Z.bF;have lra:=Z.cr;have rfP:rf≠P:=fun e=>sH;have raP:A≠P:=fun e=>pA;have hrr:=Z.ne;have lof:=Z.av (q:=rf) aa;have loa:=Z.av (q:=A) aa;have e1:(rf == H.next)=false:=ay aa;have e2:(rf == H.next+1)=false:=ay aa;have e3:(rf == H.next+2)=false:=ay aa;have e4:(H.next == rf)=false:=ay aa;have e5:(rf == P)=false:=ay rfP;have e6:(P == rf)=false:=ay (Ne.symm rfP);have e7:(P == H.next)=false:=ay aa;have e8:(P == H.next+1)=false:=ay aa;have e9:(A == H.next)=false:=ay aa;have e10:(A == H.next+1)=false:=ay aa;have hpr:=fb (n:=k) (m:=260) aa aa;obtain⟨M,hM⟩:∃M:Nat,aZ k 260=(M:Int):=⟨(aZ k 260).toNat,aa⟩;have hMl:M<260:=aa;have kp:=fun H=>iC hG.pick k 260 cy H;rw[hM]at kp;rcases hi with rfl|rfl;all_goals
  simp only[mB]at k8;first|have gf:=Z.cZ|have gf:=Z.cX
  dsimp only[fM,lw,fC,kh];repeat' (first
   |(apply ai ?_;clear hK K)|apply Ry.o ?_|apply bP ?_|(apply a2 (fun z V=>?_) (fun z V=>?_)<;>try(cases z;done))|apply ae ?_|(apply ah fun K hK=>?_)|(apply aM ?_;try intro _)|apply aL ?_|apply bu rfl ?_|apply aj ?_|apply ak ?_|apply ax ?_)
  refine dG [2,6,7,8,9] [] 14 M (fun j E J=>∃F O,zc8 _ F lo b b' 14 J A rf x y {f with body:=f.body++oI j} g pf lf O [v0,v1,v2,v3,v4] pg lg bg [w0,ct,w2,w3,w4]/\F P=0/\(∀q,q<H.next->pt q=0->F q=0)/\(∀q,q<H.next->pt q=0->J.get q=H.get q)) eE ⟨pt,bf,by rw[show f.body++oI 0=f.body from iS _];exact Z,hPt,fun _ _ h=>h,fun _ _ _=>rfl⟩ ?_;rintro j E J hj hcE hrH o hsI ⟨F,O,I,hP3,hl3,hf3⟩;(try simp only[bL,bK,bb,aK,aW,Nat.reduceBEq,Nat.reduceAdd,Nat.reduceLeDiff,tyF, *]at hcE);(try simp only[bL,bK,bb,aK,aW,Nat.reduceBEq,Nat.reduceAdd,Nat.reduceLeDiff,tyF, *]at hrH);(try simp only[br,bG,cR,bR,Nat.reduceAdd]at o);have hnx:H.next<=J.next:=by simpa using o
  have f1:(rf == J.next)=false:=ay aa;have f2:(rf == J.next+1)=false:=ay aa;have f3:(rf == J.next+2)=false:=ay aa;first|have gf3:=I.cZ|have gf3:=I.cX
  obtain⟨o1,o2⟩:=I.F.bo.one;repeat' (first
   |(apply ai ?_;clear hK K)|apply Ry.o ?_|apply bP ?_|(apply cU ?_;first|refine aY (kp _) ?_)|(apply a2 (fun z V=>?_) (fun z V=>?_)<;>try(cases z;done))|apply ae ?_|(apply ah fun K hK=>?_)|(apply aM ?_;try intro _)|apply aL ?_|apply bu rfl ?_|apply aj ?_|apply ak ?_|apply ax ?_)
  .have hlt:j<M:=by omega
   have lrf3:=I.bF;obtain⟨N,hN⟩:∃N,(f.body++oI j).length=N:=⟨_,rfl⟩;have hNl:N<2^30:=by
    have U:=mS f.body;rw[lA,zbZ]at hN;simp only[Fu.sz]at fs;omega
   have hlen:∀H,gj prog H 67 O=some (.int .i64 N):=fun H=>OU;obtain⟨H',flat,imm',b7,ci,bX,bQ,dt,fD,hY,a8,C⟩:=I.e6 (Hb:=J.alloc qd) bY (fun q _ U=>eX U) (r:=J.next) (row:=[.int .i64 0,.ae [],.ae [],.int .i64 0,.int .i64 0,.int .i64 0,.ae [],.int .i64 0,.ab,.int .i64 0,.int .i64 0,.ae [],.int .i64 0,.ab,.ab,.ab,.ab]) fN rfl rfl hN hNl;simp only[br]at b7 ci hY a8 C;have fr:∀q,q<J.next->F q≠b+2->H'.get q=J.get q:=fun q U S=>by
    rw[a8 q aa (.inr S),eX U]
   have gr:=(fr rf aa aa).trans gf3;have dl:J.next<=H'.next:=aa
   have hn1:N<N+1:=dq _;have g1:(J.next+1 == rf)=false:=ay aa;have gz:=@OC;(apply Rx.dS 41 11 14 [0,1,2,3,4,5,6,7,8,9,10,12,13,14,11] [(3,9),(7,9),(8,9)] [(3,9),(7,9),(8,9)] ?_ ?_ ?_;rotate_left 2)
   .repeat' (first
     |(apply ai ?_;clear hK K)|apply Ry.o ?_|apply bP ?_|(apply a2 (fun z V=>?_) (fun z V=>?_)<;>try(cases z;done))|apply ae ?_|(apply ah fun K hK=>?_)|(apply aM ?_;try intro _)|apply aL ?_|apply bu rfl ?_|apply aj ?_|apply ak ?_|apply ax ?_)
    try any_goals intro _
    repeat' (first
     |(apply ai ?_;clear hK K)|apply Ry.o ?_|apply bP ?_|(apply a2 (fun z V=>?_) (fun z V=>?_)<;>try(cases z;done))|apply ae ?_|(apply ah fun K hK=>?_)|(apply aM ?_;try intro _)|apply aL ?_|apply bu rfl ?_|apply aj ?_|apply ak ?_|apply ax ?_)
    try any_goals intro _
    any_goals refine yI ⟨?_,rfl,rfl⟩
    all_goals exact di
   .repeat' (first
     |(apply ai ?_;clear hK K)|apply Ry.o ?_|apply bP ?_|(apply a2 (fun z V=>?_) (fun z V=>?_)<;>try(cases z;done))|apply ae ?_|(apply ah fun K hK=>?_)|(apply aM ?_;try intro _)|apply aL ?_|apply bu rfl ?_|apply aj ?_|apply ak ?_|apply ax ?_)
    try any_goals intro _
    repeat' (first
     |(apply ai ?_;clear hK K)|apply Ry.o ?_|apply bP ?_|(apply a2 (fun z V=>?_) (fun z V=>?_)<;>try(cases z;done))|apply ae ?_|(apply ah fun K hK=>?_)|(apply aM ?_;try intro _)|apply aL ?_|apply bu rfl ?_|apply aj ?_|apply ak ?_|apply ax ?_)
    try any_goals intro _
    any_goals refine yI ⟨?_,rfl,Jr _ (fun e=>aa) _ _⟩
    all_goals exact di
   generalize Y:Hp.set (Hp.set H' (J.next+1) (.cells (flat++[.int .i64 5,.ae [],.ae [],.int .i64 0,.int .i64 0,.int .i64 0,.ae [],.int .i64 0,.ab,.int .i64 1,.int .i64 j,.ae [],.int .i64 0,.ab,.ab,.ab,.ab]) imm' true)) rf _=H5;have X5:=C H5 [.int .i64 5,.ae [],.ae [],.int .i64 0,.int .i64 0,.int .i64 0,.ae [],.int .i64 0,.ab,.int .i64 1,.int .i64 j,.ae [],.int .i64 0,.ab,.ab,.ab,.ab] (xF j) (by rw[<-Y];rfl) (fun q U S=>OX) OY rfl (ni (n:=13) 5 [] [] 0 lQ (mr 1 j 0 []) .ab .ab .ab) (by rw[<-Y,aO,au rfl];rfl);have f5:∀q,q<J.next->F q=0->H5.get q=J.get q:=fun q U S=>OZ
   have n5:J.next<=H5.next:=by rw[<-Y];simp only[bG];omega
   clear Y b7 ci C a8 gr;dsimp only[lE,nU,a0];repeat' (first
    |(apply ai ?_;clear hK K)|apply Rx.o ?_|apply ae ?_|(apply ah fun K hK=>?_)|(apply aM ?_;try intro _)|apply aL ?_|apply bu rfl ?_|apply aj ?_|apply ak ?_|apply ax ?_)
   refine⟨aa,bM,bM,dr,xz,?_⟩;refine⟨_,_,by rw[Pf,<-kP];exact X5,?_,?_,?_⟩
   .show(if _ then _ else _)=0;rw[ad aa];exact hP3
   .intro q U S;show(if _ then _ else _)=0;rw[ad aa];exact hl3 q U S
   .intro q U S;rw[f5 q aa (hl3 q U S)];exact hf3 q U S
  .have hje:j=M:=by omega
   subst hje;refine⟨rfl,eE,eE,oH Z hPt ltP gp old I hP3 hnx hf3 aa ?_ aa ⟨fn.1,zN fn.2.1 (zbX _ aa),fn.2.2⟩ gn⟩;have:=Pg j;simp only[Fu.sz,lp]at fs⊢;omega
end
section
def tyMuQb.tyF:=ac @dF (ac @cI (ac @oX (ac @cY (ac @fg (ac @fh (ac @eL (ac @dW (ac @dR (ac @dX (ac @dy (ac @ge (ac @tm (ac @iW (ac @eD (ac @pT (ac @zbv (ac @zbw (ac @xw (@zL)))))))))))))))))))
open tyMuQb
theorem Pj:∀(j:Nat) (e:Ex),(sI j e).sz<=e.sz+20*j
 |0,e=>by simp[sI]
 |j+1,e=>by
  have:=Pj j e;rw[sI];simp only[Ex.sz,cF,eg];omega
theorem Pk:∀(j:Nat) (b:qt),a6 (uj j b)<=a6 b+20*j
 |0,b=>by simp[uj]
 |j+1,b=>by
  have:=Pk j b;rw[uj];simp only[a6,St.sz,ui,eI,Ex.sz,cF,eg];omega
def zb8(v:AV)(h:AV.one v=true):cQ prog 78 [(0,.int .i64 3),(5,.agg [.int .i64 1,.int .i64 0,.ae [],.int .i64 0,.ab]),(7,v)]=some (.agg [.int .i64 3,.ae [],.ae [],.int .i64 0,.int .i64 0,.int .i64 0,.ae [],.int .i64 0,.ab,.int .i64 1,.int .i64 0,.ae [],.int .i64 0,.ab,.ab,v,.ab]):=by
 cases v<;>first|(cases h;done)|kernel_rfl
section
variable {i:Nat} {pt:Nat -> Nat} {lo b b' n:Nat} {H:Hp} {ra rf:Nat} {x y:Int} {f g:Fu} {pf lf bf:AV} {vf:qm} {pg lg bg:AV} {vg:qm} (h:zc8 i pt lo b b' n H ra rf x y f g pf lf bf vf pg lg bg vg)
include h
def zc8.e4{vf':qm}(w:Ex)(Z:H.next<=H'.next)(I:n<=n')(o:∀q,lo<=q->q<H.next->q≠rf->pt q≠b+3->H'.get q=H.get q)(Y:H'.get rf=some (.cells (oE i (fU f.name pf lf bf vf') (fU g.name pg lg bg vg)) 0 true))
 (K:vf'.length=5) (M:vf'.all AV.one=true) (J:cJ (fun q=>H.next<=q\/pt q=b+3) n' H' vf' w.cells):zc8 i (fun q=>if H.next<=q then b+3 else pt q) lo b b' n' H' ra rf x y {f with value:=w} g pf lf bf vf' pg lg bg vg:=by
 have z:=h.hb;have U:=h.bF;have V:∀q,q<H.next->b<=pt q->pt q≠b+3->H'.get q=H.get q:=fun q j m A=>o q (h.av aa) j (fun e=>oD) A
 refine h.dG ⟨aa,aa⟩ Z I o Y ⟨K,M,(h.F.ps.aj (fun k j m=>GA) Z fun k j m=>V k m aa aa).up I,(h.F.ls.aj (fun k j m=>Gx) Z fun k j m=>V k m aa aa).up I,(h.F.bo.aj (fun k j m=>Gy) Z fun k j m=>V k m aa aa).up I,J.ax (fun k j m=>?_) (aT _) fun _ _ _=>rfl⟩;show(if _ then _ else _)=b+3;split
 .rfl
 .rcases m with m|m
  .omega
  .exact m
end
set_option maxRecDepth 100000 in
theorem zb9{lG:qu}(hG:zdi lG){Hs:Hp}{S rf:Nat}{pf lf bf:AV}{vf:qm}{pg lg bg:AV}{vg:qm}(hat:AtM i a h k lo m P Hs H S rf x y f g pf lf bf vf pg lg bg vg E)(hh:h=8):bN prog (aF pls lG) 10 285 fM E H (lx lo m P Hs):=by
 obtain⟨⟨pt,b,b',J,hPt⟩,hi,hm,loP,ltP,gp,old,fs,gs,fn,gn,hpi,k2,k6,k7,k8,k9,k27⟩:=hat;have hkeep:(aF pls lG).aj 10=false:=rfl;subst hh;obtain⟨v0,v1,v2,v3,v4,rfl⟩:=dM J.F.len;obtain⟨w0,ct,w2,w3,w4,rfl⟩:=dM J.G.len;obtain⟨z0,z1,z2,z3,z4⟩:=ij J.F.one;have ltA:=J.cS;have ltF:=J.ca;have hlo:=J.cU;have hbb:=J.hb;have lrf:=J.bF;have lra:=J.cr;have rfP:rf≠P:=fun e=>sH;have raP:S≠P:=fun e=>pA;have hrr:=J.ne;have lof:=J.av (q:=rf) aa;have loa:=J.av (q:=S) aa;have e1:(rf == H.next)=false:=ay aa;have e2:(rf == H.next+1)=false:=ay aa;have e3:(rf == H.next+2)=false:=ay aa;have e4:(H.next == rf)=false:=ay aa;have e5:(rf == P)=false:=ay rfP;have e6:(P == rf)=false:=ay (Ne.symm rfP);have e7:(P == H.next)=false:=ay aa;have e8:(P == H.next+1)=false:=ay aa;have e9:(S == H.next)=false:=ay aa;have e10:(S == H.next+1)=false:=ay aa;have hpr:=fb (n:=k) (m:=30) aa aa;obtain⟨M,hM⟩:∃M:Nat,aZ k 30=(M:Int):=⟨(aZ k 30).toNat,aa⟩;have hMl:M<30:=aa;have kp:=fun H=>iC hG.pick k 30 cy H;rw[hM]at kp;rcases hi with rfl|rfl;all_goals
  simp only[mB]at k8;first|have gf:=J.cZ|have gf:=J.cX
  dsimp only[fM,lw,fC,kh];repeat' (first
   |(apply ai ?_;clear hK K)|apply Ry.o ?_|apply bP ?_|(apply a2 (fun z U=>?_) (fun z U=>?_)<;>try(cases z;done))|apply ae ?_|(apply ah fun K hK=>?_)|apply aj ?_|apply ak ?_|apply ax ?_)
  refine dG [2,6,7,8,9] [] 11 M (fun j E Z=>∃F O C A o u4,zc8 _ F lo b b' (14+j) Z S rf x y {f with value:=sI j f.value} g pf lf bf [O,C,A,o,u4] pg lg bg [w0,ct,w2,w3,w4]/\F P=0/\(∀q,q<H.next->pt q=0->F q=0)/\(∀q,q<H.next->pt q=0->Z.get q=H.get q)) eE ⟨pt,v0,v1,v2,v3,v4,J,hPt,fun _ _ h=>h,fun _ _ _=>rfl⟩ ?_;rintro j E Z hj hcE hrH hnH hsI ⟨F,O,C,A,o,u4,I,hP3,hl3,hf3⟩;(try simp only[bL,bK,bb,aK,aW,Nat.reduceBEq,Nat.reduceAdd,Nat.reduceLeDiff,tyF, *]at hcE);(try simp only[bL,bK,bb,aK,aW,Nat.reduceBEq,Nat.reduceAdd,Nat.reduceLeDiff,tyF, *]at hrH);(try simp only[br,bG,cR,bR,Nat.reduceAdd]at hnH);have hnx:H.next<=Z.next:=by simpa using hnH
  have f1:(rf == Z.next)=false:=ay aa;have f2:(rf == Z.next+1)=false:=ay aa;have f3:(rf == Z.next+2)=false:=ay aa;have ag:∀r,cH 5 (O::C::A::o::u4::r)=some (.agg [O,C,A,o,u4]):=fun r=>rfl;first|have gf3:=I.cZ|have gf3:=I.cX
  repeat' (first
   |(apply ai ?_;clear hK K)|apply Ry.o ?_|apply bP ?_|(apply cU ?_;first|refine aY (kp _) ?_)|(apply a2 (fun z U=>?_) (fun z U=>?_)<;>try(cases z;done))|apply ae ?_|(apply ah fun K hK=>?_)|apply aj ?_|apply ak ?_|apply ax ?_)
  .have hlt:j<M:=by omega
   obtain⟨y0,y1,y2,y3,y4⟩:=ij I.F.one;repeat' (first
    |(apply ai ?_;clear hK K)|apply ae ?_|(apply ah fun K hK=>?_)|apply aj ?_|apply ak ?_|apply ax ?_)
   refine⟨aa,bM,bM,dr,xz,?_⟩;have lrf3:=I.bF;refine⟨_,_,_,_,_,_,I.e4 (H':=_) (n':=14+(j+1)) (vf':=[.int .i64 4,.int .i64 0,.ae [],.int .i64 21,.sl Z.next 0 1 5]) (sI (j+1) f.value) ?_ aa ?_ ?_ rfl rfl ?_,?_,?_,?_⟩
   .simp only[bG,br];omega
   .intro q _ Y V _;rw[aO,ad V,eX Y]
   .rw[aO,au rfl];rfl
   .refine tT (n:=14+j) _ _ _ _ (rt (n:=14+j) (a:=[[O,C,A,o,u4]]) (b:=[(sI j f.value).cells]) (imm:=0) (tip:=true) (.inl (aT _)) (dq _) O0 aI ⟨⟨rfl,I.F.vw.ax (fun q _ h=>.inr h) (eT _) fun q Y V=>by rw[aO,ad (fun e=>by rw[e]at Y;omega),eX V]⟩,trivial⟩)
   .show(if _ then _ else _)=0;rw[ad aa];exact hP3
   .intro q Y V;show(if _ then _ else _)=0;rw[ad aa];exact hl3 q Y V
   .intro q Y V;have:=hl3 q Y V;rw[aO,ad (fun e=>by rw[e]at this;omega),eX aa];exact hf3 q Y V
  .have hje:j=M:=by omega
   subst hje;refine⟨rfl,eE,eE,oH J hPt ltP gp old I hP3 hnx hf3 aa ?_ aa ⟨fn.1,fn.2.1,O9 _ _ fn.2.2⟩ gn⟩;have:=Pj j f.value;simp only[Fu.sz]at fs⊢;omega
set_option maxRecDepth 100000 in
theorem zca{lG:qu}(hG:zdi lG){Hs:Hp}{S rf:Nat}{pf lf bf:AV}{vf:qm}{pg lg bg:AV}{vg:qm}(hat:AtM i a h k lo m P Hs H S rf x y f g pf lf bf vf pg lg bg vg E)(hh:h=9):bN prog (aF pls lG) 10 285 fM E H (lx lo m P Hs):=by
 obtain⟨⟨pt,b,b',J,hPt⟩,hi,hm,loP,ltP,gp,old,fs,gs,fn,gn,hpi,k2,k6,k7,k8,k9,k27⟩:=hat;have hkeep:(aF pls lG).aj 10=false:=rfl;subst hh;obtain⟨v0,v1,v2,v3,v4,rfl⟩:=dM J.F.len;obtain⟨w0,ct,w2,w3,w4,rfl⟩:=dM J.G.len;obtain⟨z0,z1,z2,z3,z4⟩:=ij J.F.one;have ltA:=J.cS;have ltF:=J.ca;have hlo:=J.cU;have hbb:=J.hb;have lrf:=J.bF;have lra:=J.cr;have rfP:rf≠P:=fun e=>sH;have raP:S≠P:=fun e=>pA;have hrr:=J.ne;have lof:=J.av (q:=rf) aa;have loa:=J.av (q:=S) aa;have e1:(rf == H.next)=false:=ay aa;have e2:(rf == H.next+1)=false:=ay aa;have e3:(rf == H.next+2)=false:=ay aa;have e4:(H.next == rf)=false:=ay aa;have e5:(rf == P)=false:=ay rfP;have e6:(P == rf)=false:=ay (Ne.symm rfP);have e7:(P == H.next)=false:=ay aa;have e8:(P == H.next+1)=false:=ay aa;have e9:(S == H.next)=false:=ay aa;have e10:(S == H.next+1)=false:=ay aa;have hpr:=fb (n:=k) (m:=30) aa aa;obtain⟨M,hM⟩:∃M:Nat,aZ k 30=(M:Int):=⟨(aZ k 30).toNat,aa⟩;have hMl:M<30:=aa;have kp:=fun H=>iC hG.pick k 30 cy H;rw[hM]at kp;rcases hi with rfl|rfl;all_goals
  simp only[mB]at k8;first|have gf:=J.cZ|have gf:=J.cX
  dsimp only[fM,lw,fC,kh];repeat' (first
   |(apply ai ?_;clear hK K)|apply Ry.o ?_|(apply a2 (fun z U=>?_) (fun z U=>?_)<;>try(cases z;done))|apply ae ?_|(apply ah fun K hK=>?_)|apply aj ?_|apply ak ?_|apply ax ?_)
  refine dG [2,6,7,8,9] [] 12 M (fun j E Y=>∃F bf',zc8 _ F lo b b' (14+j) Y S rf x y {f with body:=uj j f.body} g pf lf bf' [v0,v1,v2,v3,v4] pg lg bg [w0,ct,w2,w3,w4]/\F P=0/\(∀q,q<H.next->pt q=0->F q=0)/\(∀q,q<H.next->pt q=0->Y.get q=H.get q)) eE ⟨pt,bf,J,hPt,fun _ _ h=>h,fun _ _ _=>rfl⟩ ?_;rintro j E Y hj hcE hrH O hsI ⟨F,bf',I,C,A,o⟩;(try simp only[bL,bK,bb,aK,aW,Nat.reduceBEq,Nat.reduceAdd,Nat.reduceLeDiff,tyF, *]at hcE);(try simp only[bL,bK,bb,aK,aW,Nat.reduceBEq,Nat.reduceAdd,Nat.reduceLeDiff,tyF, *]at hrH);(try simp only[br,bG,cR,bR,Nat.reduceAdd]at O);have hnx:H.next<=Y.next:=by simpa using O
  have f1:(rf == Y.next)=false:=ay aa;have f2:(rf == Y.next+1)=false:=ay aa;have f3:(rf == Y.next+2)=false:=ay aa;first|have gf3:=I.cZ|have gf3:=I.cX
  obtain⟨o1,o2⟩:=I.F.bo.one;repeat' (first
   |(apply ai ?_;clear hK K)|apply Ry.o ?_|(apply cU ?_;first|refine aY (kp _) ?_)|(apply a2 (fun z U=>?_) (fun z U=>?_)<;>try(cases z;done))|apply ae ?_|(apply ah fun K hK=>?_)|apply aj ?_|apply ak ?_|apply ax ?_)
  .have hlt:j<M:=by omega
   have gh0:=@zb8;repeat' (first
    |(apply ai ?_;clear hK K)|apply Rx.o ?_|apply aN ?_|apply ae ?_|(apply ah fun K hK=>?_)|apply aj ?_|apply ak ?_|apply ax ?_)
   refine⟨aa,bM,bM,dr,xz,?_⟩;have lrf3:=I.bF;refine⟨_,_,I.fk (H':=_) (n':=14+(j+1)) (bf':=.sl Y.next 0 1 17) (uj (j+1) f.body) ?_ aa ?_ ?_ ?_,?_,?_,?_⟩
   .simp only[bG,br];omega
   .intro q _ V Z _;rw[aO,ad Z,eX V]
   .rw[aO,au rfl];rfl
   .refine .inr ⟨Y.next,0,[[.int .i64 3,.ae [],.ae [],.int .i64 0,.int .i64 0,.int .i64 0,.ae [],.int .i64 0,.ab,.int .i64 1,.int .i64 0,.ae [],.int .i64 0,.ab,.ab,bf',.ab]],rfl,au (aT _),dq _,O0,aI,⟨rfl,?_⟩,trivial⟩;exact ni (n:=14+j) 3 [] [] 0 lQ (mr 1 0 0 []) .ab (I.F.bo.rd.ax (fun q V Z=>⟨by show(if _ then _ else _)=_;rw[ad aa];exact Z,aa⟩) (eT _) fun q V Z=>by rw[aO,ad (fun e=>by rw[e]at V;omega),eX Z]) .ab
   .show(if _ then _ else _)=0;rw[ad aa];exact C
   .intro q V Z;show(if _ then _ else _)=0;rw[ad aa];exact A q V Z
   .intro q V Z;have:=A q V Z;rw[aO,ad (fun e=>by rw[e]at this;omega),eX aa];exact o q V Z
  .have hje:j=M:=by omega
   subst hje;refine⟨rfl,eE,eE,oH J hPt ltP gp old I C hnx o aa ?_ aa ⟨fn.1,Pa _ _ fn.2.1,fn.2.2⟩ gn⟩;have:=Pk j f.body;simp only[Fu.sz]at fs⊢;omega
end
section
def tyMuQd.tyF:=ac @dF (ac @cI (ac @oX (ac @cY (ac @fg (ac @fh (ac @eL (ac @dW (ac @dR (ac @dX (ac @dy (ac @ge (ac @tm (ac @iW (ac @eD (ac @pT (@lS))))))))))))))))
open tyMuQd
theorem nB:∀a b:qz,cF (a++b)=cF a+cF b
 |[],b=>by rw[jO,cF];omega
 |x::a,b=>by rw[jW,cF,cF,nB a b];omega
mutual
theorem Df:∀(e:Ex) (V a:Int),(fH e V a).sz<=e.sz+20
 | .mk k n C o J,V,a=>by
   have j:=uk (l:=C3) cy (aZ a 6).toNat;have m:=Pm J (aZ a J.length).toNat (bA (V.tdiv 9)) (bA (a.tdiv 3));rw[fH];(repeat' split)<;>simp only[Ex.sz,nB,cF,kg,eg,lR]<;>omega
theorem Pm:∀(l:qz) (i:Nat) (V a:Int),cF (nn l i V a)<=cF l+20
 |[],_,_,_=>by rw[nn];omega
 |x::l,0,V,a=>by
  have:=Df x V a;rw[nn,cF,cF];omega
 |x::l,i+1,V,a=>by
  have:=Pm l i V a;rw[nn,cF,cF];omega
end
mutual
theorem Pn:∀(e:St) (V a:Int),(iQ e V a).sz<=e.sz+40
 | .mk k C K n e v j z Y,V,a=>by
   have S:=uk (l:=C7) cy (aZ a 6).toNat;have m:=uk (l:=C8) cy (aZ a 5).toNat;have O:=Po z (aZ a z.length).toNat (bA (V.tdiv 13)) (bA (a.tdiv 3));have M:=Df e (bA (V.tdiv 13)) a;have J:=Df v (bA (V.tdiv 13)) a;rw[iQ];generalize aZ V 13=q;by_cases c0:q=0
   .rw[au c0];simp only[St.sz,nB,cF,lp,a6,Ex.sz,kg,eI,kJ,eg,lR];omega
   rw[ad c0];by_cases c1:q=1
   .rw[au c1];simp only[St.sz,nB,cF,lp,a6,Ex.sz,kg,eI,kJ,eg,lR];omega
   rw[ad c1];by_cases c2:q=2
   .rw[au c2];simp only[St.sz,nB,cF,lp,a6,Ex.sz,kg,eI,kJ,eg,lR];omega
   rw[ad c2];by_cases c3:q=3
   .rw[au c3];simp only[St.sz,nB,cF,lp,a6,Ex.sz,kg,eI,kJ,eg,lR];omega
   rw[ad c3];by_cases c4:q=4
   .rw[au c4];simp only[St.sz,nB,cF,lp,a6,Ex.sz,kg,eI,kJ,eg,lR];omega
   rw[ad c4];by_cases c5:q=5
   .rw[au c5];simp only[St.sz,nB,cF,lp,a6,Ex.sz,kg,eI,kJ,eg,lR];omega
   rw[ad c5];by_cases c6:q=6
   .rw[au c6];simp only[St.sz,nB,cF,lp,a6,Ex.sz,kg,eI,kJ,eg,lR];omega
   rw[ad c6];by_cases c7:q=7
   .rw[au c7];simp only[St.sz,nB,cF,lp,a6,Ex.sz,kg,eI,kJ,eg,lR];omega
   rw[ad c7];by_cases U:q=8
   .rw[au U];simp only[St.sz,nB,cF,lp,a6,Ex.sz,kg,eI,kJ,eg,lR];omega
   rw[ad U];by_cases Z:q=9
   .rw[au Z];simp only[St.sz,nB,cF,lp,a6,Ex.sz,kg,eI,kJ,eg,lR];omega
   rw[ad Z];by_cases A:q=10
   .rw[au A];simp only[St.sz,nB,cF,lp,a6,Ex.sz,kg,eI,kJ,eg,lR];omega
   rw[ad A];simp only[St.sz];omega
theorem Po:∀(l:qt) (i:Nat) (V a:Int),a6 (nr l i V a)<=a6 l+40
 |[],_,_,_=>by rw[nr];omega
 |x::l,0,V,a=>by
  have:=Pn x V a;rw[nr,a6,a6];omega
 |x::l,i+1,V,a=>by
  have:=Po l i V a;rw[nr,a6,a6];omega
end
def zcb(r:Nat):eS prog 22 (.sl r 0 2 2) (.int .i64 0)=some (.ptr r 0):=aA
def zcc(r:Nat):eS prog 22 (.sl r 0 2 2) (.int .i64 1)=some (.ptr r 2):=aA
set_option maxRecDepth 100000 in
theorem zcd(hG:zdi M){Hs:Hp}{rf:Nat}{pf lf bf:AV}{vf:qm}{pg lg bg:AV}{vg:qm}(I:AtM i a h k lo m P Hs H U rf x y f g pf lf bf vf pg lg bg vg E)(hh:h=5):bN prog (aF pls M) 10 285 fM E H (lx lo m P Hs):=by
 obtain⟨⟨pt,b,b',J,Y⟩,hi,hm,loP,j,gp,S,fs,gs,fn,gn,Z,k2,k6,k7,k8,k9,k27⟩:=I;have A:(aF pls M).aj 10=false:=rfl;subst hh;obtain⟨v0,v1,v2,v3,v4,rfl⟩:=dM J.F.len;obtain⟨w0,ct,w2,w3,w4,rfl⟩:=dM J.G.len;obtain⟨z0,z1,z2,z3,z4⟩:=ij J.F.one;have ltA:=J.cS;have ltF:=J.ca;have hlo:=J.cU;have hbb:=J.hb;have o:=J.bF;have lra:=J.cr;have z:rf≠P:=fun e=>xy;have raP:U≠P:=fun e=>pA;have hrr:=J.ne;have lof:=J.av (q:=rf) aa;have loa:=J.av (q:=U) aa;have e1:(rf == H.next)=false:=ay aa;have e2:(rf == H.next+1)=false:=ay aa;have e3:(rf == H.next+2)=false:=ay aa;have e4:(H.next == rf)=false:=ay aa;have e5:(rf == P)=false:=ay z;have e6:(P == rf)=false:=ay (Ne.symm z);have e7:(P == H.next)=false:=ay aa;have e8:(P == H.next+1)=false:=ay aa;have e9:(U == H.next)=false:=ay aa;have e10:(U == H.next+1)=false:=ay aa;have hga:=J.ga;have kq:=iC hG.pick k 20 cy;have O:=iC hG.pick a 2 cy;rcases hi with rfl|rfl;all_goals
  simp only[mB]at k8;first|have gf:=J.cZ|have gf:=J.cX
  first|(replace Z:aZ a 2=0:=Z)|(replace Z:aZ a 2=1:=Z)
  rw[Z]at O;dsimp only[fM,lw,fC,kh];have gh0:=@zcb;have gh1:=@zcc;repeat' (first
   |(apply ai ?_;clear hK K)|apply Ry.o ?_|apply bP ?_|(apply cU ?_;first|refine aY (O _) ?_|refine aY (kq _) ?_)|(apply a2 (fun hb F=>?_) (fun hb F=>?_)<;>try(cases hb;done))|apply ae ?_|(apply ah fun K hK=>?_)|(apply aq 17 [(1,3),(1,5),(1,9)] fun K hK=>?_)|(apply aM ?_;try intro _)|(apply aR ?_ ?_<;>clear hK K)|apply aL ?_|apply bu rfl ?_|apply aj ?_)
  .exact di
  first
  |refine⟨rfl,eE,eE,oH J Y j gp S (J.ft (x':=IntKind.wrap .i64 (aZ k 20-1)) (y':=y) (nf:=f.name) ?_ ?_ ?_ ?_) Y ?_ ?_ aa (by show f.sz<_;omega) aa fn gn⟩<;>(first|(rw[aO,au rfl];done)|skip)
   ·simp only[bG];omega
   .intro q _ C V h3;rw[aO,ad V]
   .rw[aO,ad aa];exact J.gf
   .simp only[bG];omega
   .intro q C V;rw[aO,ad (fun e=>by rw[e]at V;omega)]
  |refine⟨rfl,eE,eE,oH J Y j gp S (J.ft (x':=x) (y':=IntKind.wrap .i64 (aZ k 20-1)) (nf:=f.name) ?_ ?_ ?_ ?_) Y ?_ ?_ aa (by show f.sz<_;omega) aa fn gn⟩<;>(first|(rw[aO,au rfl];done)|skip)
   ·simp only[bG];omega
   .intro q _ C V h3;rw[aO,ad V]
   .rw[aO,ad aa];exact J.gf
   .simp only[bG];omega
   .intro q C V;rw[aO,ad (fun e=>by rw[e]at V;omega)]
set_option maxRecDepth 100000 in
theorem zce(hG:zdi V){Hs:Hp}{rf:Nat}{pf lf bf:AV}{vf:qm}{pg lg bg:AV}{vg:qm}(U:AtM i a h k lo m P Hs H Z rf x y f g pf lf bf vf pg lg bg vg E)(hh:h=7):bN prog (aF pls V) 10 285 fM E H (lx lo m P Hs):=by
 obtain⟨⟨pt,b,b',J,Y⟩,hi,hm,loP,j,gp,F,fs,gs,C,gn,hpi,k2,k6,k7,k8,k9,k27⟩:=U;have A:(aF pls V).aj 10=false:=rfl;subst hh;obtain⟨v0,v1,v2,v3,v4,rfl⟩:=dM J.F.len;obtain⟨w0,ct,w2,w3,w4,rfl⟩:=dM J.G.len;obtain⟨z0,z1,z2,z3,z4⟩:=ij J.F.one;have ltA:=J.cS;have ltF:=J.ca;have hlo:=J.cU;have hbb:=J.hb;have o:=J.bF;have lra:=J.cr;have z:rf≠P:=fun e=>xy;have raP:Z≠P:=fun e=>pA;have hrr:=J.ne;have lof:=J.av (q:=rf) aa;have loa:=J.av (q:=Z) aa;have e1:(rf == H.next)=false:=ay aa;have e2:(rf == H.next+1)=false:=ay aa;have e3:(rf == H.next+2)=false:=ay aa;have e4:(H.next == rf)=false:=ay aa;have M:(rf == P)=false:=ay z;have e6:(P == rf)=false:=ay (Ne.symm z);have e7:(P == H.next)=false:=ay aa;have e8:(P == H.next+1)=false:=ay aa;have e9:(Z == H.next)=false:=ay aa;have e10:(Z == H.next+1)=false:=ay aa;rcases hi with rfl|rfl;all_goals
  simp only[mB]at k8;first|have gf:=J.cZ|have gf:=J.cX
  have ag:∀r,cH 5 (v0::v1::v2::v3::v4::r)=some (.agg [v0,v1,v2,v3,v4]):=fun r=>rfl;dsimp only[fM,lw,fC,kh];repeat' (first
   |(apply ai ?_;clear hK K)|apply Ry.o ?_|(apply a2 (fun hb S=>?_) (fun hb S=>?_)<;>try(cases hb;done))|apply ae ?_|(apply ah fun K hK=>?_)|apply aj ?_)
  refine qa ?_;refine a4 ?_ (zbR hG.me hG.mei (n:=14) aa J.F.vw (by simp only[Fu.sz]at fs;omega) k a);rintro _ H5 ⟨rfl,O⟩;have hes:=Df f.value k a;have hr5:=Db f.value k a C.2.2;generalize fH f.value k a=M at *;rw[jm];have gr:=(O.out rf (show ¬pt rf=b+3 by omega)).trans gf;have n5:=O.next
  dsimp only[a0];repeat' (first
   |(apply ai ?_;clear hK K)|apply Rx.o ?_|apply aN ?_|apply ae ?_|(apply ah fun K hK=>?_)|apply aj ?_)
  refine⟨rfl,eE,eE,oH J Y j gp F (J.e4 (H':=_) (n':=14) (vf':=[.int .i64 M.ag,.int .i64 M.n,.ae M.name,.int .i64 M.op,.ai (M.ak.map Ex.cells)]) M ?_ aa ?_ ?_ rfl rfl (GL (n:=13) M)) ?_ ?_ ?_ aa ?_ aa ⟨C.1,C.2.1,hr5⟩ gn⟩
  .simp only[bG];omega
  .intro q _ h1 I h3;rw[aO,ad I];exact O.out q h3
  .rw[aO,au rfl];rfl
  .show(if _ then _ else _)=0;rw[ad aa];exact Y
  .simp only[bG];omega
  .intro q h1 I;rw[aO,ad (fun e=>by rw[e]at I;omega)];exact O.out q (show ¬pt q=b+3 by omega)
  .simp only[Fu.sz]at fs⊢;omega
end
section
def tyMuQe.tyF:=ac @dF (ac @cI (ac @oX (ac @cY (ac @fg (ac @fh (ac @eL (ac @dW (ac @dR (ac @dX (ac @dy (ac @ge (ac @tm (ac @iW (ac @eD (ac @pT (ac @oV (@OQ)))))))))))))))))
open tyMuQe
theorem Pp:∀(l:qt) (i:Nat) (e:St),i<l.length->a6 (l.set i e)<=a6 l+e.sz
 |[],_,_,h=>by simp at h
 |x::l,0,e,_=>by rw[List.set_cons_zero,a6,a6];omega
 |x::l,i+1,e,h=>by
  have:=Pp l i e fQ;rw[BF,a6,a6];omega
def zcf(e:St):cJ S (n+1) H e.cells e.cells:=(dT.eO [e]).1.2
def zcg{c u w:AV}(h:cV S n H c u)(e:bW m u=w)(J:(∃k x,w=.int k x)\/(∃s,w=.ae s)\/∃l,w=.ai l):AV.one c=true:=by
 cases n with
 |zero=>exact h.elim
 |succ n=>
  cases c with
  |agg cs=>
   obtain⟨C,_,rfl⟩:=h;cases m<;>rcases J with⟨_,_,rfl⟩|⟨_,rfl⟩|⟨_,rfl⟩<;>simp[bW]at e
  |aW cs=>
   obtain⟨_,rfl⟩:=h;cases m<;>rcases J with⟨_,_,rfl⟩|⟨_,rfl⟩|⟨_,rfl⟩<;>simp[bW]at e
  |_=>first|rfl|(obtain⟨_,rfl⟩:=h;cases m<;>rcases J with⟨_,_,rfl⟩|⟨_,rfl⟩|⟨_,rfl⟩<;>simp[bW]at e)
theorem Pq{S:Nat->Prop}{n m:Nat}{H:Hp}:∀{cs Z A:qm},cP (cV S n H) cs Z->Z.map (bW m)=A->(∀w∈A,(∃k x,w=.int k x)\/(∃s,w=.ae s)\/∃l,w=.ai l)->cs.all AV.one=true
 |[],_,_,_,_,_=>rfl
 |c::cs,u::Z,A,h,e,hw=>by
  subst e;rw[r4,zcg (m:=m) h.1 rfl (hw _ gW),Pq (m:=m) h.2 rfl fun w Y=>hw w (jE _ Y)];rfl
def zch(x:St):∀w∈x.cells,(∃k x,w=AV.int k x)\/(∃s,w=AV.ae s)\/∃l,w=AV.ai l:=by
 rw[l7];intro w J;simp only[fY,nj,pu]at J;rcases J with rfl|rfl|rfl|rfl|rfl|rfl|rfl|rfl|rfl|rfl|rfl|rfl|rfl|rfl|rfl|rfl|rfl<;>simp
theorem Ps{S:Nat->Prop}{n:Nat}{H:Hp}:∀{rows:List qm}{l:qt},dT S n H 17 rows (l.map St.cells)->rows.flatten.all AV.one=true
 |[],[],_=>rfl
 |r::rows,x::l,h=>by
  obtain⟨Z,j,m⟩:=h.1.2;rw[iI,wa,Pq j (m n (aT _)) (zch x),Ps h.2];rfl
def dT.ef{z:Nat}{a b:List qm}(h:dT S n H z a b)(I:H.next<=H'.next)(m:∀k,S k->k<H.next->sr (H.get k) (H'.get k)):dT S n H' z a b:=cP.mono (fun x y k=>⟨k.1,k.2.frame (fun _ h=>h) I m⟩) h
set_option maxRecDepth 100000 in
theorem zP{lG:qu}(hG:zdi lG){Hs:Hp}{ra rf:Nat}{pf lf bf:AV}{vf:qm}{pg lg bg:AV}{vg:qm}(hat:AtM i a h k lo m P Hs H ra rf x y f g pf lf bf vf pg lg bg vg E)(hh:12<=h/\h<=16):bN prog (aF pls lG) 10 285 fM E H (lx lo m P Hs):=by
 obtain⟨⟨pt,b,b',J,F⟩,hi,hm,loP,ltP,gp,old,fs,gs,fn,gn,hpi,k2,k6,k7,k8,k9,k27⟩:=hat;have hkeep:(aF pls lG).aj 10=false:=rfl
 skip
 obtain⟨v0,v1,v2,v3,v4,rfl⟩:=dM J.F.len;obtain⟨w0,ct,w2,w3,w4,rfl⟩:=dM J.G.len;obtain⟨z0,z1,z2,z3,z4⟩:=ij J.F.one;have ltA:=J.cS;have ltF:=J.ca;have hlo:=J.cU;have hbb:=J.hb;have lrf:=J.bF;have lra:=J.cr;have rfP:rf≠P:=fun e=>sH;have raP:ra≠P:=fun e=>pA;have hrr:=J.ne;have lof:=J.av (q:=rf) aa;have loa:=J.av (q:=ra) aa;have e1:(rf == H.next)=false:=ay aa;have e2:(rf == H.next+1)=false:=ay aa;have e3:(rf == H.next+2)=false:=ay aa;have e4:(H.next == rf)=false:=ay aa;have e5:(rf == P)=false:=ay rfP;have Y:(P == rf)=false:=ay (Ne.symm rfP);have e7:(P == H.next)=false:=ay aa;have e8:(P == H.next+1)=false:=ay aa;have e9:(ra == H.next)=false:=ay aa;have e10:(ra == H.next+1)=false:=ay aa;have q1:¬h=1:=aa;have q2:¬h=2:=aa;have q3:¬h=3:=aa;have q4:¬h=4:=aa;have q5:¬h=5:=aa;have q6:¬h=6:=aa;have q7:¬h=7:=aa;have q8:¬h=8:=aa;have q9:¬h=9:=aa;have q10:¬h=10:=aa;have q11:¬h=11:=aa;have q17:¬h=17:=aa;have q18:¬h=18:=aa;obtain⟨N,hN⟩:∃N,f.body.length=N:=⟨_,rfl⟩;have hNl:N<2^30:=by have j:=mS f.body;simp only[Fu.sz]at fs;omega
 have hlen:∀H,gj prog H 67 bf=some (.int .i64 N):=fun H=>by have:=J.F.bo.len (P:=prog) (H':=H) underlying67;rw[ec,hN]at this;exact this
 obtain⟨o1,o2⟩:=J.F.bo.one;have hq2:(2:Int)≠0:=cy;have kpn:∀n:Int,(0:Int)<N->∀H,aU prog (aF pls lG) 25 [.int .i64 n,.int .i64 (N:Int)] H fun v H'=>v=.int .i64 (aZ n N)/\H'=H:=fun n h H=>iC hG.pick n N aa H;rcases hi with rfl|rfl;all_goals
  simp only[mB]at k8;first|have gf:=J.cZ|have gf:=J.cX
  dsimp only[fM,lw,fC,kh];repeat' (first
   |(apply ai ?_;clear hK K)|apply Ry.o ?_|(apply cU ?_;first|refine aY (kpn _ aa _) ?_)|(apply a2 (fun hb hbp=>?_) (fun hb hbp=>?_)<;>try(cases hb;done))|apply ae ?_|(apply ah fun K hK=>?_)|(apply aq 50 [(3,14),(3,16),(8,14),(11,14)] fun K hK=>?_)|(apply aM ?_;try intro _)|(apply aR ?_ ?_<;>clear hK K)|apply aL ?_|apply bu rfl ?_|apply aj ?_|apply ak ?_)
  all_goals (try exact⟨rfl,eE,eE,sG.of J F ltP gp old aa aa aa fn gn⟩)
  all_goals
   have hNp:0<N:=aa;obtain⟨k1,rfl⟩:∃k1,N=k1+1:=⟨N-1,aa⟩;obtain⟨q0,imm0,rows,rfl,s0,xG,g0,i0,I⟩:∃q S rows,bf=.sl q 0 (k1+1) 17/\pt q=b+2/\q<H.next/\H.get q=some (.cells rows.flatten S true)/\S<=rows.flatten.length/\dT (fun k=>pt k=b+2/\k≠q) 14 H 17 rows (f.body.map St.cells):=by
    rcases J.F.bo with⟨_,e⟩|⟨q,S,rows,e,j,Z,h3,h4,h5⟩
    .have:=lB List.length e;rw[ec,hN]at this;simp at this
    .exact⟨q,S,rows,by rw[e,show rows.length=(f.body.map St.cells).length from cP.len h5,ec,hN],j,Z,h3,h4,h5⟩
   have hrl:rows.length=k1+1:=by rw[show rows.length=(f.body.map St.cells).length from cP.len I,ec,hN]
   have U:=dT.len I;have hfl:rows.flatten.length=(k1+1)*17:=by rw[vz U,hrl]
   have hone:=Ps I;have e11:(q0 == H.next)=false:=ay aa;have hx:fc (H.alloc qc) 17 (.sl q0 0 (k1+1) 17)=some (k1+1,rows.flatten):=by
    have:=pN (H:=H.alloc qc) (cs:=rows.flatten) (r:=q0) (o:=0) (n:=k1+1) (z:=17) (s:=17) (by rw[eX xG];exact g0) (by simp[hfl]);rw[this,gV,iR aa]
   have b7:=zbu (P:=prog) (t:=67) underlying67 oY r1 NM gB aA (H:=H.alloc qc) (q:=H.next) (m:=0) (k:=k1) (cs:=[]) (row:=rows.flatten) (v:=.sl q0 0 (k1+1) 17) fN rfl hx hone OV OV;generalize O:((H.alloc qc).az H.next).alloc (.cells ([]++rows.flatten) 0 true)=H4 at b7;have n4:H4.next=H.next+2:=by rw[<-O];rfl
   have o4:∀q,q<H.next->H4.get q=H.get q:=fun q j=>by rw[<-O,aP,ad (by simp only[tc,br];omega),gm,ad aa,eX j]
   have g4:H4.get (H.next+1)=some (.cells rows.flatten 0 true):=by rw[<-O,aP,au gB];rfl
   clear O;simp only[br,bR]at b7;have gf4:=(o4 rf ltF).trans gf;generalize hq:(aZ (bA (a.tdiv 2)) ((k1+1:Nat):Int))=qn at *;have hqr:=fb (n:=bA (a.tdiv 2)) (m:=((k1+1:Nat):Int)) aa aa;rw[hq]at hqr;obtain⟨C,rfl⟩:∃C:Nat,qn=(C:Int):=⟨qn.toNat,aa⟩;have hqi:C<k1+1:=aa;have hix:∀r,eS prog 67 (.sl r 0 (k1+1) 17) (.int .i64 (C:Int))=some (.ptr r (C*17)):=fun r=>by
    have:=OP r (k1+1) (n:=(C:Int)) aa aa;rw[yD]at this;exact this
   have hrq:rows[C]?=some rows[C]:=bt aa;have hbq:f.body[C]?=some f.body[C]:=bt aa;have hag:=GE U hrq;have e12:(H.next+1 == rf)=false:=ay aa;have hle:C*17+17<=rows.flatten.length:=aa;repeat' (first
    |(apply ai ?_;clear hK K)|apply Rx.o ?_|apply aN ?_|apply ae ?_|(apply ah fun K hK=>?_)|(apply aq 50 [(3,14),(3,16),(8,14),(11,14)] fun K hK=>?_)|(apply aM ?_;try intro _)|(apply aR ?_ ?_<;>clear hK K)|apply aL ?_|apply bu rfl ?_|apply aj ?_|apply ak ?_)
   refine qa ?_;have A:cJ (fun q=>pt q=b+2/\q≠q0) 14 H rows[C] (f.body[C]).cells:=(cP.get I hrq (by rw[ev,hbq];rfl)).2;generalize V:Hp.set H4 rf _=H5;have n5:H5.next=H.next+2:=by rw[<-V];exact n4
   have o5:∀q,q<H.next->q≠rf->H5.get q=H.get q:=fun q j Z=>by rw[<-V,aO,ad Z,o4 q j]
   have g5:H5.get (H.next+1)=some (.cells rows.flatten 0 true):=by rw[<-V,aO,ad aa];exact g4
   have gf5:=show H5.get rf=some _ by rw[<-V,aO,au rfl]
   have hrow5:=A.ax (S':=fun q=>pt q=b+2/\q<H.next) (fun k j Z=>⟨Z.1,j⟩) (by omega:H.next<=H5.next) (fun k j Z=>o5 k Z (fun e=>by rw[e]at j;omega));have hbs:=l9 (ek (by omega:C<f.body.length));refine a4 ?_ (zbT hG.ms hG.msi (n:=14) aa hrow5 (by simp only[Fu.sz]at fs;omega) k a);rintro _ H6 ⟨rfl,hI⟩;have g6:=(hI.out (H.next+1) (fun h=>aa)).trans g5;have gf6:=(hI.out rf (fun h=>aa)).trans gf5;have n6:=hI.next
   have hes:=Pn f.body[C] k a;have hr6:=O7 f.body[C] k a (GS fn.2.1 _ (ek _));generalize iQ f.body[C] k a=Y at *;rw[l7];dsimp only[a0];clear hfl;repeat' (first
    |(apply ai ?_;clear hK K)|apply Rx.o ?_|apply aN ?_|apply ae ?_|(apply ah fun K hK=>?_)|(apply aq 50 [(3,14),(3,16),(8,14),(11,14)] fun K hK=>?_)|(apply aM ?_;try intro _)|(apply aR ?_ ?_<;>clear hK K)|apply aL ?_|apply bu rfl ?_|apply aj ?_|apply ak ?_)
   .exact di
   have hsp:=GD (w:=[.int .i64 Y.ag,.ae Y.name,.ae Y.to,.int .i64 Y.n,.int .i64 Y.aL.ag,.int .i64 Y.aL.n,.ae Y.aL.name,.int .i64 Y.aL.op,.ai (Y.aL.ak.map Ex.cells),.int .i64 Y.value.ag,.int .i64 Y.value.n,.ae Y.value.name,.int .i64 Y.value.op,.ai (Y.value.ak.map Ex.cells),.ai (Y.args.map Ex.cells),.ai (Y.a1.map St.cells),.ai (Y.bh.map St.cells)]) rfl U (i:=C) aa;rw[Es]at hsp;generalize M:Hp.set H6 (H.next+1) _=H7;have n7:H7.next=H.next+2:=by rw[<-M,bG];omega
   have o7:∀q,q≠H.next+1->H7.get q=H6.get q:=fun q j=>by rw[<-M,aO,ad j]
   have g7:H7.get (H.next+1)=some (.cells (rows.set C Y.cells).flatten 0 true):=by rw[<-M,aO,au rfl,l7];exact lB (fun c=>some (HB.cells c 0 true)) hsp
   clear M hsp V;refine⟨rfl,eE,eE,oH J F ltP gp old (J.fk (H':=H7) (n':=14) (bf':=.sl (H.next+1) 0 (k1+1) 17) (f.body.set C Y) ?_ aa ?_ ?_ ?_) ?_ ?_ ?_ aa ?_ aa ⟨fn.1,zbQ fn.2.1 hr6,fn.2.2⟩ gn⟩
   .omega
   .intro q _ j Z h3;rw[o7 q aa,hI.out q (fun h=>h3 h.1),o5 q j Z]
   .rw[o7 rf aa,gf6];rfl
   .refine .inr ⟨H.next+1,0,rows.set C Y.cells,by rw[Cm,hrl],au aa,aa,g7,dx _,?_⟩;have hr7:dT (fun k=>(if H.next<=k then b+2 else pt k)=b+2/\k≠H.next+1) 14 H7 17 rows (f.body.map St.cells):=by
     have h5:=I.ax (S':=fun k=>pt k=b+2/\k<H.next) (fun k j Z=>⟨Z.1,j⟩) (by omega:H.next<=H5.next) (fun k j Z=>o5 k Z (fun e=>by rw[e]at j;omega));have h6:=h5.ef (H':=H6) aa fun k _ _=>hI.same k;exact h6.ax (fun k j Z=>⟨by rw[ad aa];exact Z.1,aa⟩) aa fun k j Z=>o7 k (by have:=j.2;omega)
    rw[uM];exact cP.set hr7 ⟨St.aN _,zcf Y⟩
   .show(if _ then _ else _)=0;rw[ad aa];exact F
   .omega
   .intro q j Z;rw[o7 q aa,hI.out q (fun h=>aa),o5 q j (fun e=>by rw[e]at Z;omega)]
   .have hss:=Pp f.body C Y aa;simp only[Fu.sz]at fs⊢;omega
end
section
def tyMuQf.tyF:=ac @dF (ac @cI (ac @oX (ac @cY (ac @fg (ac @fh (ac @eL (ac @dW (ac @dR (ac @dX (ac @dy (ac @ge (ac @tm (ac @iW (ac @eD (ac @pT (ac @Pc (ac @xw (@lS))))))))))))))))))
open tyMuQf
def zci(s:qr)(n:Int):cQ prog 75 [(0,.ae s),(1,.int .i64 n)]=some (.agg [.ae s,.int .i64 n]):=NS s n
def zcj(H:Hp)(s:qr)(n:Int):dc prog H 22 1 [(0,.agg [.ae s,.int .i64 n])]=some (.sl H.next 0 1 2,H.alloc (.cells [.ae s,.int .i64 n] 0 true)):=aA
def zck(s:qr):cQ prog 72 [(0,.ae s)]=some (.agg [.ae s,.ab,.ab,.ab,.int .i64 0,.int .i64 0,.ae [],.int .i64 0,.ab]):=aA
def zcl(s:qr)(a b c d e:AV):cQ prog 72 [(0,.ae s),(4,.agg [a,b,c,d,e])]=some (.agg [.ae s,.ab,.ab,.ab,a,b,c,d,e]):=aA
def Pt(H:Hp)(gM b7 ci bX bQ dt fD hY Y:AV):dc prog H 23 1 [(0,.agg [gM,b7,ci,bX,bQ,dt,fD,hY,Y])]=some (.sl H.next 0 1 9,H.alloc (.cells [gM,b7,ci,bX,bQ,dt,fD,hY,Y] 0 true)):=aA
def zcm(H:Hp)(a b:qr):dc prog H 66 2 [(0,.ae a),(1,.ae b)]=some (.sl H.next 0 2 1,H.alloc (.cells ([a,b].map .ae) 0 true)):=aA
def Pu(s:qr)(k x o:Int)(nm:qr):cJ S (n+1) H [.ae s,.ab,.ab,.ab,.int .i64 k,.int .i64 x,.ae nm,.int .i64 o,.ab] (Fu.mk s [] [] [] (.mk k x nm o [])).cells:=
 CM (p:=.ab) (l:=.ab) (b:=.ab) (v:=[.int .i64 k,.int .i64 x,.ae nm,.int .i64 o,.ab]) s rfl .ab .ab .ab (mr k x o nm)
def Pv{N:Nat}{Hb:Hp}{V:AV}{fs:qG}(h:dU (fun q=>lo<=q/\q≠r/\q≠P) n H 9 V (fs.map Fu.cells))(z:lo<=H.next)(A:P<H.next)(j:r<H.next)(hn:H.next<=Hb.next)(o:∀q,q<H.next->Hb.get q=H.get q){t:Nat}{row:qm}{w:Fu}(hg:Hb.get t=some (.cells row 0 true))(K:row.length=9)(Z:row.all AV.one=true)(hw:∀H',cJ (fun q=>H.next<=q/\q<Hb.next) n H' row w.cells)(Y:fs.length=N)(hl:N<2^30):
 ∃H',dh prog false Hb 23 23 V (.sl t 0 1 9)=some (.sl Hb.next 0 (N+1) 9,H')/\H'.next=Hb.next+1/\(∀q,q<H.next->(q<lo\/q=r\/q=P)->H'.get q=H.get q) /\
  ∀U:Hp,U.next=H'.next->(∀q,q≠P->U.get q=H'.get q)->dU (fun q=>lo<=q/\q≠r/\q≠P) n U 9 (.sl Hb.next 0 (N+1) 9) ((fs++[w]).map Fu.cells):=by
 classical
 have h':dU (fun q=>(if lo<=q/\q≠r/\q≠P then 1 else 0)=1) n H 9 V (fs.map Fu.cells):=h.aj (fun q _ F=>au F) (aT _) fun _ _ _=>rfl;have O:∃S,cn prog 72=some S/\S.length=9:=⟨_,I7,rfl⟩;obtain⟨S,O,M⟩:=O;obtain⟨H',m,C,b7,b1,b2,b3,ci,bX,bQ⟩:=zH (P:=prog) (t:=23) underlying23 ED I6 O M aA h' hn (fun q J _=>o q J) hg K Z OW OW;rw[ec,Y]at b7 bQ b1 b2;refine⟨H',b7,ci,fun q h1 h2=>?_,fun U J I=>?_⟩
 .rw[bX q aa (.inr (by rw[ad aa];decide)),o q h1]
 .have:=bQ U P row w.cells aa (fun q h6 _=>I q h6) (by rw[ad (fun h=>h.2.2 rfl)];decide) A (by rw[I _ aa];exact b3) K (hw Hb);rw[kT,el,wE];refine this.aj (fun q _ F=>?_) (aT _) fun _ _ _=>rfl;by_cases hc:H.next<=q
  .exact⟨aa,aa,aa⟩
  .rw[ad hc]at F;by_cases hd:lo<=q/\q≠r/\q≠P
   .exact hd
   .rw[ad hd]at F;cases F
theorem GU:∀a b:qG,dY (a++b)=dY a+dY b
 |[],b=>by rw[jO,dY];omega
 |x::a,b=>by rw[jW,dY,dY,GU a b];omega
theorem Pw:∀a b:List Ar,ez (a++b)=ez a+ez b
 |[],b=>by rw[jO,ez];omega
 |x::a,b=>by rw[jW,ez,ez,Pw a b];omega
def GV(h1:f.sz<2^24)(h2:g.sz<2^24)(A:oG f)(O:oG g):(gH i x y f g).sz<2^26/\(∀o∈(gH i x y f g).funcs,o.name≠nA)/\(∀a∈(gH i x y f g).af,a.name≠nA)/\∀o∈(gH i x y f g).funcs,cK o.body/\dO o.value:=by
 refine⟨?_,?_,?_,?_⟩
 .cases i<;>simp only[gH,rD,zG,Pr.sz,ez,dY,nL]<;>omega
 .intro o z;cases i<;>simp only[gH,rD,fY,nj,pu]at z <;>rcases z with rfl|rfl<;>first|exact A.1|exact O.1
 .intro a V;cases i<;>simp only[gH,rD,zG,fY,nj,pu]at V<;>rcases V with rfl|rfl<;>(intro e;cases e)
 .intro o z;cases i<;>simp only[gH,rD,fY,nj,pu]at z <;>rcases z with rfl|rfl<;>first|exact A.2|exact O.2
def Px{l:qG}(h:p.sz<2^26/\(∀o∈p.funcs,o.name≠nA)/\(∀a∈p.af,a.name≠nA)/\∀o∈p.funcs,cK o.body/\dO o.value)(h1:dY l<2^20)(h2:∀o∈l,oG o):zdz ⟨p.af,p.funcs++l⟩:=by
 refine⟨?_,fun f m=>?_,h.2.2.1,fun f m=>?_⟩
 .have A:=h.1;simp only[Pr.sz,GU]at A⊢;omega
 .rcases nN.1 m with m|m
  .exact h.2.1 f m
  .exact(h2 f m).1
 .rcases nN.1 m with m|m
  .exact h.2.2.2 f m
  .exact(h2 f m).2
def zcn{a:Ar}(h:p.sz<2^26/\(∀o∈p.funcs,o.name≠nA)/\(∀a∈p.af,a.name≠nA)/\∀o∈p.funcs,cK o.body/\dO o.value)(h1:a.name.length<=17)(h2:a.name≠nA):zdz ⟨p.af++[a],p.funcs⟩:=by
 refine⟨?_,h.2.1,fun f m=>?_,h.2.2.2⟩
 .have A:=h.1;simp only[Pr.sz,Pw,ez]at A⊢;omega
 .rcases nN.1 m with m|m
  .exact h.2.2.1 f m
  .simp at m;subst m;exact h2
def oJ(j:Nat):qG:=(List.range j).map fun j=>⟨[104,UInt8.ofNat (97+j)],[],[],[],.mk 1 0 [] 0 []⟩
def Py(j:Nat):oJ (j+1)=oJ j++[⟨[104,UInt8.ofNat (97+j)],[],[],[],.mk 1 0 [] 0 []⟩]:=by simp[oJ,GO]
def zco(j:Nat):(oJ j).length=j:=by simp[oJ]
theorem Pz:∀j,dY (oJ j)<=30*j
 |0=>by simp[oJ,dY]
 |j+1=>by
  have:=Pz j;rw[Py,GU];simp only[dY,Fu.sz,db,a6,Ex.sz,cF,nL];omega
def zcp(j:Nat):∀f∈oJ j,oG f:=by
 intro f m;simp only[oJ,l3,nO]at m;obtain⟨k,_,rfl⟩:=m;exact⟨fun e=>by simp[nA]at e,by simp[cK],by simp[dO,dE,pB]⟩
theorem PA:(gH i x y f g).funcs.length=2:=by cases i<;>rfl
theorem GW:(gH i x y f g).af.length=2:=by cases i<;>rfl
set_option maxRecDepth 100000 in
theorem zcq(hG:zdi M){Hs:Hp}{rf:Nat}{pf lf bf:AV}{vf:qm}{pg lg bg:AV}{vg:qm}(I:AtM i a h k lo m P Hs H Z rf x y f g pf lf bf vf pg lg bg vg E)(hh:h=6):bN prog (aF pls M) 10 285 fM E H (lx lo m P Hs):=by
 obtain⟨⟨pt,b,b',J,hPt⟩,hi,hm,loP,V,gp,old,fs,gs,fn,gn,hpi,k2,k6,k7,k8,k9,k27⟩:=I;have hkeep:(aF pls M).aj 10=false:=rfl;subst hh;obtain⟨v0,v1,v2,v3,v4,rfl⟩:=dM J.F.len;obtain⟨w0,ct,w2,w3,w4,rfl⟩:=dM J.G.len;obtain⟨z0,z1,z2,z3,z4⟩:=ij J.F.one;have ltA:=J.cS;have ltF:=J.ca;have hlo:=J.cU;have hbb:=J.hb;have lrf:=J.bF;have lra:=J.cr;have U:rf≠P:=fun e=>sH;have A:Z≠P:=fun e=>pA;have hrr:=J.ne;have lof:=J.av (q:=rf) aa;have loa:=J.av (q:=Z) aa;have e1:(rf == H.next)=false:=ay aa;have e2:(rf == H.next+1)=false:=ay aa;have e3:(rf == H.next+2)=false:=ay aa;have e4:(H.next == rf)=false:=ay aa;have e5:(rf == P)=false:=ay U;have e6:(P == rf)=false:=ay (Ne.symm U);have e7:(P == H.next)=false:=ay aa;have e8:(P == H.next+1)=false:=ay aa;have e9:(Z == H.next)=false:=ay aa;have e10:(Z == H.next+1)=false:=ay aa;have hr:=fb (n:=k) (m:=5) aa aa;have hr0:=hr.1;have hnm:=uh xC (n:=aZ k 5) CY;have hix:=fun r=>ug r 5 hr.1 aa;have hbs:=fun H=>GK H [97] [99] [120] [102] [111,117,116];change ∀H,dc _ H _ _ _=some (_,H.alloc (.cells (xC.map .ae) 0 true))at hbs;have z:=GV (i:=i) (x:=x) (y:=y) fs gs fn gn;have hA:=(J.eJ.aj (S':=fun q=>lo<=q/\q=Z) (fun q _ F=>⟨aa,F⟩) (aT _) fun _ _ _=>rfl).up (show 14+1<=50 by omega);have hFn:=(J.eY.aj (S':=fun q=>lo<=q/\q≠Z/\q≠P) (fun q _ F=>⟨J.av F.1,F.2,fun e=>F.1 (by rw[e];exact hPt)⟩) (aT _) fun _ _ _=>rfl).up (show 14+1<=50 by omega);have hnl:=uk (l:=xC) cy (aZ k 5).toNat;have hnz:=GT (l:=xC) cy (aZ k 5).toNat;generalize hs:xC.getD (aZ k 5).toNat []=s at *
 classical
 have h':dU (fun q=>(if q=Z then 1 else 0)=1) 15 H 2 (.sl Z 0 2 2) ((gH i x y f g).af.map Ar.cells):=J.eJ.aj (fun q _ F=>au F) (aT _) fun _ _ _=>rfl;obtain⟨zz,hz,hzz⟩:∃zz,cn prog 75=some zz/\zz.length=2:=⟨_,I9,rfl⟩;obtain⟨H',flat,imm',b7,b1,b2,b3,ci,bX,bQ⟩:=zH (P:=prog) (t:=22) underlying22 EE I8 hz hzz aA h' (Hb:=(H.alloc (.cells (xC.map .ae) 0 true)).alloc (.cells [.ae s,.int .i64 3] 0 true)) bY (fun q j _=>C9) (r:=H.next+1) (row:=[.ae s,.int .i64 3]) po rfl rfl (by rw[ec,GW,show dd=70368744177664 from rfl];decide +kernel) (by rw[ec,GW,show dd=70368744177664 from rfl];decide);rw[ec,GW]at b7 bQ b1 b2;simp only[br,gU,Nat.reduceAdd]at b7 ci bX bQ b3;have fr:∀q,q<H.next->q≠Z->H'.get q=H.get q:=fun q j Y=>by
  rw[bX q aa (.inr (by rw[ad Y];decide)),eX bY,eX j]
 have gr:=(fr P V (Ne.symm A)).trans gp;rcases hi with rfl|rfl;all_goals
  simp only[mB]at k8;first|have gf:=J.cZ|have gf:=J.cX
  dsimp only[fM,lw,fC,kh];have gh0:=@zci;have gh1:=@zcj;repeat' (first
   |(apply ai ?_;clear hK K)|apply Ry.o ?_|apply bP ?_|(apply cU ?_;first|refine aY (iC hG.pick k 5 cy _) ?_)|(apply a2 (fun hb o=>?_) (fun hb o=>?_)<;>try(cases hb;done))|apply ae ?_|(apply ah fun K hK=>?_)|(apply aq 19 [(1,4),(1,9),(2,4),(2,9),(6,9),(8,9)] fun K hK=>?_)|(apply aM ?_;try intro _)|(apply aR ?_ ?_<;>clear hK K)|apply aL ?_|apply bu rfl ?_|apply aj ?_)
  .exact di
  generalize C:Hp.set H' P _=O;have n7:O.next=H'.next:=by rw[<-C];rfl
  have S:∀q,q≠P->O.get q=H'.get q:=fun q F=>by rw[<-C,aO,ad F]
  have g7:=show O.get P=some _ by rw[<-C,aO,au rfl]
  have hA7:=bQ O P [.ae s,.int .i64 3] [.ae s,.int .i64 3] aa (fun q j _=>S q j) (by rw[ad (Ne.symm A)];decide) V (by rw[S _ aa];exact b3) rfl (.cons (.ae _) (.cons (.int _ _) .nil));clear C;refine⟨rfl,eE,eE,_,_,⟨(gH _ x y f g).af++[⟨s,3⟩],(gH _ x y f g).funcs⟩,fun q=>H.next<=q\/q=Z,g7,aa,⟨aa,?_,?_,zcn z hnl hnz⟩,?_⟩
  .rw[kT];refine(hA7.aj (fun q j Y=>?_) (aT _) fun _ _ _=>rfl).up aa;by_cases hc:H.next<=q
   .exact⟨aa,.inl hc⟩
   .rw[ad hc]at Y;by_cases hd:q=Z
    .exact⟨aa,.inr hd⟩
    .rw[ad hd]at Y;cases Y
  .exact hFn.aj (fun q j Y=>⟨Y.1,fun h=>h.elim (fun h=>aa) Y.2.1,Y.2.2⟩) aa fun q j Y=>by rw[S q j.2.2,fr q Y j.2.1]
  .intro q j;rw[S q aa,fr q aa aa];exact old q j
set_option maxRecDepth 100000 in
theorem zcr{O:qu}(hG:zdi O){Hs:Hp}{rf:Nat}{pf lf bf:AV}{vf:qm}{pg lg bg:AV}{vg:qm}(M:AtM i a h k lo m P Hs H Z rf x y f g pf lf bf vf pg lg bg vg E)(hh:h=17):bN prog (aF pls O) 10 285 fM E H (lx lo m P Hs):=by
 obtain⟨⟨pt,b,b',J,A⟩,hi,hm,loP,V,gp,o,fs,gs,fn,gn,hpi,k2,k6,k7,k8,k9,k27⟩:=M;have hkeep:(aF pls O).aj 10=false:=rfl;subst hh;obtain⟨v0,v1,v2,v3,v4,rfl⟩:=dM J.F.len;obtain⟨w0,ct,w2,w3,w4,rfl⟩:=dM J.G.len;obtain⟨z0,z1,z2,z3,z4⟩:=ij J.F.one;have ltA:=J.cS;have ltF:=J.ca;have hlo:=J.cU;have hbb:=J.hb;have lrf:=J.bF;have lra:=J.cr;have U:rf≠P:=fun e=>sH;have raP:Z≠P:=fun e=>pA;have hrr:=J.ne;have lof:=J.av (q:=rf) aa;have loa:=J.av (q:=Z) aa;have e1:(rf == H.next)=false:=ay aa;have e2:(rf == H.next+1)=false:=ay aa;have e3:(rf == H.next+2)=false:=ay aa;have e4:(H.next == rf)=false:=ay aa;have e5:(rf == P)=false:=ay U;have e6:(P == rf)=false:=ay (Ne.symm U);have e7:(P == H.next)=false:=ay aa;have e8:(P == H.next+1)=false:=ay aa;have e9:(Z == H.next)=false:=ay aa;have e10:(Z == H.next+1)=false:=ay aa;have hr:=fb (n:=k) (m:=2) aa aa;have hr0:=hr.1;have hnm:=uh xD (n:=aZ k 2) (by show _<2;omega);have hix:=fun r=>ug r 2 hr.1 aa;have hbs:=fun H=>zcm H [102] [104];change ∀H,dc _ H _ _ _=some (_,H.alloc (.cells (xD.map .ae) 0 true))at hbs;have z:=GV (i:=i) (x:=x) (y:=y) fs gs fn gn;have hA:=(J.eJ.aj (S':=fun q=>lo<=q/\q=Z) (fun q _ F=>⟨aa,F⟩) (aT _) fun _ _ _=>rfl).up (show 14+1<=50 by omega);have hFn:=(J.eY.aj (S':=fun q=>lo<=q/\q≠Z/\q≠P) (fun q _ F=>⟨J.av F.1,F.2,fun e=>F.1 (by rw[e];exact A)⟩) (aT _) fun _ _ _=>rfl).up (show 14+1<=50 by omega);have hnl:=uk (l:=xD) cy (aZ k 2).toNat;have hnz:=GT (l:=xD) cy (aZ k 2).toNat;generalize hs:xD.getD (aZ k 2).toNat []=s at *;obtain⟨H',b7,ci,bX,bQ⟩:=Pv hFn hlo V ltA (Hb:=(H.alloc (.cells (xD.map .ae) 0 true)).alloc (.cells [.ae s,.ab,.ab,.ab,.int .i64 0,.int .i64 0,.ae [],.int .i64 0,.ab] 0 true)) bY (fun q j=>C9) (t:=H.next+1) (row:=[.ae s,.ab,.ab,.ab,.int .i64 0,.int .i64 0,.ae [],.int .i64 0,.ab]) (w:=⟨s,[],[],[],.mk 0 0 [] 0 []⟩) po rfl rfl (fun H'=>Pu (n:=49) s 0 0 0 []) PA aa;simp only[br,gU,Nat.reduceAdd]at b7 ci bX bQ;have gr:=(bX P V (.inr (.inr rfl))).trans gp;rcases hi with rfl|rfl;all_goals
  simp only[mB]at k8;first|have gf:=J.cZ|have gf:=J.cX
  dsimp only[fM,lw,fC,kh];have gh0:=@zck;have gh1:=@Pt;repeat' (first
   |(apply ai ?_;clear hK K)|apply Ry.o ?_|apply bP ?_|(apply cU ?_;first|refine aY (iC hG.pick k 2 cy _) ?_)|(apply a2 (fun hb I=>?_) (fun hb I=>?_)<;>try(cases hb;done))|apply ae ?_|(apply ah fun K hK=>?_)|(apply aq 52 [(1,4),(1,9),(2,4),(2,9),(6,9),(8,9)] fun K hK=>?_)|(apply aM ?_;try intro _)|(apply aR ?_ ?_<;>clear hK K)|apply aL ?_|apply bu rfl ?_|apply aj ?_)
  .exact di
  generalize C:Hp.set H' P _=S;have n7:S.next=H'.next:=by rw[<-C];rfl
  have o7:∀q,q≠P->S.get q=H'.get q:=fun q F=>by rw[<-C,aO,ad F]
  have g7:=show S.get P=some _ by rw[<-C,aO,au rfl]
  have hF7:=bQ S n7 o7;clear C;refine⟨rfl,eE,eE,_,_,⟨(gH _ x y f g).af,(gH _ x y f g).funcs++[⟨s,[],[],[],.mk 0 0 [] 0 []⟩]⟩,fun q=>q=Z,g7,aa,⟨Ne.symm raP,?_,hF7,Px z (by simp only[dY,Fu.sz,db,a6,Ex.sz,cF,eg];omega) (by intro f' Y;simp at Y;subst Y;exact⟨hnz,by simp[cK],by simp[dO,dE,pB]⟩)⟩,?_⟩
  .exact hA.aj (fun _ _ h=>h) aa fun q j h2=>by rw[o7 q aa,bX q h2 (.inr (.inl j.2))]
  .intro q j;rw[o7 q aa,bX q aa (.inl j)];exact o q j
set_option maxRecDepth 100000 in
theorem zcs{lG:qu}(hG:zdi lG){Hs:Hp}{Y rf:Nat}{pf lf bf:AV}{vf:qm}{pg lg bg:AV}{vg:qm}(hat:AtM i a h k lo m P Hs H Y rf x y f g pf lf bf vf pg lg bg vg E)(hh:h=18):bN prog (aF pls lG) 10 285 fM E H (lx lo m P Hs):=by
 obtain⟨⟨pt,b,b',J,hPt⟩,hi,hm,loP,ltP,o,old,fs,gs,fn,gn,hpi,k2,k6,k7,k8,k9,k27⟩:=hat;have hkeep:(aF pls lG).aj 10=false:=rfl;subst hh;obtain⟨v0,v1,v2,v3,v4,rfl⟩:=dM J.F.len;obtain⟨w0,ct,w2,w3,w4,rfl⟩:=dM J.G.len;obtain⟨z0,z1,z2,z3,z4⟩:=ij J.F.one;have ltA:=J.cS;have ltF:=J.ca;have hlo:=J.cU;have hbb:=J.hb;have lrf:=J.bF;have lra:=J.cr;have rfP:rf≠P:=fun e=>sH;have raP:Y≠P:=fun e=>pA;have hrr:=J.ne;have lof:=J.av (q:=rf) aa;have loa:=J.av (q:=Y) aa;have e1:(rf == H.next)=false:=ay aa;have e2:(rf == H.next+1)=false:=ay aa;have e3:(rf == H.next+2)=false:=ay aa;have e4:(H.next == rf)=false:=ay aa;have e5:(rf == P)=false:=ay rfP;have e6:(P == rf)=false:=ay (Ne.symm rfP);have e7:(P == H.next)=false:=ay aa;have e8:(P == H.next+1)=false:=ay aa;have e9:(Y == H.next)=false:=ay aa;have e10:(Y == H.next+1)=false:=ay aa;have hpr:=fb (n:=k) (m:=8) aa aa;obtain⟨M,hM⟩:∃M:Nat,aZ k 8=(M:Int):=⟨(aZ k 8).toNat,aa⟩;have hMl:M<8:=aa;have kp:=fun H=>iC hG.pick k 8 cy H;rw[hM]at kp;have z:=GV (i:=i) (x:=x) (y:=y) fs gs fn gn;have hA:=(J.eJ.aj (S':=fun q=>lo<=q/\q=Y) (fun q _ F=>⟨aa,F⟩) (aT _) fun _ _ _=>rfl).up (show 14+1<=50 by omega);have hFn:=(J.eY.aj (S':=fun q=>lo<=q/\q≠Y/\q≠P) (fun q _ F=>⟨J.av F.1,F.2,fun e=>F.1 (by rw[e];exact hPt)⟩) (aT _) fun _ _ _=>rfl).up (show 14+1<=50 by omega);have gp0:=o;clear o;rcases hi with rfl|rfl;all_goals
  simp only[mB]at k8;first|have gf:=J.cZ|have gf:=J.cX
  dsimp only[fM,lw,fC,kh];have o:=gp0;repeat' (first
   |(apply ai ?_;clear hK K)|apply Ry.o ?_|(apply a2 (fun I U=>?_) (fun I U=>?_)<;>try(cases I;done))|apply ae ?_|(apply ah fun K hK=>?_)|apply aj ?_|apply ak ?_|apply ax ?_)
  refine dG [2,6,7,8,9] [] 16 M (fun j E Z=>∃vb,Z.get P=some (.cells [.sl Y 0 2 2,vb] 0 true)/\dU (fun q=>lo<=q/\q≠Y/\q≠P) 50 Z 9 vb (((gH _ x y f g).funcs++oJ j).map Fu.cells)/\(∀q,q<H.next->(q<lo\/q=Y)->Z.get q=H.get q)) eE ⟨.sl rf 0 2 9,o,by rw[show(gH _ x y f g).funcs++oJ 0=(gH _ x y f g).funcs from iS _];exact hFn,fun _ _ _=>rfl⟩ ?_;rintro j E Z hj hcE hrH C hsI ⟨vb,A,S,O⟩;(try simp only[bL,bK,bb,aK,aW,Nat.reduceBEq,Nat.reduceAdd,Nat.reduceLeDiff,tyF, *]at hcE);(try simp only[bL,bK,bb,aK,aW,Nat.reduceBEq,Nat.reduceAdd,Nat.reduceLeDiff,tyF, *]at hrH);(try simp only[br,bG,cR,bR,Nat.reduceAdd]at C);clear o;have hnx:H.next<=Z.next:=by simpa using C
  have f1:(rf == Z.next)=false:=ay aa;have f2:(rf == Z.next+1)=false:=ay aa;have f3:(rf == Z.next+2)=false:=ay aa;have f4:(P == Z.next)=false:=ay aa;have f5:(P == Z.next+1)=false:=ay aa;obtain⟨o1,o2⟩:=S.one;repeat' (first
   |(apply ai ?_;clear hK K)|apply Ry.o ?_|(apply cU ?_;first|refine aY (kp _) ?_)|(apply a2 (fun I U=>?_) (fun I U=>?_)<;>try(cases I;done))|apply ae ?_|(apply ah fun K hK=>?_)|apply aj ?_|apply ak ?_|apply ax ?_)
  .have hlt:j<M:=by omega
   have hw97:IntKind.wrap .i64 (97+(j:Int))=97+(j:Int):=k3 aa aa;have hcv:=fun H=>pT H .i64 (97+(j:Int));generalize hmm:IntKind.wrap .u8 (97+(j:Int))=mm at hcv;have hmc:UInt8.ofNat mm.toNat=UInt8.ofNat (97+j):=by rw[<-hmm];exact Pb aa
   have hg3:(Z.alloc (.cells [.int .u8 mm] 0 true)).get Z.next=some (.cells [.int .u8 mm] 0 true):=fN
   have hcu:=De hg3;rw[hmc]at hcu;have hcat:∀D t,dP prog D .add t (.ae [104]) (.ae [UInt8.ofNat (97+j)])=some (.ae [104,UInt8.ofNat (97+j)]):=fun D t=>II (by simp[dd]);obtain⟨H',b7,ci,bX,bQ⟩:=Pv S aa aa aa (Hb:=(Z.alloc (.cells [.int .u8 mm] 0 true)).alloc (.cells [.ae [104,UInt8.ofNat (97+j)],.ab,.ab,.ab,.int .i64 1,.int .i64 0,.ae [],.int .i64 0,.ab] 0 true)) bY (fun q V=>by rw[eX bY,eX V]) (t:=Z.next+1) (row:=[.ae [104,UInt8.ofNat (97+j)],.ab,.ab,.ab,.int .i64 1,.int .i64 0,.ae [],.int .i64 0,.ab]) (w:=⟨[104,UInt8.ofNat (97+j)],[],[],[],.mk 1 0 [] 0 []⟩) po rfl rfl (fun H'=>Pu (n:=49) [104,UInt8.ofNat (97+j)] 1 0 0 []) (by rw[lA,PA,zco]) aa;simp only[br,gU,Nat.reduceAdd]at b7 ci bX bQ;have gr:=(bX P aa (.inr (.inr rfl))).trans A;have dl:Z.next<=H'.next:=aa
   have gh0:=@zcl;have gh1:=@Pt;repeat' (first
    |(apply ai ?_;clear hK K)|apply Rx.o ?_|apply aN ?_|apply ae ?_|(apply ah fun K hK=>?_)|apply aj ?_|apply ak ?_|apply ax ?_)
   refine⟨aa,bM,bM,dr,xz,?_⟩;refine⟨_,iG,?_,?_⟩
   .rw[Py,<-kP];exact bQ _ rfl (fun q F=>by rw[aO,ad F])
   .intro q V h2;rw[aO,ad aa,bX q aa aa];exact O q V h2
  .have hje:j=M:=by omega
   subst hje;refine⟨rfl,eE,eE,_,_,⟨(gH _ x y f g).af,(gH _ x y f g).funcs++oJ j⟩,fun q=>q=Y,A,aa,⟨Ne.symm raP,?_,S,Px z (by have:=Pz j;omega) (zcp j)⟩,?_⟩
   .exact hA.aj (fun _ _ h=>h) hnx fun q V h2=>O q h2 (.inr V.2)
   .intro q V;rw[O q aa (.inl V)];exact old q V
end
end Go.Proofs.YtbflaciihaijgaaGreat
