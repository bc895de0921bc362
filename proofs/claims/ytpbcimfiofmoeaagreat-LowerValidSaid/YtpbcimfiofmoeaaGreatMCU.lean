/- Parts: MuP, GRg, MuRg, MuRh, MuQ0, MuQa, MuQc, MuQb, MuQd, MuQe. -/
import Derived.Test.YtpbcimfiofmoeaaGreatMCT
set_option linter.unusedSimpArgs false
set_option linter.unusedVariables false
set_option linter.unusedSectionVars false
set_option linter.defProp false
set_option maxHeartbeats 32000000
namespace Go.Ab
set_option maxRecDepth 20000
open Go
theorem nE{P:Prop}(h:P:=by rw[e]at lra;omega):P:=h
theorem oz{P:Prop}(h:P:=by rw[e]at lrf;omega):P:=h
theorem JU{P:Prop}(h:P:=by rw[Hp.get_set,if_neg hq]):P:=h
theorem Bb{P:Prop}(h:P:=by simpa using hnH):P:=h
theorem Ts{P:Prop}(h:P:=by have:=O.F.bo.len (P:=Tryz.prog) (H':=H) Tryz.underlying60;rw[List.length_map,hN]at this;exact this):P:=h
theorem EQ{P:Prop}(h:P:=by rw[zmI cL,zmI Z]):P:=h
theorem yj{P:Prop}(h:P:=by simp only[zk1,Nat.reduceBEq, *];exact zni (n:=M) ac ac):P:=h
theorem Tt{P:Prop}(h:P:=by rw[<- Z,Hp.get_set,if_neg V,Hp.get_set,if_neg ac]):P:=h
theorem Tu{P:Prop}(h:P:=by rw[<- Z,Hp.get_set,if_neg (fun e=>ac),Hp.get_set,if_pos rfl]):P:=h
theorem Tv{P:Prop}(h:P:=by rw[<- Z,Hp.get_set,if_neg (fun e=>by rw[e]at J;omega),Hp.get_set,if_neg ac,fr q V ac]):P:=h
theorem Tw{P:Prop}(h:P:=by rw[Hp.get_set,if_neg ac,zkZ,if_pos rfl];rfl):P:=h
def zjR:=@Nat.mul_zero
def oA:=And.intro @zjR @lV
end Go.Ab
namespace Go.Proofs.YtpbcimfiofmoeaaGreat
set_option maxRecDepth 20000
open Go Go.Ab
section
def ER:List (List UInt8):=[[103],[105,102],[],[97],[116,111,111,108,111,110,103,97,110,97,109,101,49,50,51,52,53],[57,120]]
def yk:List (List UInt8):=[[120],[110],[97],[122],[114,101,116,117,114,110],[95]]
def yl:List (List UInt8):=[[105],[98],[113],[120,32,121],[119,104,105,108,101]]
def ym:List (List UInt8):=[[97],[99],[120],[102],[111,117,116]]
def yn:List (List UInt8):=[[102],[104]]
def uV(n:Int):Ex:=.mk 1 n [] 0 []
def tL:Nat->Ex->Ex
 |0,e=>e
 |n+1,e=>.mk 4 0 [] 21 [tL n e]
def uW:Nat->List St->List St
 |0,b=>b
 |n+1,b=>[.mk 3 [] [] 0 zm1 (uV 0) [] (uW n b) []]
def yo:St:=.mk 4 [] [] 0 zm1 (uV 0) [] [] []
def yp(i:Nat):St:=.mk 5 [] [] 0 zm1 (uV i) [] [] []
def js(L:List Int):Prop:=∀n∈L,znc n
theorem Bc{L:List Int}(h:js L):znc (zlK L).1/\js (zlK L).2:=by
 cases L with
 |nil=>exact⟨by show znc 0;unfold znc;omega,h⟩
 |cons a l=>exact⟨h a ee,fun n J=>h n (el _ J)⟩
theorem zjS(n:Int):znc (bE n):=by
 unfold bE znc;rw[IntKind.wrap_i64];omega
theorem zxi{n V:Int}(h:znc V):znc (rY n V):=by
 unfold rY;split
 .have e:∀k,znc (uG.getD k 0):=fun k=>by
   by_cases c:k<10
   .have:∀k:_root_.Fin 10,znc (uG.getD k.1 0):=by unfold znc;decide
    exact this ⟨k,c⟩
   .rw[dx,lD (by simp[uG];omega)];show znc 0;unfold znc;omega
  exact e _
 split
 .exact zjS _
 .exact h
theorem rz:znc 0:=fD
theorem sn(f:Int):∀(k Z:Nat) (L:List Int),js L->d9 (zlD f k Z L).1/\js (zlD f k Z L).2
 |0,Z,L,h=>⟨by simp[zlD,d9,zmn,rz],h⟩
 |k+1,Z,L,h=>by
  have ih:=sn f k (Z+1);obtain⟨Y,j⟩:=Bc h;simp only[zlD];generalize zla (zlK L).1 16=q;generalize zla (bE ((zlK L).1.tdiv 16)) 1000=m;split
  .split
   .exact⟨by simp[d9,zmn,rz],j⟩
   .exact⟨by simp only[d9,zmn,aR];exact zxi Y,j⟩
  .have a:=ih _ j;have b:=ih _ a.2;have c:=ih _ b.2;split
   .exact⟨by simp only[d9,zmn,aR];exact⟨rz,a.1⟩,a.2⟩
   .split
    .exact⟨by simp only[d9,zmn,aR];exact⟨rz,a.1,b.1,c.1⟩,c.2⟩
    .split
     .exact⟨by simp only[d9,zmn,aR];exact⟨rz,a.1⟩,a.2⟩
     .exact⟨by simp only[d9,zmn,aR];exact⟨rz,a.1,b.1⟩,b.2⟩
theorem Tx(f:Int):∀(n:Nat) (L:List Int),js L->zmn (iJ f n L).1/\js (iJ f n L).2
 |0,L,h=>⟨by simp[iJ,zmn],h⟩
 |n+1,L,h=>by
  have a:=sn f 3 2 L h;have b:=Tx f n _ a.2;rw[iJ];exact⟨by rw[zmn];exact⟨a.1,b.1⟩,b.2⟩
theorem nF:d9 zm1:=by simp[zm1,d9,zmn,rz]
theorem zxj{Y:Int->zl9->List St×zl9}(U:∀j s,js s.1->dt (Y j s).1/\js (Y j s).2.1)(f:Int)(Z:List Int)(c q m:Int)(h:js Z):eU (ig Y f Z c q m).1/\js (ig Y f Z c q m).2.1:=by
 unfold ig;split
 .have a:=sn f 5 0 Z h;exact⟨by simp only[eU,zmn,dt,aR];exact⟨nF,a.1⟩,a.2⟩
 split
 .have a:=sn f 3 2 Z h;have b:=sn f 4 1 _ a.2;exact⟨by simp only[eU,zmn,dt,aR];exact⟨a.1,b.1⟩,b.2⟩
 split
 .have a:=sn f 4 1 Z h;have b:=U 3 ((zlD f 4 1 Z).2,c) a.2;have d:=U 2 (Y 3 ((zlD f 4 1 Z).2,c)).2 b.2;exact⟨by simp only[eU,zmn,j9];exact⟨nF,a.1,b.1,d.1⟩,d.2⟩
 split
 .have a:=sn f 4 1 Z h;have b:=U 3 ((zlD f 4 1 Z).2,bE (c+1)) a.2;exact⟨by simp only[eU,zmn,dt,aR,j9];exact⟨nF,a.1,b.1⟩,b.2⟩
 split
 .have a:=sn f 4 1 Z h;exact⟨by simp only[eU,zmn,dt,aR];exact⟨nF,a.1⟩,a.2⟩
 split
 .have a:=Tx f (2-m.tmod 2).toNat Z h;exact⟨by simp only[eU,dt,aR];exact⟨nF,nF,a.1⟩,a.2⟩
 .exact⟨by simp only[eU,zmn,dt,aR];exact⟨nF,nF⟩,h⟩
theorem JV{step:zl9->St×zl9}(U:∀s,js s.1->eU (step s).1/\js (step s).2.1):∀(n:Nat) (s:zl9),js s.1->dt (iA step n s).1/\js (iA step n s).2.1
 |0,s,h=>⟨by simp[iA,dt],h⟩
 |n+1,s,h=>by
  have a:=U s h;have b:=JV U n _ a.2;rw[iA];split
  .exact⟨by simp[dt],h⟩
  .exact⟨by rw[dt];exact⟨a.1,b.1⟩,b.2⟩
theorem Ty(f:Int):∀(k m:Nat) (s:zl9),js s.1->eU (ii f k m s).1/\js (ii f k m s).2.1
 |0,m,s,h=>⟨by simp only[ii,eU,zmn,dt,aR];exact⟨nF,nF⟩,h⟩
 |k+1,m,s,h=>by
  have ih:=Ty f k (m+1);rw[ii,wz];exact zxj (fun j s U=>JV ih _ ((zlK s.1).2,s.2) (Bc U).2) f _ _ _ _ (Bc h).2
theorem Tz(f:Int)(k deep:Nat)(j:Int)(s:zl9)(h:js s.1):dt (mP f k deep j s).1/\js (mP f k deep j s).2.1:=
 JV (Ty f k deep) _ ((zlK s.1).2,s.2) (Bc h).2
theorem zBX{l:List Int}(h:js l):∀f∈(fE l).funcs,dt f.body/\d9 f.value:=by
 have m:js (l.take 60):=fun n J=>h n (List.mem_of_mem_take J);have M:=Tz 0 4 0 5 ((zlK (l.take 60)).2,0) (Bc m).2;have v1:=sn 0 4 1 (ik (l.take 60)).2.1 M.2;have C:=Tz 1 3 1 3 ((mR (l.take 60)).2,(ik (l.take 60)).2.2) v1.2;have v2:=sn 1 4 1 (kN (l.take 60)).2.1 C.2;intro f K;simp only[fE,jp]at K;rcases K with rfl|rfl
 .exact⟨M.1,v1.1⟩
 .exact⟨C.1,v2.1⟩
theorem JW:∀{a b:List Ex},zmn a->zmn b->zmn (a++b)
 |[],b,_,h=>h
 |x::a,b,h,k=>by rw[zmn]at h;rw[lI,zmn];exact⟨h.1,JW h.2 k⟩
theorem Be:∀{a b:List St},dt a->dt b->dt (a++b)
 |[],b,_,h=>h
 |x::a,b,h,k=>by rw[dt]at h;rw[lI,dt];exact⟨h.1,Be h.2 k⟩
theorem TA:zmn [uR]:=by simp[uR,d9,zmn,rz]
theorem TB(n:Int):dt [uU n]:=by
 simp only[uU,dt,eU,zmn,aR];exact⟨nF,nF⟩
mutual
theorem ES:∀(e:Ex) (j a:Int),d9 e->d9 (gh e j a)
 | .mk k n M V K,j,a,h=>by
   rw[d9]at h;have Z:=TC K (zla a K.length).toNat (bE (j.tdiv 9)) (bE (a.tdiv 3)) h.2;have z:=zmO (n:=a) (m:=3) ac ac;have Y:znc (zla a 3):=fD;rw[gh];generalize zla j 9=q;split
   .rw[d9];exact h
   split
   .rw[d9];exact⟨Y,h.2⟩
   split
   .rw[d9];exact h
   split
   .rw[d9];exact h
   split
   .rw[d9];exact⟨h.1,JW h.2 TA⟩
   split
   .rw[d9,zmn];exact⟨h.1,trivial⟩
   split
   .rw[d9];exact⟨h.1,Z⟩
   .rw[d9];exact h
theorem TC:∀(l:List Ex) (i:Nat) (j a:Int),zmn l->zmn (py l i j a)
 |[],i,j,a,h=>by rw[py];exact h
 |x::l,0,j,a,h=>by
  rw[zmn]at h;rw[py,zmn];exact⟨ES x j a h.1,h.2⟩
 |x::l,i+1,j,a,h=>by
  rw[zmn]at h;rw[py,zmn];exact⟨h.1,TC l i j a h.2⟩
end
mutual
theorem TD:∀(e:St) (j a:Int),eU e->eU (jE e j a)
 | .mk k nm to n e v args O els,j,a,h=>by
   rw[eU]at h;obtain⟨m,Z,z,Y,V⟩:=h;have e1:=ES e (bE (j.tdiv 13)) a m;have e2:=ES v (bE (j.tdiv 13)) a Z;have e3:=TE O (zla a O.length).toNat (bE (j.tdiv 13)) (bE (a.tdiv 3)) Y;rw[jE];generalize zla j 13=q;by_cases c0:q=0
   .rw[am c0,eU];exact⟨m,Z,z,Y,V⟩
   rw[af c0];by_cases M:q=1
   .rw[am M,eU];exact⟨m,Z,z,Y,V⟩
   rw[af M];by_cases K:q=2
   .rw[am K,eU];exact⟨m,Z,z,Y,V⟩
   rw[af K];by_cases o:q=3
   .rw[am o,eU];exact⟨m,Z,z,Y,V⟩
   rw[af o];by_cases J:q=4
   .rw[am J,eU];exact⟨e1,Z,z,Y,V⟩
   rw[af J];by_cases I:q=5
   .rw[am I,eU];exact⟨m,e2,z,Y,V⟩
   rw[af I];by_cases C:q=6
   .rw[am C,eU];exact⟨m,Z,JW z TA,Y,V⟩
   rw[af C];by_cases c7:q=7
   .rw[am c7,eU];exact⟨m,Z,(by rw[zmn];trivial),Y,V⟩
   rw[af c7];by_cases c8:q=8
   .rw[am c8,eU];exact⟨m,Z,z,Y,Be V (TB _)⟩
   rw[af c8];by_cases c9:q=9
   .rw[am c9,eU];exact⟨m,Z,z,Be Y (TB _),V⟩
   rw[af c9];by_cases U:q=10
   .rw[am U,eU];exact⟨m,Z,z,e3,V⟩
   rw[af U];rw[eU];exact⟨m,Z,z,Y,V⟩
theorem TE:∀(l:List St) (i:Nat) (j a:Int),dt l->dt (pz l i j a)
 |[],i,j,a,h=>by rw[pz];exact h
 |x::l,0,j,a,h=>by
  rw[dt]at h;rw[pz,dt];exact⟨TD x j a h.1,h.2⟩
 |x::l,i+1,j,a,h=>by
  rw[dt]at h;rw[pz,dt];exact⟨h.1,TE l i j a h.2⟩
end
theorem TF:∀(j:Nat) (e:Ex),d9 e->d9 (tL j e)
 |0,e,h=>h
 |j+1,e,h=>by
  have:=TF j e h;simp only[tL,d9,zmn,aR];exact⟨rz,this⟩
theorem JX{n:Int}(Z:0<=n)(h:n<2^60):d9 (uV n):=by
 simp only[uV,d9,zmn,aR];unfold znc;omega
theorem TG:∀(j:Nat) (b:List St),dt b->dt (uW j b)
 |0,b,h=>h
 |j+1,b,h=>by
  have:=TG j b h;simp only[uW,dt,eU,zmn,aR,j9];exact⟨nF,JX ac ac,this⟩
theorem zBY{i:Nat}(h:i<2^60):eU (yp i):=by
 simp only[yp,dt,eU,zmn,aR];exact⟨nF,JX ac ac⟩
theorem zBZ:eU yo:=by
 simp only[yo,dt,eU,zmn,aR];exact⟨nF,JX ac ac⟩
theorem ET:∀{l:List St},(∀x∈l,eU x)->dt l
 |[],_=>by rw[dt];trivial
 |x::l,h=>by rw[dt];exact⟨h x ee,ET fun y hy=>h y (el _ hy)⟩
theorem JY:∀{l:List St},dt l->∀x∈l,eU x
 |[],_,x,hx=>by simp at hx
 |y::l,h,x,hx=>by
  rw[dt]at h;rcases fX.1 hx with rfl|hx
  .exact h.1
  .exact JY h.2 x hx
theorem zB0{l:List St}{i:Nat}{x:St}(h:dt l)(o:eU x):dt (l.set i x):=ET fun y hy=>by
 rcases rv hy with hy|rfl
 .exact JY h y hy
 .exact o
def tyMuQ0.tyF:=ad @ec (ad @cJ (ad @oQ (ad @dd (ad @gY (ad @iQ (ad @fI (ad @fx (ad @em (ad @en (ad @zms (ad @iR (ad @jw (ad @rH (ad @eY (@pU)))))))))))))))
open tyMuQ0
noncomputable def lR:{c:SC // aC 285 (Tryz.f26.body.getD .skip)=c}:=by
 refine⟨?_,?_⟩;rotate_left
 .simp only[Tryz.f26,bI,aC,zll,zle,zlp,zln,Nat.blt,Nat.ble];rfl
theorem zjZ{l:List En}(Z:∀M,zme l 50 M=(nW A5).sp M)(I:jb l 50=true){S:Nat->Prop}{n:Nat}{H:Hp}{cs:List AV}{e:Ex}(Y:n<59)(z:zlJ S n H cs e.cells)(J:e.sz<2^36)(k a:Int):
 zk5 Tryz.prog (zkY pls l) 50 [.agg cs,.int .i64 k,.int .i64 a] H fun v H'=>v=.agg (gh e k a).cells/\Icy S H H':=by
 obtain⟨us,m,j⟩:=z;refine xG (x:=(⟨e,k,a⟩:MuA)) (enc:=ry) (ok:=fun y=>y.x.sz<2^36) (out:=fun y=>.agg (gh y.x y.how y.a).cells) (us:=[.agg us,.int .i64 k,.int .i64 a]) (n:=n+1) EL (fun M=>by rw[Z];rfl) I (fun y=>?_) J ac ⟨⟨us,m,rfl⟩,oY ⟨.int _ _,trivial⟩,oY ⟨.int _ _,trivial⟩,trivial⟩ ?_
 .obtain⟨x,_,_⟩:=y;simp only[ry,mc];rfl
 .show [AV.agg (us.map (bX 59)),.int .i64 k,.int .i64 a]=_;rw[j 59 ac];rfl
noncomputable def EU:En:=⟨51,true,b7 (fun y=>y.x.sz<2^36) sm fun y=>.agg (jE y.x y.how y.a).cells⟩
theorem ztZ(ρ:Nat->Int):zl0 Tryz.prog ρ EU:=zl7 fun y hy=>zxg ρ y hy
theorem zj1{l:List En}(Z:∀M,zme l 51 M=(nW EU).sp M)(I:jb l 51=true){S:Nat->Prop}{n:Nat}{H:Hp}{cs:List AV}{e:St}(Y:n<59)(z:zlJ S n H cs e.cells)(J:e.sz<2^36)(k a:Int):
 zk5 Tryz.prog (zkY pls l) 51 [.agg cs,.int .i64 k,.int .i64 a] H fun v H'=>v=.agg (jE e k a).cells/\Icy S H H':=by
 obtain⟨us,m,j⟩:=z;refine xG (x:=(⟨e,k,a⟩:MuB)) (enc:=sm) (ok:=fun y=>y.x.sz<2^36) (out:=fun y=>.agg (jE y.x y.how y.a).cells) (us:=[.agg us,.int .i64 k,.int .i64 a]) (n:=n+1) JQ (fun M=>by rw[Z];rfl) I (fun y=>?_) J ac ⟨⟨us,m,rfl⟩,oY ⟨.int _ _,trivial⟩,oY ⟨.int _ _,trivial⟩,trivial⟩ ?_
 .obtain⟨x,_,_⟩:=y;simp only[sm,oP];rfl
 .show [AV.agg (us.map (bX 59)),.int .i64 k,.int .i64 a]=_;rw[j 59 ac];rfl
structure MutL (lG:List En):Prop extends GenL lG where
 me:∀ar,zme lG 50 ar=(nW A5).sp ar
 mei:jb lG 50=true
 ms:∀ar,zme lG 51 ar=(nW EU).sp ar
 msi:jb lG 51=true
 plm:(∀ar,zme lG 26 ar=none)/\jb lG 26=false
theorem tK.upd{i:Nat}{O pt':Nat->Nat}{lo b b' n b2 m n':Nat}{H H':Hp}{C I:Nat}{x y x' y':Int}{f g f' z:Fu}{pf lf bf:AV}{vf:List AV}{pg lg bg:AV}{vg:List AV}{j J bf':AV}{vf':List AV}{Z U V:AV}{Y:List AV}{P:Nat}{Hs:Hp}(h:ProgX i O lo b b' n H C I x y f g pf lf bf vf pg lg bg vg)(hP:O P=0)(M:P<H.next)(gp:H.get P=some (.cells [.sl C 0 2 2,.sl I 0 2 9] 0 true))(old:∀q,q<lo->H.get q=Hs.get q)
 (h':ProgX i pt' lo b2 m n' H' C I x' y' f' z j J bf' vf' Z U V Y) (K:pt' P=0) (hn:H.next<=H'.next) (hk:∀q,q<H.next->O q=0->H'.get q=H.get q) (o:n'<=48) (h1:f'.sz<2^28) (h2:z.sz<2^28) (h3:qx f') (h4:qx z):tK lo P Hs H':=
 tK.of h' K ac ((hk P M hP).trans gp) (fun q hq=>(hk q (mB hq h.hlo) (h.lab q hq)).trans (old q hq)) o h1 h2 h3 h4
def qy:=@tK.upd
section
variable {i:Nat} {pt:Nat -> Nat} {lo b b' n:Nat} {H:Hp} {ra rf:Nat} {x y:Int} {f g:Fu} {pf lf bf:AV} {v0 v1 v2 v3 v4:AV} {pg lg bg:AV} {w0 zlG w2 w3 w4:AV}
theorem ProgX.gf0(h:ProgX 0 pt lo b b' n H ra rf x y f g pf lf bf [v0,v1,v2,v3,v4] pg lg bg [w0,zlG,w2,w3,w4]):H.get rf=some (.cells [.str f.name,pf,lf,bf,v0,v1,v2,v3,v4,.str g.name,pg,lg,bg,w0,zlG,w2,w3,w4] 0 true):=h.gf
theorem ProgX.gf1(h:ProgX 1 pt lo b b' n H ra rf x y f g pf lf bf [v0,v1,v2,v3,v4] pg lg bg [w0,zlG,w2,w3,w4]):H.get rf=some (.cells [.str g.name,pg,lg,bg,w0,zlG,w2,w3,w4,.str f.name,pf,lf,bf,v0,v1,v2,v3,v4] 0 true):=h.gf
end
theorem Bf:∀a b:List (List UInt8),zmd (a++b)=zmd a+zmd b
 |[],b=>by rw[ly,zmd];omega
 |x::a,b=>by rw[lI,zmd,zmd,Bf a b];omega
theorem uX{l:List (List UInt8)}(h:∀s∈l,s.length<=17)(j:Nat):(l.getD j []).length<=17:=by
 rw[dx];cases e:l[j]? with
 |none=>simp
 |some s=>exact h s (j7 e)
theorem JZ{l:List (List UInt8)}(h:∀s∈l,s≠pB)(j:Nat):l.getD j []≠pB:=by
 rw[dx];cases e:l[j]? with
 |none=>intro h;cases h
 |some s=>exact h s (j7 e)
def nG:SC->SC
 | .block _ b=>b
 |x=>x
def mS:SC->SC
 | .seq a _=>a
 |x=>x
noncomputable def zm2:SC:=fW (mS (fW (fW (fW (fW lR.1)))))
theorem zB1:((List.range 20).all fun i=>decide (UInt8.ofNat (IntKind.wrap .u8 (97+(i:Int))).toNat=UInt8.ofNat (97+i)))=true:=aj
theorem TH{i:Nat}(h:i<20):UInt8.ofNat (IntKind.wrap .u8 (97+(i:Int))).toNat=UInt8.ofNat (97+i):=by
 have:=zB1;simp only[iP,lZ,jJ]at this;exact this i h
theorem TI(H:Hp)(n:Int):zmb Tryz.prog H 93 1 [(0,.int .u8 n)]=some (.sl H.next 0 1 1,H.alloc (.cells [.int .u8 n] 0 true)):=aj
theorem EV{H:Hp}{r:Nat}{n:Int}(K:H.get r=some (.cells [.int .u8 n] 0 true)):zny Tryz.prog H 93 9 (.sl r 0 1 1)=some (.str [UInt8.ofNat n.toNat]):=by
 have hx:zmM H 1 (.sl r 0 1 1)=some (1,[.int .u8 n]):=sN (H:=H) (r:=r) (o:=0) (n:=1) (z:=1) (s:=1) K ax;simp only[zny,Tryz.underlying93,Tryz.underlying9,Tryz.underlying5,hx];rfl
theorem zj3(n:Int):zma Tryz.prog 63 [(0,.int .i64 1),(1,.int .i64 n)]=some (.agg [.int .i64 1,.int .i64 n,.str [],.int .i64 0,.nilS]):=aj
def so(c:UInt8)(j:Nat):List (List UInt8):=(List.range j).map fun j=>[c,UInt8.ofNat (97+j)]
theorem TJ(c:UInt8)(j:Nat):so c (j+1)=so c j++[[c,UInt8.ofNat (97+j)]]:=by simp[so,zH]
theorem zB2(c:UInt8)(j:Nat):(so c j).length=j:=by simp[so]
theorem TK(c:UInt8):∀j,zmd (so c j)<=20*j
 |0=>by simp[so,zmd]
 |j+1=>by
  have:=TK c j;rw[TJ,Bf];simp only[zmd,mU];omega
def qA(j:Nat):List St:=(List.range j).map yp
theorem TL(j:Nat):qA (j+1)=qA j++[yp j]:=by simp[qA,zH]
theorem TM:∀j,zld (qA j)<=20*j
 |0=>by simp[qA,zld]
 |j+1=>by
  have:=TM j;rw[TL,wE];simp only[zld,yp,St.sz,uV,zm1,Ex.sz,zlZ,eW];omega
def rA(j:Nat):List St:=List.replicate j yo
theorem TN(j:Nat):rA (j+1)=rA j++[yo]:=by rw[rA,Hl];rfl
theorem TO:∀j,zld (rA j)<=20*j
 |0=>by simp[rA,zld]
 |j+1=>by
  have:=TO j;rw[TN,wE];simp only[zld,yo,St.sz,uV,zm1,Ex.sz,zlZ,eW];omega
theorem zB3(j:Nat)(h:j<2^60):dt (qA j):=ET fun x hx=>by
 simp only[qA,kV,lZ]at hx;obtain⟨i,I,rfl⟩:=hx;exact zBY ac
theorem zB4(j:Nat)(_:j<2^60):dt (rA j):=ET fun x hx=>by
 rw[zJ hx];exact zBZ
theorem zxn(j:Nat):(qA j).length=j:=by simp[qA]
theorem zxo(j:Nat):(rA j).length=j:=by simp[rA]
structure AtM (i:Nat) (a h k:Int) (lo m P:Nat) (Hs H:Hp) (ra rf:Nat) (x y:Int) (f g:Fu) (pf lf bf:AV) (vf:List AV) (pg lg bg:AV) (vg:List AV) (E:aw):Prop where
 X:∃pt b b',ProgX i pt lo b b' 14 H ra rf x y f g pf lf bf vf pg lg bg vg/\pt P=0
 hi:i=0\/i=1
 hm:m<lo
 loP:lo<=P
 ltP:P<H.next
 gp:H.get P=some (.cells [.sl ra 0 2 2,.sl rf 0 2 9] 0 true)
 old:∀q,q<lo->H.get q=Hs.get q
 fs:f.sz<2^24
 gs:g.sz<2^24
 fn:qx f
 gn:qx g
 hpi:zla a 2=i
 k2:E.at 2=.int .i64 a
 k6:E.at 6=.ptr m 0
 k7:E.at 7=.ptr P 0
 k8:E.at 8=.ptr rf (9*i)
 k9:E.at 9=.int .i64 k
 k27:E.at 27=.int .i64 h
def mT(lo m P:Nat)(J:Hp):AX->aw->Hp->Prop:=fun x E' H'=>x=.normal/\E'.at 6=.ptr m 0/\E'.at 7=.ptr P 0/\tK lo P J H'
end
section
def tyMuQa.tyF:=ad @ec (ad @cJ (ad @oQ (ad @dd (ad @gY (ad @iQ (ad @fI (ad @fx (ad @em (ad @en (ad @zms (ad @iR (ad @jw (ad @rH (ad @eY (ad @pU (@JH))))))))))))))))
open tyMuQa
set_option maxRecDepth 100000 in
theorem zj9{Z:List En}(hG:MutL Z){i:Nat}{a h k:Int}{lo m P:Nat}{Hs H:Hp}{C I:Nat}{x y:Int}{f g:Fu}{pf lf bf:AV}{vf:List AV}{pg lg bg:AV}{vg:List AV}{E:aw}(U:AtM i a h k lo m P Hs H C I x y f g pf lf bf vf pg lg bg vg E)(hh:(∀j∈[1,2,3,4,5,6,7,8,9,10,11,12,13,14,15,16,17,18],h≠j)):zlt Tryz.prog (zkY pls Z) 26 285 zm2 E H (mT lo m P Hs):=by
 obtain⟨⟨pt,b,b',hX,V⟩,hi,hm,loP,z,gp,O,fs,gs,fn,gn,hpi,k2,k6,k7,k8,k9,k27⟩:=U;have M:(zkY pls Z).keep 26=false:=rfl
 skip
 obtain⟨v0,v1,v2,v3,v4,rfl⟩:=zmq hX.F.len;obtain⟨w0,zlG,w2,w3,w4,rfl⟩:=zmq hX.G.len;obtain⟨z0,z1,z2,z3,z4⟩:=ji hX.F.one;have ltA:=hX.ltA;have ltF:=hX.ltF;have hlo:=hX.hlo;have hbb:=hX.hb;have o:=hX.lrf;have lra:=hX.lra;have J:I≠P:=fun e=>by rw[e]at o;omega
 have raP:C≠P:=fun e=>nE;have hrr:=hX.ne;have lof:=hX.lo_of (q:=I) ac;have loa:=hX.lo_of (q:=C) ac;have e1:(I == H.next)=false:=zkV ac;have e2:(I == H.next+1)=false:=zkV ac;have e3:(I == H.next+2)=false:=zkV ac;have e4:(H.next == I)=false:=zkV ac;have e5:(I == P)=false:=zkV J;have e6:(P == I)=false:=zkV (Ne.symm J);have e7:(P == H.next)=false:=zkV ac;have e8:(P == H.next+1)=false:=zkV ac;have e9:(C == H.next)=false:=zkV ac;have e10:(C == H.next+1)=false:=zkV ac;simp only[Ct,DJ,false_implies,implies_true,aR]at hh;dsimp only[zm2,nG,mS,fW,lR];repeat' (first
  |(apply ah ?_;clear hK K)|apply Ry.o ?_|(apply bb (fun hb Y=>?_) (fun hb Y=>?_)<;>try(cases hb;done))|apply ak ?_|(apply zkU fun K hK=>?_)|apply aG ?_|apply zk3 ?_|fail)
 exact⟨rfl,eE,eE,tK.of hX V z gp O ac ac ac fn gn⟩
set_option maxRecDepth 100000 in
theorem mp1{Y:List En}(hG:MutL Y){i:Nat}{a h k:Int}{lo m P:Nat}{Hs H:Hp}{C I:Nat}{x y:Int}{f g:Fu}{pf lf bf:AV}{vf:List AV}{pg lg bg:AV}{vg:List AV}{E:aw}(U:AtM i a h k lo m P Hs H C I x y f g pf lf bf vf pg lg bg vg E)(hh:h=1):zlt Tryz.prog (zkY pls Y) 26 285 zm2 E H (mT lo m P Hs):=by
 obtain⟨⟨pt,b,b',hX,Z⟩,hi,hm,loP,z,gp,O,fs,gs,fn,gn,hpi,k2,k6,k7,k8,k9,k27⟩:=U;have M:(zkY pls Y).keep 26=false:=rfl;subst hh;obtain⟨v0,v1,v2,v3,v4,rfl⟩:=zmq hX.F.len;obtain⟨w0,zlG,w2,w3,w4,rfl⟩:=zmq hX.G.len;obtain⟨z0,z1,z2,z3,z4⟩:=ji hX.F.one;have o:=hX.ltA;have ltF:=hX.ltF;have hlo:=hX.hlo;have hbb:=hX.hb;have lrf:=hX.lrf;have lra:=hX.lra;have J:I≠P:=fun e=>oz;have raP:C≠P:=fun e=>nE;have hrr:=hX.ne;have lof:=hX.lo_of (q:=I) ac;have loa:=hX.lo_of (q:=C) ac;have e1:(I == H.next)=false:=zkV ac;have e2:(I == H.next+1)=false:=zkV ac;have e3:(I == H.next+2)=false:=zkV ac;have e4:(H.next == I)=false:=zkV ac;have e5:(I == P)=false:=zkV J;have e6:(P == I)=false:=zkV (Ne.symm J);have e7:(P == H.next)=false:=zkV ac;have e8:(P == H.next+1)=false:=zkV ac;have e9:(C == H.next)=false:=zkV ac;have e10:(C == H.next+1)=false:=zkV ac;have hr:=zmO (n:=k) (m:=6) ac ac;have hr0:=hr.1;have hnm:=uT ER (n:=zla k 6) EE;have hix:=fun r=>uS r 6 hr.1 ac;have hbs:=fun H=>EM H [103] [105,102] [] [97] [116,111,111,108,111,110,103,97,110,97,109,101,49,50,51,52,53] [57,120];change ∀H,zmb _ H _ _ _=some (_,H.alloc (.cells (ER.map .str) 0 true))at hbs;rcases hi with rfl|rfl;all_goals
  simp only[oA]at k8;first|have gf:=hX.gf0|have gf:=hX.gf1
  dsimp only[zm2,nG,mS,fW,lR];repeat' (first
   |(apply ah ?_;clear hK K)|apply Ry.o ?_|apply dG ?_|(apply d7 ?_;first|refine zlc (znn hG.pick k 6 aE _) ?_)|(apply bb (fun hb j=>?_) (fun hb j=>?_)<;>try(cases hb;done))|apply ak ?_|(apply zkU fun K hK=>?_)|apply aG ?_|fail)
  refine⟨rfl,eE,eE,qy hX Z z gp O (hX.setA (x':=x) (y':=y) (nf:=ER.getD (zla k 6).toNat []) ?_ ?_ ?_ ?_) Z ?_ ?_ ac ?_ ac ⟨JZ aE _,fn.2⟩ gn⟩
  .simp only[zli,zk9];omega
  .intro q _ V h2 h3;rw[aJ,af h3,zmI V]
  .rw[aJ,af ac,zmI o];exact hX.ga
  .rw[aJ,am rfl];rfl
  .simp only[zli,zk9];omega
  .intro q V h2;rw[aJ,af (fun e=>by rw[e]at h2;omega),zmI V]
  .have:=uX (l:=ER) aE (zla k 6).toNat;simp only[Fu.sz]at fs⊢;omega
set_option maxRecDepth 100000 in
theorem mp2{V:List En}(hG:MutL V){i:Nat}{a h k:Int}{lo m P:Nat}{Hs H:Hp}{C I:Nat}{x y:Int}{f g:Fu}{pf lf bf:AV}{vf:List AV}{pg lg bg:AV}{vg:List AV}{E:aw}(U:AtM i a h k lo m P Hs H C I x y f g pf lf bf vf pg lg bg vg E)(hh:h=2):zlt Tryz.prog (zkY pls V) 26 285 zm2 E H (mT lo m P Hs):=by
 obtain⟨⟨pt,b,b',hX,Y⟩,hi,hm,loP,z,gp,M,fs,gs,fn,gn,hpi,k2,k6,k7,k8,k9,k27⟩:=U;have o:(zkY pls V).keep 26=false:=rfl;subst hh;obtain⟨v0,v1,v2,v3,v4,rfl⟩:=zmq hX.F.len;obtain⟨w0,zlG,w2,w3,w4,rfl⟩:=zmq hX.G.len;obtain⟨z0,z1,z2,z3,z4⟩:=ji hX.F.one;have ltA:=hX.ltA;have ltF:=hX.ltF;have hlo:=hX.hlo;have hbb:=hX.hb;have lrf:=hX.lrf;have lra:=hX.lra;have J:I≠P:=fun e=>oz;have raP:C≠P:=fun e=>nE;have hrr:=hX.ne;have lof:=hX.lo_of (q:=I) ac;have loa:=hX.lo_of (q:=C) ac;have e1:(I == H.next)=false:=zkV ac;have e2:(I == H.next+1)=false:=zkV ac;have e3:(I == H.next+2)=false:=zkV ac;have e4:(H.next == I)=false:=zkV ac;have e5:(I == P)=false:=zkV J;have e6:(P == I)=false:=zkV (Ne.symm J);have e7:(P == H.next)=false:=zkV ac;have e8:(P == H.next+1)=false:=zkV ac;have e9:(C == H.next)=false:=zkV ac;have e10:(C == H.next+1)=false:=zkV ac;have hr:=zmO (n:=k) (m:=6) ac ac;have hr0:=hr.1;have hnm:=uT yk (n:=zla k 6) EE;have hix:=fun r=>uS r 6 hr.1 ac;have hbs:=fun H=>EM H [120] [110] [97] [122] [114,101,116,117,114,110] [95];change ∀H,zmb _ H _ _ _=some (_,H.alloc (.cells (yk.map .str) 0 true))at hbs;obtain⟨N,hN⟩:∃N,f.params.length=N:=⟨_,rfl⟩;have hNl:N<2^30:=by
  have Z:=zno f.params;simp only[Fu.sz]at fs;omega
 have hnl:=uX (l:=yk) aE (zla k 6).toNat;obtain⟨H',a1,a2,a3,a4⟩:=hX.pushP (Hb:=(H.alloc (.cells (yk.map .str) 0 true)).alloc (.cells [.str (yk.getD (zla k 6).toNat [])] 0 true)) cL (fun q _ Z=>EQ) (r:=H.next+1) (s:=yk.getD (zla k 6).toNat []) rX hN hNl;simp only[zk9,iE,Nat.reduceAdd]at a1 a2 a3 a4;have fr:∀q,q<H.next->pt q≠b->H'.get q=H.get q:=fun q Z j=>by
  rw[a3 q ac (.inr j),zmI cL,zmI Z]
 have gr:=fr I ltF ac;rcases hi with rfl|rfl;all_goals
  simp only[oA]at k8;first|have gf:=hX.gf0|have gf:=hX.gf1
  rw[gf]at gr;dsimp only[zm2,nG,mS,fW,lR];repeat' (first
   |(apply ah ?_;clear hK K)|apply Ry.o ?_|apply dG ?_|(apply d7 ?_;first|refine zlc (znn hG.pick k 6 aE _) ?_)|(apply bb (fun hb O=>?_) (fun hb O=>?_)<;>try(cases hb;done))|apply ak ?_|(apply zkU fun K hK=>?_)|(apply zmm 8 [(4,7),(4,11),(5,7),(5,11),(9,11),(10,11)] fun K hK=>?_)|(apply zlC ?_;try intro _)|(apply zmk ?_ ?_<;>clear hK K)|apply bZ ?_|apply zmK rfl ?_|apply aG ?_|fail)
  .exact zlU
  refine⟨rfl,eE,eE,qy hX Y z gp M (a4 _ rfl (fun q hq=>JU) Am) (by rw[af ac];exact Y) ?_ ?_ ac ?_ ac fn gn⟩
  .simp only[zli];omega
  .intro q Z j;rw[aJ,af (fun e=>mr),fr q Z ac]
  .simp only[Fu.sz,Bf,zmd]at fs⊢;omega
set_option maxRecDepth 100000 in
theorem mp3{V:List En}(hG:MutL V){i:Nat}{a h k:Int}{lo m P:Nat}{Hs H:Hp}{C I:Nat}{x y:Int}{f g:Fu}{pf lf bf:AV}{vf:List AV}{pg lg bg:AV}{vg:List AV}{E:aw}(U:AtM i a h k lo m P Hs H C I x y f g pf lf bf vf pg lg bg vg E)(hh:h=3):zlt Tryz.prog (zkY pls V) 26 285 zm2 E H (mT lo m P Hs):=by
 obtain⟨⟨pt,b,b',hX,Y⟩,hi,hm,loP,z,gp,M,fs,gs,fn,gn,hpi,k2,k6,k7,k8,k9,k27⟩:=U;have o:(zkY pls V).keep 26=false:=rfl;subst hh;obtain⟨v0,v1,v2,v3,v4,rfl⟩:=zmq hX.F.len;obtain⟨w0,zlG,w2,w3,w4,rfl⟩:=zmq hX.G.len;obtain⟨z0,z1,z2,z3,z4⟩:=ji hX.F.one;have ltA:=hX.ltA;have ltF:=hX.ltF;have hlo:=hX.hlo;have hbb:=hX.hb;have lrf:=hX.lrf;have lra:=hX.lra;have J:I≠P:=fun e=>oz;have raP:C≠P:=fun e=>nE;have hrr:=hX.ne;have lof:=hX.lo_of (q:=I) ac;have loa:=hX.lo_of (q:=C) ac;have e1:(I == H.next)=false:=zkV ac;have e2:(I == H.next+1)=false:=zkV ac;have e3:(I == H.next+2)=false:=zkV ac;have e4:(H.next == I)=false:=zkV ac;have e5:(I == P)=false:=zkV J;have e6:(P == I)=false:=zkV (Ne.symm J);have e7:(P == H.next)=false:=zkV ac;have e8:(P == H.next+1)=false:=zkV ac;have e9:(C == H.next)=false:=zkV ac;have e10:(C == H.next+1)=false:=zkV ac;have hr:=zmO (n:=k) (m:=5) ac ac;have hr0:=hr.1;have hnm:=uT yl (n:=zla k 5) EF;have hix:=fun r=>uS r 5 hr.1 ac;have hbs:=fun H=>JS H [105] [98] [113] [120,32,121] [119,104,105,108,101];change ∀H,zmb _ H _ _ _=some (_,H.alloc (.cells (yl.map .str) 0 true))at hbs;obtain⟨N,hN⟩:∃N,f.locals.length=N:=⟨_,rfl⟩;have hNl:N<2^30:=by
  have Z:=zno f.locals;simp only[Fu.sz]at fs;omega
 have hnl:=uX (l:=yl) aE (zla k 5).toNat;obtain⟨H',a1,a2,a3,a4⟩:=hX.pushL (Hb:=(H.alloc (.cells (yl.map .str) 0 true)).alloc (.cells [.str (yl.getD (zla k 5).toNat [])] 0 true)) cL (fun q _ Z=>EQ) (r:=H.next+1) (s:=yl.getD (zla k 5).toNat []) rX hN hNl;simp only[zk9,iE,Nat.reduceAdd]at a1 a2 a3 a4;have fr:∀q,q<H.next->pt q≠b+1->H'.get q=H.get q:=fun q Z j=>by
  rw[a3 q ac (.inr j),zmI cL,zmI Z]
 have gr:=fr I ltF ac;rcases hi with rfl|rfl;all_goals
  simp only[oA]at k8;first|have gf:=hX.gf0|have gf:=hX.gf1
  rw[gf]at gr;dsimp only[zm2,nG,mS,fW,lR];repeat' (first
   |(apply ah ?_;clear hK K)|apply Ry.o ?_|apply dG ?_|(apply d7 ?_;first|refine zlc (znn hG.pick k 5 aE _) ?_)|(apply bb (fun hb O=>?_) (fun hb O=>?_)<;>try(cases hb;done))|apply ak ?_|(apply zkU fun K hK=>?_)|(apply zmm 10 [(4,7),(4,11),(5,7),(5,11),(9,11),(10,11)] fun K hK=>?_)|(apply zlC ?_;try intro _)|(apply zmk ?_ ?_<;>clear hK K)|apply bZ ?_|apply zmK rfl ?_|apply aG ?_|fail)
  .exact zlU
  refine⟨rfl,eE,eE,qy hX Y z gp M (a4 _ rfl (fun q hq=>JU) Am) (by rw[af ac];exact Y) ?_ ?_ ac ?_ ac fn gn⟩
  .simp only[zli];omega
  .intro q Z j;rw[aJ,af (fun e=>mr),fr q Z ac]
  .simp only[Fu.sz,Bf,zmd]at fs⊢;omega
end
section
def tyMuQc.tyF:=ad @ec (ad @cJ (ad @oQ (ad @dd (ad @gY (ad @iQ (ad @fI (ad @fx (ad @em (ad @en (ad @zms (ad @iR (ad @jw (ad @rH (ad @eY (ad @pU (ad @TI (ad @JH (ad @Jl (ad @yf (ad @Ba (@zj3)))))))))))))))))))))
open tyMuQc
set_option maxRecDepth 100000 in
theorem mp4{lG:List En}(hG:MutL lG){i:Nat}{a h k:Int}{lo m P:Nat}{Hs H:Hp}{z I:Nat}{x y:Int}{f g:Fu}{pf lf bf:AV}{vf:List AV}{pg lg bg:AV}{vg:List AV}{E:aw}(hat:AtM i a h k lo m P Hs H z I x y f g pf lf bf vf pg lg bg vg E)(hh:h=4):zlt Tryz.prog (zkY pls lG) 26 285 zm2 E H (mT lo m P Hs):=by
 obtain⟨⟨pt,b,b',hX,hPt⟩,hi,hm,loP,ltP,gp,old,fs,gs,fn,gn,hpi,k2,k6,k7,k8,k9,k27⟩:=hat;have hkeep:(zkY pls lG).keep 26=false:=rfl;subst hh;obtain⟨v0,v1,v2,v3,v4,rfl⟩:=zmq hX.F.len;obtain⟨w0,zlG,w2,w3,w4,rfl⟩:=zmq hX.G.len;obtain⟨z0,z1,z2,z3,z4⟩:=ji hX.F.one;have ltA:=hX.ltA;have ltF:=hX.ltF;have hlo:=hX.hlo;have hbb:=hX.hb;have lrf:=hX.lrf;have lra:=hX.lra;have rfP:I≠P:=fun e=>oz;have raP:z≠P:=fun e=>nE;have hrr:=hX.ne;have lof:=hX.lo_of (q:=I) ac;have loa:=hX.lo_of (q:=z) ac;have e1:(I == H.next)=false:=zkV ac;have e2:(I == H.next+1)=false:=zkV ac;have e3:(I == H.next+2)=false:=zkV ac;have e4:(H.next == I)=false:=zkV ac;have e5:(I == P)=false:=zkV rfP;have e6:(P == I)=false:=zkV (Ne.symm rfP);have e7:(P == H.next)=false:=zkV ac;have e8:(P == H.next+1)=false:=zkV ac;have e9:(z == H.next)=false:=zkV ac;have e10:(z == H.next+1)=false:=zkV ac;have hpr:=zmO (n:=k) (m:=12) ac ac;obtain⟨M,hM⟩:∃M:Nat,zla k 12=(M:Int):=⟨(zla k 12).toNat,ac⟩;have hMl:M<12:=ac;have kp:=fun H=>znn hG.pick k 12 aE H;rw[hM]at kp;rcases hi with rfl|rfl;all_goals
  simp only[oA]at k8;first|have gf:=hX.gf0|have gf:=hX.gf1
  dsimp only[zm2,nG,mS,fW,lR];repeat' (first
   |(apply ah ?_;clear hK K)|apply Ry.o ?_|(apply bb (fun hb U=>?_) (fun hb U=>?_)<;>try(cases hb;done))|apply ak ?_|(apply zkU fun K hK=>?_)|apply aG ?_|fail)
  refine zlL [2,6,7,8,9] [] 10 M (fun j E Y=>∃Z lf',ProgX _ Z lo b b' 14 Y z I x y {f with locals:=f.locals++so 118 j} g pf lf' bf [v0,v1,v2,v3,v4] pg lg bg [w0,zlG,w2,w3,w4]/\Z P=0/\(∀q,q<H.next->pt q=0->Z q=0)/\(∀q,q<H.next->pt q=0->Y.get q=H.get q)) eE ⟨pt,lf,by rw[show f.locals++so 118 0=f.locals from bj _];exact hX,hPt,fun _ _ h=>h,fun _ _ _=>rfl⟩ ?_;rintro j E Y hj hcE hrH hnH hsI ⟨Z,lf',O,hP3,hl3,hf3⟩;(try simp only[zlm,zlb,aR,zk1,Nat.reduceBEq, *]at hcE);(try simp only[zlb, *]at hrH);(try simp only[zk9,zli,zlI,bL,Nat.reduceAdd]at hnH);have hnx:H.next<=Y.next:=Bb
  have f1:(I == Y.next)=false:=zkV ac;have f2:(I == Y.next+1)=false:=zkV ac;have f3:(I == Y.next+2)=false:=zkV ac;first|have gf3:=O.gf0|have gf3:=O.gf1
  repeat' (first
   |(apply ah ?_;clear hK K)|apply Ry.o ?_|(apply d7 ?_;first|refine zlc (kp _) ?_)|(apply bb (fun hb U=>?_) (fun hb U=>?_)<;>try(cases hb;done))|apply ak ?_|(apply zkU fun K hK=>?_)|(apply zmm 15 [(4,12),(7,12),(8,12),(9,12),(11,12)] fun K hK=>?_)|(apply zlC ?_;try intro _)|apply bZ ?_|apply aG ?_|apply zk3 ?_|apply zlu ?_)
  .have hlt:j<M:=by omega
   have lrf3:=O.lrf;have hw97:IntKind.wrap .i64 (97+(j:Int))=97+(j:Int):=znj ac ac;have hcv:=fun H=>pU H .i64 (97+(j:Int));generalize hmm:IntKind.wrap .u8 (97+(j:Int))=mm at hcv;have J:UInt8.ofNat mm.toNat=UInt8.ofNat (97+j):=by rw[<-hmm];exact TH ac
   have C:(Y.alloc (.cells [.int .u8 mm] 0 true)).get Y.next=some (.cells [.int .u8 mm] 0 true):=gH
   have hcu:=EV C;rw[J]at hcu;have hcat:∀D t,zmt Tryz.prog D .add t (.str [118]) (.str [UInt8.ofNat (97+j)])=some (.str [118,UInt8.ofNat (97+j)]):=fun D t=>Lq (by simp[zmr]);obtain⟨N,hN⟩:∃N,(f.locals++so 118 j).length=N:=⟨_,rfl⟩;have hNl:N<2^30:=by
    have V:=zno f.locals;rw[fj,zB2]at hN;simp only[Fu.sz]at fs;omega
   obtain⟨H',a1,a2,a3,a4⟩:=O.pushL (Hb:=(Y.alloc (.cells [.int .u8 mm] 0 true)).alloc (.cells [.str [118,UInt8.ofNat (97+j)]] 0 true)) cL (fun q _ V=>by rw[zmI cL,zmI V]) (r:=Y.next+1) (s:=[118,UInt8.ofNat (97+j)]) rX hN hNl;simp only[zk9,iE,Nat.reduceAdd]at a1 a2 a3 a4;have fr:∀q,q<Y.next->Z q≠b+1->H'.get q=Y.get q:=fun q V o=>by
    rw[a3 q ac (.inr o),zmI cL,zmI V]
   have gr:=(fr I ac ac).trans gf3;have zlQ:Y.next<=H'.next:=ac
   have gu:H'.get Y.next=some (.cells [.int .u8 mm] 0 true):=by rw[a3 Y.next ac (.inl (aB _)),zmI cL];exact C
   have gs2:H'.get (Y.next+1)=some (.cells [.str [118,UInt8.ofNat (97+j)]] 0 true):=by rw[a3 (Y.next+1) ac (.inl ac),zkZ,am dT]
   have hcu2:=EV gu;rw[J]at hcu2;have hcu3:=EV (H:=(Y.alloc (.cells [.int .u8 mm] 0 true)).alloc (.cells [.str [118,UInt8.ofNat (97+j)]] 0 true)) (r:=Y.next) (by rw[zmI cL];exact C);rw[J]at hcu3;repeat' (first
    |(apply ah ?_;clear hK K)|apply Rx.o ?_|apply bS ?_|(apply zkU fun K hK=>?_)|(apply zlC ?_;try intro _)|(apply zmk ?_ ?_<;>clear hK K)|apply bZ ?_|apply zmK rfl ?_|fail)
   .exact zlU
   refine⟨ac,zk8,zk8,zlF,yj,?_⟩;refine⟨_,_,by rw[TJ,<-i8];exact a4 _ rfl (fun q hq=>JU) Am,?_,?_,?_⟩
   .show(if _ then _ else _)=0;rw[af ac];exact hP3
   .intro q V o;show(if _ then _ else _)=0;rw[af ac];exact hl3 q V o
   .intro q V o;have:=hl3 q V o;rw[aJ,af (fun e=>by rw[e]at this;omega),fr q ac ac];exact hf3 q V o
  .have hje:j=M:=by omega
   subst hje;refine⟨rfl,eE,eE,qy hX hPt ltP gp old O hP3 hnx hf3 ac ?_ ac fn gn⟩;have:=TK 118 j;simp only[Fu.sz,Bf]at fs⊢;omega
set_option maxRecDepth 100000 in
theorem zke{lG:List En}(hG:MutL lG){i:Nat}{a h k:Int}{lo m P:Nat}{Hs H:Hp}{ra I:Nat}{x y:Int}{f g:Fu}{pf lf bf:AV}{vf:List AV}{pg lg bg:AV}{vg:List AV}{E:aw}(hat:AtM i a h k lo m P Hs H ra I x y f g pf lf bf vf pg lg bg vg E)(hh:h=10):zlt Tryz.prog (zkY pls lG) 26 285 zm2 E H (mT lo m P Hs):=by
 obtain⟨⟨pt,b,b',hX,hPt⟩,hi,hm,loP,ltP,gp,old,fs,gs,fn,gn,hpi,k2,k6,k7,k8,k9,k27⟩:=hat;have hkeep:(zkY pls lG).keep 26=false:=rfl;subst hh;obtain⟨v0,v1,v2,v3,v4,rfl⟩:=zmq hX.F.len;obtain⟨w0,zlG,w2,w3,w4,rfl⟩:=zmq hX.G.len;obtain⟨z0,z1,z2,z3,z4⟩:=ji hX.F.one;have ltA:=hX.ltA;have ltF:=hX.ltF;have hlo:=hX.hlo;have hbb:=hX.hb;have lrf:=hX.lrf;have lra:=hX.lra;have rfP:I≠P:=fun e=>oz;have raP:ra≠P:=fun e=>nE;have hrr:=hX.ne;have lof:=hX.lo_of (q:=I) ac;have loa:=hX.lo_of (q:=ra) ac;have e1:(I == H.next)=false:=zkV ac;have e2:(I == H.next+1)=false:=zkV ac;have e3:(I == H.next+2)=false:=zkV ac;have e4:(H.next == I)=false:=zkV ac;have e5:(I == P)=false:=zkV rfP;have e6:(P == I)=false:=zkV (Ne.symm rfP);have e7:(P == H.next)=false:=zkV ac;have e8:(P == H.next+1)=false:=zkV ac;have e9:(ra == H.next)=false:=zkV ac;have e10:(ra == H.next+1)=false:=zkV ac;have hpr:=zmO (n:=k) (m:=24) ac ac;obtain⟨M,hM⟩:∃M:Nat,zla k 24=(M:Int):=⟨(zla k 24).toNat,ac⟩;have hMl:M<24:=ac;have kp:=fun H=>znn hG.pick k 24 aE H;rw[hM]at kp;rcases hi with rfl|rfl;all_goals
  simp only[oA]at k8;first|have gf:=hX.gf0|have gf:=hX.gf1
  dsimp only[zm2,nG,mS,fW,lR];repeat' (first
   |(apply ah ?_;clear hK K)|apply Ry.o ?_|(apply bb (fun hb C=>?_) (fun hb C=>?_)<;>try(cases hb;done))|apply ak ?_|(apply zkU fun K hK=>?_)|apply aG ?_|fail)
  refine zlL [2,6,7,8,9] [] 13 M (fun j E Y=>∃U z,ProgX _ U lo b b' 14 Y ra I x y {f with body:=f.body++rA j} g pf lf z [v0,v1,v2,v3,v4] pg lg bg [w0,zlG,w2,w3,w4]/\U P=0/\(∀q,q<H.next->pt q=0->U q=0)/\(∀q,q<H.next->pt q=0->Y.get q=H.get q)) eE ⟨pt,bf,by rw[show f.body++rA 0=f.body from bj _];exact hX,hPt,fun _ _ h=>h,fun _ _ _=>rfl⟩ ?_;rintro j E Y hj hcE hrH hnH hsI ⟨U,z,O,hP3,hl3,hf3⟩;(try simp only[zlm,zlb,aR,zk1,Nat.reduceBEq, *]at hcE);(try simp only[zlb, *]at hrH);(try simp only[zk9,zli,zlI,bL,Nat.reduceAdd]at hnH);have hnx:H.next<=Y.next:=Bb
  have f1:(I == Y.next)=false:=zkV ac;have f2:(I == Y.next+1)=false:=zkV ac;have f3:(I == Y.next+2)=false:=zkV ac;first|have gf3:=O.gf0|have gf3:=O.gf1
  obtain⟨o1,o2⟩:=O.F.bo.one;repeat' (first
   |(apply ah ?_;clear hK K)|apply Ry.o ?_|(apply d7 ?_;first|refine zlc (kp _) ?_)|(apply bb (fun hb C=>?_) (fun hb C=>?_)<;>try(cases hb;done))|apply ak ?_|(apply zkU fun K hK=>?_)|apply aG ?_|apply zk3 ?_|apply zlu ?_)
  .have hlt:j<M:=by omega
   have lrf3:=O.lrf;obtain⟨N,hN⟩:∃N,(f.body++rA j).length=N:=⟨_,rfl⟩;have hNl:N<2^30:=by
    have V:=znP f.body;rw[fj,zxo]at hN;simp only[Fu.sz]at fs;omega
   have hlen:∀H,zlS Tryz.prog H 60 z=some (.int .i64 N):=fun H=>Ts;obtain⟨H',flat,imm',a1,a2,a3,a4,a5,a6,a7,a8,o⟩:=O.pushC (Hb:=Y.alloc (.cells [.int .i64 0,.str [],.str [],.int .i64 0,.int .i64 0,.int .i64 0,.str [],.int .i64 0,.nilS,.int .i64 0,.int .i64 0,.str [],.int .i64 0,.nilS,.nilS,.nilS,.nilS] 0 true)) cL (fun q _ V=>zmI V) (r:=Y.next) (row:=[.int .i64 0,.str [],.str [],.int .i64 0,.int .i64 0,.int .i64 0,.str [],.int .i64 0,.nilS,.int .i64 0,.int .i64 0,.str [],.int .i64 0,.nilS,.nilS,.nilS,.nilS]) gH rfl rfl hN hNl;simp only[zk9]at a1 a2 a7 a8 o;have fr:∀q,q<Y.next->U q≠b+2->H'.get q=Y.get q:=fun q V J=>by
    rw[a8 q ac (.inr J),zmI V]
   have gr:=(fr I ac ac).trans gf3;have zlQ:Y.next<=H'.next:=ac
   have hn1:N<N+1:=cE _;have g1:(Y.next+1 == I)=false:=zkV ac;have gz:=@S8;(apply Rx.dS 36 10 13 [0,1,2,3,4,5,6,7,8,9,11,12,13,10] [(3,8),(6,8),(7,8)] [(3,8),(6,8),(7,8)] ?_ ?_ ?_;rotate_left 2)
   .repeat' (first
     |apply Ry.o ?_|apply dG ?_|(apply zlC ?_;try intro _)|apply bZ ?_|apply zmK rfl ?_|fail)
    try any_goals intro _
    repeat' (first
     |apply Ry.o ?_|apply dG ?_|(apply zlC ?_;try intro _)|apply bZ ?_|apply zmK rfl ?_|fail)
    try any_goals intro _
    any_goals refine zw ⟨?_,rfl,rfl⟩
    all_goals exact zlU
   .repeat' (first
     |apply Ry.o ?_|apply dG ?_|(apply zlC ?_;try intro _)|apply bZ ?_|apply zmK rfl ?_|fail)
    try any_goals intro _
    repeat' (first
     |(apply ah ?_;clear hK K)|fail)
    try any_goals intro _
    any_goals refine zw ⟨?_,rfl,Me _ (fun e=>ac) _ _⟩
    all_goals exact zlU
   generalize Z:Hp.set (Hp.set H' (Y.next+1) (.cells (flat++[.int .i64 4,.str [],.str [],.int .i64 0,.int .i64 0,.int .i64 0,.str [],.int .i64 0,.nilS,.int .i64 1,.int .i64 0,.str [],.int .i64 0,.nilS,.nilS,.nilS,.nilS]) imm' true)) I _=H5;have X5:=o H5 [.int .i64 4,.str [],.str [],.int .i64 0,.int .i64 0,.int .i64 0,.str [],.int .i64 0,.nilS,.int .i64 1,.int .i64 0,.str [],.int .i64 0,.nilS,.nilS,.nilS,.nilS] (yo) ti (fun q V J=>Tt) Tu rfl (pw (n:=13) 4 [] [] 0 nD (oo 1 0 0 []) .nilS .nilS .nilS) (by rw[<-Z,aJ,am rfl];rfl);have f5:∀q,q<Y.next->U q=0->H5.get q=Y.get q:=fun q V J=>Tv
   have n5:Y.next<=H5.next:=by rw[<-Z];simp only[zli];omega
   clear Z a1 a2 o a8 gr;dsimp only[lF,pR,zk6];repeat' (first
    |(apply ah ?_;clear hK K)|apply Rx.o ?_|(apply zkU fun K hK=>?_)|fail)
   refine⟨ac,zk8,zk8,zlF,yj,?_⟩;refine⟨_,_,by rw[TN,<-i8];exact X5,?_,?_,?_⟩
   .show(if _ then _ else _)=0;rw[af ac];exact hP3
   .intro q V J;show(if _ then _ else _)=0;rw[af ac];exact hl3 q V J
   .intro q V J;rw[f5 q ac (hl3 q V J)];exact hf3 q V J
  .have hje:j=M:=by omega
   subst hje;refine⟨rfl,eE,eE,qy hX hPt ltP gp old O hP3 hnx hf3 ac ?_ ac ⟨fn.1,Be fn.2.1 (zB4 _ ac),fn.2.2⟩ gn⟩;have:=TO j;simp only[Fu.sz,wE]at fs⊢;omega
set_option maxRecDepth 100000 in
theorem zkf{lG:List En}(hG:MutL lG){i:Nat}{a h k:Int}{lo m P:Nat}{Hs H:Hp}{ra I:Nat}{x y:Int}{f g:Fu}{pf lf bf:AV}{vf:List AV}{pg lg bg:AV}{vg:List AV}{E:aw}(hat:AtM i a h k lo m P Hs H ra I x y f g pf lf bf vf pg lg bg vg E)(hh:h=11):zlt Tryz.prog (zkY pls lG) 26 285 zm2 E H (mT lo m P Hs):=by
 obtain⟨⟨pt,b,b',hX,hPt⟩,hi,hm,loP,ltP,gp,old,fs,gs,fn,gn,hpi,k2,k6,k7,k8,k9,k27⟩:=hat;have hkeep:(zkY pls lG).keep 26=false:=rfl;subst hh;obtain⟨v0,v1,v2,v3,v4,rfl⟩:=zmq hX.F.len;obtain⟨w0,zlG,w2,w3,w4,rfl⟩:=zmq hX.G.len;obtain⟨z0,z1,z2,z3,z4⟩:=ji hX.F.one;have ltA:=hX.ltA;have ltF:=hX.ltF;have hlo:=hX.hlo;have hbb:=hX.hb;have lrf:=hX.lrf;have lra:=hX.lra;have rfP:I≠P:=fun e=>oz;have raP:ra≠P:=fun e=>nE;have hrr:=hX.ne;have lof:=hX.lo_of (q:=I) ac;have loa:=hX.lo_of (q:=ra) ac;have e1:(I == H.next)=false:=zkV ac;have e2:(I == H.next+1)=false:=zkV ac;have e3:(I == H.next+2)=false:=zkV ac;have e4:(H.next == I)=false:=zkV ac;have e5:(I == P)=false:=zkV rfP;have e6:(P == I)=false:=zkV (Ne.symm rfP);have e7:(P == H.next)=false:=zkV ac;have e8:(P == H.next+1)=false:=zkV ac;have e9:(ra == H.next)=false:=zkV ac;have e10:(ra == H.next+1)=false:=zkV ac;have hpr:=zmO (n:=k) (m:=260) ac ac;obtain⟨M,hM⟩:∃M:Nat,zla k 260=(M:Int):=⟨(zla k 260).toNat,ac⟩;have hMl:M<260:=ac;have kp:=fun H=>znn hG.pick k 260 aE H;rw[hM]at kp;rcases hi with rfl|rfl;all_goals
  simp only[oA]at k8;first|have gf:=hX.gf0|have gf:=hX.gf1
  dsimp only[zm2,nG,mS,fW,lR];repeat' (first
   |(apply ah ?_;clear hK K)|apply Ry.o ?_|(apply bb (fun hb C=>?_) (fun hb C=>?_)<;>try(cases hb;done))|apply ak ?_|(apply zkU fun K hK=>?_)|apply aG ?_|fail)
  refine zlL [2,6,7,8,9] [] 14 M (fun j E Y=>∃U z,ProgX _ U lo b b' 14 Y ra I x y {f with body:=f.body++qA j} g pf lf z [v0,v1,v2,v3,v4] pg lg bg [w0,zlG,w2,w3,w4]/\U P=0/\(∀q,q<H.next->pt q=0->U q=0)/\(∀q,q<H.next->pt q=0->Y.get q=H.get q)) eE ⟨pt,bf,by rw[show f.body++qA 0=f.body from bj _];exact hX,hPt,fun _ _ h=>h,fun _ _ _=>rfl⟩ ?_;rintro j E Y hj hcE hrH hnH hsI ⟨U,z,O,hP3,hl3,hf3⟩;(try simp only[zlm,zlb,aR,zk1,Nat.reduceBEq, *]at hcE);(try simp only[zlb, *]at hrH);(try simp only[zk9,zli,zlI,bL,Nat.reduceAdd]at hnH);have hnx:H.next<=Y.next:=Bb
  have f1:(I == Y.next)=false:=zkV ac;have f2:(I == Y.next+1)=false:=zkV ac;have f3:(I == Y.next+2)=false:=zkV ac;first|have gf3:=O.gf0|have gf3:=O.gf1
  obtain⟨o1,o2⟩:=O.F.bo.one;repeat' (first
   |(apply ah ?_;clear hK K)|apply Ry.o ?_|(apply d7 ?_;first|refine zlc (kp _) ?_)|(apply bb (fun hb C=>?_) (fun hb C=>?_)<;>try(cases hb;done))|apply ak ?_|(apply zkU fun K hK=>?_)|apply aG ?_|apply zk3 ?_|apply zlu ?_)
  .have hlt:j<M:=by omega
   have lrf3:=O.lrf;obtain⟨N,hN⟩:∃N,(f.body++qA j).length=N:=⟨_,rfl⟩;have hNl:N<2^30:=by
    have V:=znP f.body;rw[fj,zxn]at hN;simp only[Fu.sz]at fs;omega
   have hlen:∀H,zlS Tryz.prog H 60 z=some (.int .i64 N):=fun H=>Ts;obtain⟨H',flat,imm',a1,a2,a3,a4,a5,a6,a7,a8,o⟩:=O.pushC (Hb:=Y.alloc (.cells [.int .i64 0,.str [],.str [],.int .i64 0,.int .i64 0,.int .i64 0,.str [],.int .i64 0,.nilS,.int .i64 0,.int .i64 0,.str [],.int .i64 0,.nilS,.nilS,.nilS,.nilS] 0 true)) cL (fun q _ V=>zmI V) (r:=Y.next) (row:=[.int .i64 0,.str [],.str [],.int .i64 0,.int .i64 0,.int .i64 0,.str [],.int .i64 0,.nilS,.int .i64 0,.int .i64 0,.str [],.int .i64 0,.nilS,.nilS,.nilS,.nilS]) gH rfl rfl hN hNl;simp only[zk9]at a1 a2 a7 a8 o;have fr:∀q,q<Y.next->U q≠b+2->H'.get q=Y.get q:=fun q V J=>by
    rw[a8 q ac (.inr J),zmI V]
   have gr:=(fr I ac ac).trans gf3;have zlQ:Y.next<=H'.next:=ac
   have hn1:N<N+1:=cE _;have g1:(Y.next+1 == I)=false:=zkV ac;have gz:=@S8;(apply Rx.dS 41 11 14 [0,1,2,3,4,5,6,7,8,9,10,12,13,14,11] [(3,9),(7,9),(8,9)] [(3,9),(7,9),(8,9)] ?_ ?_ ?_;rotate_left 2)
   .repeat' (first
     |apply Ry.o ?_|apply dG ?_|(apply zlC ?_;try intro _)|apply bZ ?_|apply zmK rfl ?_|fail)
    try any_goals intro _
    repeat' (first
     |apply Ry.o ?_|apply dG ?_|(apply zlC ?_;try intro _)|apply bZ ?_|apply zmK rfl ?_|fail)
    try any_goals intro _
    any_goals refine zw ⟨?_,rfl,rfl⟩
    all_goals exact zlU
   .repeat' (first
     |apply Ry.o ?_|apply dG ?_|(apply zlC ?_;try intro _)|apply bZ ?_|apply zmK rfl ?_|fail)
    try any_goals intro _
    repeat' (first
     |(apply ah ?_;clear hK K)|fail)
    try any_goals intro _
    any_goals refine zw ⟨?_,rfl,Me _ (fun e=>ac) _ _⟩
    all_goals exact zlU
   generalize Z:Hp.set (Hp.set H' (Y.next+1) (.cells (flat++[.int .i64 5,.str [],.str [],.int .i64 0,.int .i64 0,.int .i64 0,.str [],.int .i64 0,.nilS,.int .i64 1,.int .i64 j,.str [],.int .i64 0,.nilS,.nilS,.nilS,.nilS]) imm' true)) I _=H5;have X5:=o H5 [.int .i64 5,.str [],.str [],.int .i64 0,.int .i64 0,.int .i64 0,.str [],.int .i64 0,.nilS,.int .i64 1,.int .i64 j,.str [],.int .i64 0,.nilS,.nilS,.nilS,.nilS] (yp j) ti (fun q V J=>Tt) Tu rfl (pw (n:=13) 5 [] [] 0 nD (oo 1 j 0 []) .nilS .nilS .nilS) (by rw[<-Z,aJ,am rfl];rfl);have f5:∀q,q<Y.next->U q=0->H5.get q=Y.get q:=fun q V J=>Tv
   have n5:Y.next<=H5.next:=by rw[<-Z];simp only[zli];omega
   clear Z a1 a2 o a8 gr;dsimp only[lF,pR,zk6];repeat' (first
    |(apply ah ?_;clear hK K)|apply Rx.o ?_|(apply zkU fun K hK=>?_)|fail)
   refine⟨ac,zk8,zk8,zlF,yj,?_⟩;refine⟨_,_,by rw[TL,<-i8];exact X5,?_,?_,?_⟩
   .show(if _ then _ else _)=0;rw[af ac];exact hP3
   .intro q V J;show(if _ then _ else _)=0;rw[af ac];exact hl3 q V J
   .intro q V J;rw[f5 q ac (hl3 q V J)];exact hf3 q V J
  .have hje:j=M:=by omega
   subst hje;refine⟨rfl,eE,eE,qy hX hPt ltP gp old O hP3 hnx hf3 ac ?_ ac ⟨fn.1,Be fn.2.1 (zB3 _ ac),fn.2.2⟩ gn⟩;have:=TM j;simp only[Fu.sz,wE]at fs⊢;omega
end
section
def tyMuQb.tyF:=ad @ec (ad @cJ (ad @oQ (ad @dd (ad @gY (ad @iQ (ad @fI (ad @fx (ad @em (ad @en (ad @zms (ad @iR (ad @jw (ad @rH (ad @eY (ad @pU (ad @zjD (ad @bNx (ad @yf (@Ba)))))))))))))))))))
open tyMuQb
theorem TP:∀(j:Nat) (e:Ex),(tL j e).sz<=e.sz+20*j
 |0,e=>by simp[tL]
 |j+1,e=>by
  have:=TP j e;rw[tL];simp only[Ex.sz,zlZ,eW];omega
theorem TQ:∀(j:Nat) (b:List St),zld (uW j b)<=zld b+20*j
 |0,b=>by simp[uW]
 |j+1,b=>by
  have:=TQ j b;rw[uW];simp only[zld,St.sz,uV,zm1,Ex.sz,zlZ,eW];omega
theorem zkg(v:AV)(h:AV.one v=true):zma Tryz.prog 96 [(0,.int .i64 3),(5,.agg [.int .i64 1,.int .i64 0,.str [],.int .i64 0,.nilS]),(7,v)]=some (.agg [.int .i64 3,.str [],.str [],.int .i64 0,.int .i64 0,.int .i64 0,.str [],.int .i64 0,.nilS,.int .i64 1,.int .i64 0,.str [],.int .i64 0,.nilS,.nilS,v,.nilS]):=by
 cases v<;>first|(cases h;done)|kernel_rfl
section
variable {i:Nat} {pt:Nat -> Nat} {lo b b' n:Nat} {H:Hp} {ra rf:Nat} {x y:Int} {f g:Fu} {pf lf bf:AV} {vf:List AV} {pg lg bg:AV} {vg:List AV} (h:ProgX i pt lo b b' n H ra rf x y f g pf lf bf vf pg lg bg vg)
include h
theorem ProgX.setV'{H':Hp}{n':Nat}{vf':List AV}(w:Ex)(J:H.next<=H'.next)(z:n<=n')(o:∀q,lo<=q->q<H.next->q≠rf->pt q≠b+3->H'.get q=H.get q)(Z:H'.get rf=some (.cells (qt i (gM f.name pf lf bf vf') (gM g.name pg lg bg vg)) 0 true))
 (M:vf'.length=5) (Y:vf'.all AV.one=true) (O:zlJ (fun q=>H.next<=q\/pt q=b+3) n' H' vf' w.cells):ProgX i (fun q=>if H.next<=q then b+3 else pt q) lo b b' n' H' ra rf x y {f with value:=w} g pf lf bf vf' pg lg bg vg:=by
 have U:=h.hb;have K:=h.lrf;have C:∀q,q<H.next->b<=pt q->pt q≠b+3->H'.get q=H.get q:=fun q m j V=>o q (h.lo_of ac) m (fun e=>mr) V
 refine h.upd ⟨ac,ac⟩ J z o Z ⟨M,Y,(h.F.ps.keep (fun k m j=>JF) J fun k m j=>C k j ac ac).up z,(h.F.ls.keep (fun k m j=>JC) J fun k m j=>C k j ac ac).up z,(h.F.bo.keep (fun k m j=>JD) J fun k m j=>C k j ac ac).up z,O.keep2 (fun k m j=>?_) (aB _) fun _ _ _=>rfl⟩;show(if _ then _ else _)=b+3;split
 .rfl
 .rcases j with j|j
  .omega
  .exact j
end
set_option maxRecDepth 100000 in
theorem mp8{lG:List En}(hG:MutL lG){i:Nat}{a h k:Int}{lo m P:Nat}{Hs H:Hp}{C I:Nat}{x y:Int}{f g:Fu}{pf lf bf:AV}{vf:List AV}{pg lg bg:AV}{vg:List AV}{E:aw}(hat:AtM i a h k lo m P Hs H C I x y f g pf lf bf vf pg lg bg vg E)(hh:h=8):zlt Tryz.prog (zkY pls lG) 26 285 zm2 E H (mT lo m P Hs):=by
 obtain⟨⟨pt,b,b',hX,hPt⟩,hi,hm,loP,ltP,gp,old,fs,gs,fn,gn,hpi,k2,k6,k7,k8,k9,k27⟩:=hat;have hkeep:(zkY pls lG).keep 26=false:=rfl;subst hh;obtain⟨v0,v1,v2,v3,v4,rfl⟩:=zmq hX.F.len;obtain⟨w0,zlG,w2,w3,w4,rfl⟩:=zmq hX.G.len;obtain⟨z0,z1,z2,z3,z4⟩:=ji hX.F.one;have ltA:=hX.ltA;have ltF:=hX.ltF;have hlo:=hX.hlo;have hbb:=hX.hb;have lrf:=hX.lrf;have lra:=hX.lra;have rfP:I≠P:=fun e=>oz;have raP:C≠P:=fun e=>nE;have hrr:=hX.ne;have lof:=hX.lo_of (q:=I) ac;have loa:=hX.lo_of (q:=C) ac;have e1:(I == H.next)=false:=zkV ac;have e2:(I == H.next+1)=false:=zkV ac;have e3:(I == H.next+2)=false:=zkV ac;have e4:(H.next == I)=false:=zkV ac;have e5:(I == P)=false:=zkV rfP;have e6:(P == I)=false:=zkV (Ne.symm rfP);have e7:(P == H.next)=false:=zkV ac;have e8:(P == H.next+1)=false:=zkV ac;have e9:(C == H.next)=false:=zkV ac;have e10:(C == H.next+1)=false:=zkV ac;have hpr:=zmO (n:=k) (m:=30) ac ac;obtain⟨M,hM⟩:∃M:Nat,zla k 30=(M:Int):=⟨(zla k 30).toNat,ac⟩;have hMl:M<30:=ac;have kp:=fun H=>znn hG.pick k 30 aE H;rw[hM]at kp;rcases hi with rfl|rfl;all_goals
  simp only[oA]at k8;first|have gf:=hX.gf0|have gf:=hX.gf1
  dsimp only[zm2,nG,mS,fW,lR];repeat' (first
   |(apply ah ?_;clear hK K)|apply Ry.o ?_|(apply bb (fun z J=>?_) (fun z J=>?_)<;>try(cases z;done))|apply ak ?_|(apply zkU fun K hK=>?_)|apply aG ?_|fail)
  refine zlL [2,6,7,8,9] [] 11 M (fun j E Y=>∃Z o u1 u2 u3 u4,ProgX _ Z lo b b' (14+j) Y C I x y {f with value:=tL j f.value} g pf lf bf [o,u1,u2,u3,u4] pg lg bg [w0,zlG,w2,w3,w4]/\Z P=0/\(∀q,q<H.next->pt q=0->Z q=0)/\(∀q,q<H.next->pt q=0->Y.get q=H.get q)) eE ⟨pt,v0,v1,v2,v3,v4,hX,hPt,fun _ _ h=>h,fun _ _ _=>rfl⟩ ?_;rintro j E Y hj hcE hrH hnH hsI ⟨Z,o,u1,u2,u3,u4,O,hP3,hl3,hf3⟩;(try simp only[zlm,zlb,aR,zk1,Nat.reduceBEq, *]at hcE);(try simp only[zlb, *]at hrH);(try simp only[zk9,zli,zlI,bL,Nat.reduceAdd]at hnH);have hnx:H.next<=Y.next:=Bb
  have f1:(I == Y.next)=false:=zkV ac;have f2:(I == Y.next+1)=false:=zkV ac;have f3:(I == Y.next+2)=false:=zkV ac;have ag:∀r,zlT 5 (o::u1::u2::u3::u4::r)=some (.agg [o,u1,u2,u3,u4]):=fun r=>rfl;first|have gf3:=O.gf0|have gf3:=O.gf1
  repeat' (first
   |(apply ah ?_;clear hK K)|apply Ry.o ?_|apply dG ?_|(apply d7 ?_;first|refine zlc (kp _) ?_)|(apply bb (fun z J=>?_) (fun z J=>?_)<;>try(cases z;done))|apply ak ?_|(apply zkU fun K hK=>?_)|apply aG ?_|apply zk3 ?_|apply zlu ?_)
  .have hlt:j<M:=by omega
   obtain⟨y0,y1,y2,y3,y4⟩:=ji O.F.one;repeat' (first
    |(apply ah ?_;clear hK K)|fail)
   refine⟨ac,zk8,zk8,zlF,yj,?_⟩;have lrf3:=O.lrf;refine⟨_,_,_,_,_,_,O.setV' (H':=_) (n':=14+(j+1)) (vf':=[.int .i64 4,.int .i64 0,.str [],.int .i64 21,.sl Y.next 0 1 5]) (tL (j+1) f.value) ?_ ac ?_ ?_ rfl rfl ?_,?_,?_,?_⟩
   .simp only[zli,zk9];omega
   .intro q _ V U _;rw[aJ,af U,zmI V]
   .rw[aJ,am rfl];rfl
   .refine uH (n:=14+j) _ _ _ _ (tA (n:=14+j) (a:=[[o,u1,u2,u3,u4]]) (b:=[(tL j f.value).cells]) (imm:=0) (tip:=true) (.inl (aB _)) (cE _) Tw ax ⟨⟨rfl,O.F.vw.keep2 (fun q _ h=>.inr h) (dQ _) fun q V U=>by rw[aJ,af (fun e=>by rw[e]at V;omega),zmI U]⟩,trivial⟩)
   .show(if _ then _ else _)=0;rw[af ac];exact hP3
   .intro q V U;show(if _ then _ else _)=0;rw[af ac];exact hl3 q V U
   .intro q V U;have:=hl3 q V U;rw[aJ,af (fun e=>by rw[e]at this;omega),zmI ac];exact hf3 q V U
  .have hje:j=M:=by omega
   subst hje;refine⟨rfl,eE,eE,qy hX hPt ltP gp old O hP3 hnx hf3 ac ?_ ac ⟨fn.1,fn.2.1,TF _ _ fn.2.2⟩ gn⟩;have:=TP j f.value;simp only[Fu.sz]at fs⊢;omega
set_option maxRecDepth 100000 in
theorem mp9{lG:List En}(hG:MutL lG){i:Nat}{a h k:Int}{lo m P:Nat}{Hs H:Hp}{C I:Nat}{x y:Int}{f g:Fu}{pf lf bf:AV}{vf:List AV}{pg lg bg:AV}{vg:List AV}{E:aw}(hat:AtM i a h k lo m P Hs H C I x y f g pf lf bf vf pg lg bg vg E)(hh:h=9):zlt Tryz.prog (zkY pls lG) 26 285 zm2 E H (mT lo m P Hs):=by
 obtain⟨⟨pt,b,b',hX,hPt⟩,hi,hm,loP,ltP,gp,old,fs,gs,fn,gn,hpi,k2,k6,k7,k8,k9,k27⟩:=hat;have hkeep:(zkY pls lG).keep 26=false:=rfl;subst hh;obtain⟨v0,v1,v2,v3,v4,rfl⟩:=zmq hX.F.len;obtain⟨w0,zlG,w2,w3,w4,rfl⟩:=zmq hX.G.len;obtain⟨z0,z1,z2,z3,z4⟩:=ji hX.F.one;have ltA:=hX.ltA;have ltF:=hX.ltF;have hlo:=hX.hlo;have hbb:=hX.hb;have lrf:=hX.lrf;have lra:=hX.lra;have rfP:I≠P:=fun e=>oz;have raP:C≠P:=fun e=>nE;have hrr:=hX.ne;have lof:=hX.lo_of (q:=I) ac;have loa:=hX.lo_of (q:=C) ac;have e1:(I == H.next)=false:=zkV ac;have e2:(I == H.next+1)=false:=zkV ac;have e3:(I == H.next+2)=false:=zkV ac;have e4:(H.next == I)=false:=zkV ac;have e5:(I == P)=false:=zkV rfP;have e6:(P == I)=false:=zkV (Ne.symm rfP);have e7:(P == H.next)=false:=zkV ac;have e8:(P == H.next+1)=false:=zkV ac;have e9:(C == H.next)=false:=zkV ac;have e10:(C == H.next+1)=false:=zkV ac;have hpr:=zmO (n:=k) (m:=30) ac ac;obtain⟨M,hM⟩:∃M:Nat,zla k 30=(M:Int):=⟨(zla k 30).toNat,ac⟩;have hMl:M<30:=ac;have kp:=fun H=>znn hG.pick k 30 aE H;rw[hM]at kp;rcases hi with rfl|rfl;all_goals
  simp only[oA]at k8;first|have gf:=hX.gf0|have gf:=hX.gf1
  dsimp only[zm2,nG,mS,fW,lR];repeat' (first
   |(apply ah ?_;clear hK K)|apply Ry.o ?_|(apply bb (fun z J=>?_) (fun z J=>?_)<;>try(cases z;done))|apply ak ?_|(apply zkU fun K hK=>?_)|apply aG ?_|fail)
  refine zlL [2,6,7,8,9] [] 12 M (fun j E Y=>∃U bf',ProgX _ U lo b b' (14+j) Y C I x y {f with body:=uW j f.body} g pf lf bf' [v0,v1,v2,v3,v4] pg lg bg [w0,zlG,w2,w3,w4]/\U P=0/\(∀q,q<H.next->pt q=0->U q=0)/\(∀q,q<H.next->pt q=0->Y.get q=H.get q)) eE ⟨pt,bf,hX,hPt,fun _ _ h=>h,fun _ _ _=>rfl⟩ ?_;rintro j E Y hj hcE hrH o hsI ⟨U,bf',O,hP3,hl3,hf3⟩;(try simp only[zlm,zlb,aR,zk1,Nat.reduceBEq, *]at hcE);(try simp only[zlb, *]at hrH);(try simp only[zk9,zli,zlI,bL,Nat.reduceAdd]at o);have hnx:H.next<=Y.next:=BP
  have f1:(I == Y.next)=false:=zkV ac;have f2:(I == Y.next+1)=false:=zkV ac;have f3:(I == Y.next+2)=false:=zkV ac;first|have gf3:=O.gf0|have gf3:=O.gf1
  obtain⟨o1,o2⟩:=O.F.bo.one;repeat' (first
   |(apply ah ?_;clear hK K)|apply Ry.o ?_|(apply d7 ?_;first|refine zlc (kp _) ?_)|(apply bb (fun z J=>?_) (fun z J=>?_)<;>try(cases z;done))|apply ak ?_|(apply zkU fun K hK=>?_)|apply aG ?_|apply zk3 ?_|apply zlu ?_)
  .have hlt:j<M:=by omega
   have gh0:=@zkg;repeat' (first
    |(apply ah ?_;clear hK K)|apply Rx.o ?_|apply bS ?_|(apply zkU fun K hK=>?_)|fail)
   refine⟨ac,zk8,zk8,zlF,yj,?_⟩;have lrf3:=O.lrf;refine⟨_,_,O.setB (H':=_) (n':=14+(j+1)) (bf':=.sl Y.next 0 1 17) (uW (j+1) f.body) ?_ ac ?_ ?_ ?_,?_,?_,?_⟩
   .simp only[zli,zk9];omega
   .intro q _ V Z _;rw[aJ,af Z,zmI V]
   .rw[aJ,am rfl];rfl
   .refine .inr ⟨Y.next,0,[[.int .i64 3,.str [],.str [],.int .i64 0,.int .i64 0,.int .i64 0,.str [],.int .i64 0,.nilS,.int .i64 1,.int .i64 0,.str [],.int .i64 0,.nilS,.nilS,bf',.nilS]],rfl,am (aB _),cE _,Tw,ax,⟨rfl,?_⟩,trivial⟩;exact pw (n:=14+j) 3 [] [] 0 nD (oo 1 0 0 []) .nilS (O.F.bo.rd.keep2 (fun q V Z=>⟨by show(if _ then _ else _)=_;rw[af ac];exact Z,ac⟩) (dQ _) fun q V Z=>by rw[aJ,af (fun e=>by rw[e]at V;omega),zmI Z]) .nilS
   .show(if _ then _ else _)=0;rw[af ac];exact hP3
   .intro q V Z;show(if _ then _ else _)=0;rw[af ac];exact hl3 q V Z
   .intro q V Z;have:=hl3 q V Z;rw[aJ,af (fun e=>by rw[e]at this;omega),zmI ac];exact hf3 q V Z
  .have hje:j=M:=by omega
   subst hje;refine⟨rfl,eE,eE,qy hX hPt ltP gp old O hP3 hnx hf3 ac ?_ ac ⟨fn.1,TG _ _ fn.2.1,fn.2.2⟩ gn⟩;have:=TQ j f.body;simp only[Fu.sz]at fs⊢;omega
end
section
def tyMuQd.tyF:=ad @ec (ad @cJ (ad @oQ (ad @dd (ad @gY (ad @iQ (ad @fI (ad @fx (ad @em (ad @en (ad @zms (ad @iR (ad @jw (ad @rH (ad @eY (ad @pU (@yg))))))))))))))))
open tyMuQd
theorem J0:∀a b:List Ex,zlZ (a++b)=zlZ a+zlZ b
 |[],b=>by rw[ly,zlZ];omega
 |x::a,b=>by rw[lI,zlZ,zlZ,J0 a b];omega
mutual
theorem EW:∀(e:Ex) (j a:Int),(gh e j a).sz<=e.sz+20
 | .mk k n M V K,j,a=>by
   have m:=uX (l:=EK) aE (zla a 6).toNat;have Z:=TS K (zla a K.length).toNat (bE (j.tdiv 9)) (bE (a.tdiv 3));rw[gh];(repeat' split)<;>simp only[Ex.sz,J0,zlZ,uR,eW,ye]<;>omega
theorem TS:∀(l:List Ex) (i:Nat) (j a:Int),zlZ (py l i j a)<=zlZ l+20
 |[],_,_,_=>by rw[py];omega
 |x::l,0,j,a=>by
  have:=EW x j a;rw[py,zlZ,zlZ];omega
 |x::l,i+1,j,a=>by
  have:=TS l i j a;rw[py,zlZ,zlZ];omega
end
mutual
theorem TT:∀(e:St) (j a:Int),(jE e j a).sz<=e.sz+40
 | .mk k nm to n e v C Z m,j,a=>by
   have h1:=uX (l:=EO) aE (zla a 6).toNat;have h2:=uX (l:=EP) aE (zla a 5).toNat;have h3:=TU Z (zla a Z.length).toNat (bE (j.tdiv 13)) (bE (a.tdiv 3));have h4:=EW e (bE (j.tdiv 13)) a;have h5:=EW v (bE (j.tdiv 13)) a;rw[jE];generalize zla j 13=q;by_cases c0:q=0
   .rw[am c0];simp only[St.sz,];omega
   rw[af c0];by_cases Y:q=1
   .rw[am Y];simp only[St.sz,ye];omega
   rw[af Y];by_cases V:q=2
   .rw[am V];simp only[St.sz,ye];omega
   rw[af V];by_cases o:q=3
   .rw[am o];simp only[St.sz,];omega
   rw[af o];by_cases U:q=4
   .rw[am U];simp only[St.sz,];omega
   rw[af U];by_cases O:q=5
   .rw[am O];simp only[St.sz,];omega
   rw[af O];by_cases M:q=6
   .rw[am M];simp only[St.sz,J0,zlZ,Ex.sz,uR,eW];omega
   rw[af M];by_cases K:q=7
   .rw[am K];simp only[St.sz,zlZ,];omega
   rw[af K];by_cases J:q=8
   .rw[am J];simp only[St.sz,zlZ,wE,zld,Ex.sz,zm1,uU,eW];omega
   rw[af J];by_cases I:q=9
   .rw[am I];simp only[St.sz,zlZ,wE,zld,Ex.sz,zm1,uU,eW];omega
   rw[af I];by_cases z:q=10
   .rw[am z];simp only[St.sz,];omega
   rw[af z];simp only[St.sz];omega
theorem TU:∀(l:List St) (i:Nat) (j a:Int),zld (pz l i j a)<=zld l+40
 |[],_,_,_=>by rw[pz];omega
 |x::l,0,j,a=>by
  have:=TT x j a;rw[pz,zld,zld];omega
 |x::l,i+1,j,a=>by
  have:=TU l i j a;rw[pz,zld,zld];omega
end
theorem zkj(r:Nat):zlO Tryz.prog 24 (.sl r 0 2 2) (.int .i64 0)=some (.ptr r 0):=aj
theorem zkk(r:Nat):zlO Tryz.prog 24 (.sl r 0 2 2) (.int .i64 1)=some (.ptr r 2):=aj
set_option maxRecDepth 100000 in
theorem mp5{U:List En}(hG:MutL U){i:Nat}{a h k:Int}{lo m P:Nat}{Hs H:Hp}{C I:Nat}{x y:Int}{f g:Fu}{pf lf bf:AV}{vf:List AV}{pg lg bg:AV}{vg:List AV}{E:aw}(O:AtM i a h k lo m P Hs H C I x y f g pf lf bf vf pg lg bg vg E)(hh:h=5):zlt Tryz.prog (zkY pls U) 26 285 zm2 E H (mT lo m P Hs):=by
 obtain⟨⟨pt,b,b',hX,Z⟩,hi,hm,loP,z,gp,Y,fs,gs,fn,gn,o,k2,k6,k7,k8,k9,k27⟩:=O;have hkeep:(zkY pls U).keep 26=false:=rfl;subst hh;obtain⟨v0,v1,v2,v3,v4,rfl⟩:=zmq hX.F.len;obtain⟨w0,zlG,w2,w3,w4,rfl⟩:=zmq hX.G.len;obtain⟨z0,z1,z2,z3,z4⟩:=ji hX.F.one;have ltA:=hX.ltA;have ltF:=hX.ltF;have hlo:=hX.hlo;have hbb:=hX.hb;have lrf:=hX.lrf;have lra:=hX.lra;have J:I≠P:=fun e=>oz;have raP:C≠P:=fun e=>nE;have hrr:=hX.ne;have lof:=hX.lo_of (q:=I) ac;have loa:=hX.lo_of (q:=C) ac;have e1:(I == H.next)=false:=zkV ac;have e2:(I == H.next+1)=false:=zkV ac;have e3:(I == H.next+2)=false:=zkV ac;have e4:(H.next == I)=false:=zkV ac;have e5:(I == P)=false:=zkV J;have e6:(P == I)=false:=zkV (Ne.symm J);have e7:(P == H.next)=false:=zkV ac;have e8:(P == H.next+1)=false:=zkV ac;have e9:(C == H.next)=false:=zkV ac;have e10:(C == H.next+1)=false:=zkV ac;have hga:=hX.ga;have kq:=znn hG.pick k 20 aE;have V:=znn hG.pick a 2 aE;rcases hi with rfl|rfl;all_goals
  simp only[oA]at k8;first|have gf:=hX.gf0|have gf:=hX.gf1
  first|(replace o:zla a 2=0:=o)|(replace o:zla a 2=1:=o)
  rw[o]at V;dsimp only[zm2,nG,mS,fW,lR];have gh0:=@zkj;have gh1:=@zkk;repeat' (first
   |(apply ah ?_;clear hK K)|apply Ry.o ?_|apply dG ?_|(apply d7 ?_;first|refine zlc (V _) ?_|refine zlc (kq _) ?_)|(apply bb (fun hb M=>?_) (fun hb M=>?_)<;>try(cases hb;done))|apply ak ?_|(apply zkU fun K hK=>?_)|(apply zmm 17 [(1,3),(1,5),(1,9)] fun K hK=>?_)|(apply zlC ?_;try intro _)|(apply zmk ?_ ?_<;>clear hK K)|apply bZ ?_|apply zmK rfl ?_|apply aG ?_|fail)
  .exact zlU
  first
  |refine⟨rfl,eE,eE,qy hX Z z gp Y (hX.setA (x':=IntKind.wrap .i64 (zla k 20-1)) (y':=y) (nf:=f.name) ?_ ?_ ?_ ?_) Z ?_ ?_ ac (by show f.sz<_;omega) ac fn gn⟩<;>(first|(rw[aJ,am rfl];done)|skip)
   ·simp only[zli];omega
   .intro q _ h1 j h3;rw[aJ,af j]
   .rw[aJ,af ac];exact hX.gf
   .simp only[zli];omega
   .intro q h1 j;rw[aJ,af (fun e=>mr)]
  |refine⟨rfl,eE,eE,qy hX Z z gp Y (hX.setA (x':=x) (y':=IntKind.wrap .i64 (zla k 20-1)) (nf:=f.name) ?_ ?_ ?_ ?_) Z ?_ ?_ ac (by show f.sz<_;omega) ac fn gn⟩<;>(first|(rw[aJ,am rfl];done)|skip)
   ·simp only[zli];omega
   .intro q _ h1 j h3;rw[aJ,af j]
   .rw[aJ,af ac];exact hX.gf
   .simp only[zli];omega
   .intro q h1 j;rw[aJ,af (fun e=>mr)]
set_option maxRecDepth 100000 in
theorem mp7{V:List En}(hG:MutL V){i:Nat}{a h k:Int}{lo m P:Nat}{Hs H:Hp}{Z I:Nat}{x y:Int}{f g:Fu}{pf lf bf:AV}{vf:List AV}{pg lg bg:AV}{vg:List AV}{E:aw}(U:AtM i a h k lo m P Hs H Z I x y f g pf lf bf vf pg lg bg vg E)(hh:h=7):zlt Tryz.prog (zkY pls V) 26 285 zm2 E H (mT lo m P Hs):=by
 obtain⟨⟨pt,b,b',hX,Y⟩,hi,hm,loP,z,gp,M,fs,gs,fn,gn,hpi,k2,k6,k7,k8,k9,k27⟩:=U;have hkeep:(zkY pls V).keep 26=false:=rfl;subst hh;obtain⟨v0,v1,v2,v3,v4,rfl⟩:=zmq hX.F.len;obtain⟨w0,zlG,w2,w3,w4,rfl⟩:=zmq hX.G.len;obtain⟨z0,z1,z2,z3,z4⟩:=ji hX.F.one;have ltA:=hX.ltA;have ltF:=hX.ltF;have hlo:=hX.hlo;have hbb:=hX.hb;have lrf:=hX.lrf;have lra:=hX.lra;have J:I≠P:=fun e=>oz;have raP:Z≠P:=fun e=>nE;have hrr:=hX.ne;have lof:=hX.lo_of (q:=I) ac;have loa:=hX.lo_of (q:=Z) ac;have e1:(I == H.next)=false:=zkV ac;have e2:(I == H.next+1)=false:=zkV ac;have e3:(I == H.next+2)=false:=zkV ac;have e4:(H.next == I)=false:=zkV ac;have C:(I == P)=false:=zkV J;have e6:(P == I)=false:=zkV (Ne.symm J);have e7:(P == H.next)=false:=zkV ac;have e8:(P == H.next+1)=false:=zkV ac;have e9:(Z == H.next)=false:=zkV ac;have e10:(Z == H.next+1)=false:=zkV ac;rcases hi with rfl|rfl;all_goals
  simp only[oA]at k8;first|have gf:=hX.gf0|have gf:=hX.gf1
  have ag:∀r,zlT 5 (v0::v1::v2::v3::v4::r)=some (.agg [v0,v1,v2,v3,v4]):=fun r=>rfl;dsimp only[zm2,nG,mS,fW,lR];repeat' (first
   |(apply ah ?_;clear hK K)|apply Ry.o ?_|(apply bb (fun hb j=>?_) (fun hb j=>?_)<;>try(cases hb;done))|apply ak ?_|(apply zkU fun K hK=>?_)|apply aG ?_|fail)
  refine aZ rfl bc bi ?_;simp only[bj];refine aS ?_ (zjZ hG.me hG.mei (n:=14) ac hX.F.vw (by simp only[Fu.sz]at fs;omega) k a);rintro _ H5 ⟨rfl,o⟩;have hes:=EW f.value k a;have hr5:=ES f.value k a fn.2.2;generalize gh f.value k a=C at *;rw[mc];have gr:=(o.out I (show ¬pt I=b+3 by omega)).trans gf;have n5:=o.next
  dsimp only[zk6];repeat' (first
   |(apply ah ?_;clear hK K)|apply Rx.o ?_|apply bS ?_|fail)
  refine⟨rfl,eE,eE,qy hX Y z gp M (hX.setV' (H':=_) (n':=14) (vf':=[.int .i64 C.kind,.int .i64 C.n,.str C.name,.int .i64 C.op,.lst (C.kids.map Ex.cells)]) C ?_ ac ?_ ?_ rfl rfl (JT (n:=13) C)) ?_ ?_ ?_ ac ?_ ac ⟨fn.1,fn.2.1,hr5⟩ gn⟩
  .simp only[zli];omega
  .intro q _ h1 O h3;rw[aJ,af O];exact o.out q h3
  .rw[aJ,am rfl];rfl
  .show(if _ then _ else _)=0;rw[af ac];exact Y
  .simp only[zli];omega
  .intro q h1 O;rw[aJ,af (fun e=>by rw[e]at O;omega)];exact o.out q (show ¬pt q=b+3 by omega)
  .simp only[Fu.sz]at fs⊢;omega
end
section
def tyMuQe.tyF:=ad @ec (ad @cJ (ad @oQ (ad @dd (ad @gY (ad @iQ (ad @fI (ad @fx (ad @em (ad @en (ad @zms (ad @iR (ad @jw (ad @rH (ad @eY (ad @pU (ad @qK (@Tp)))))))))))))))))
open tyMuQe
theorem TV:∀(l:List St) (i:Nat) (e:St),i<l.length->zld (l.set i e)<=zld l+e.sz
 |[],_,_,h=>by simp at h
 |x::l,0,e,_=>by rw[CX,zld,zld];omega
 |x::l,i+1,e,h=>by
  have:=TV l i e j8;rw[Hk,zld,zld];omega
theorem stW{S:Nat->Prop}{n:Nat}{H:Hp}(e:St):zlJ S (n+1) H e.cells e.cells:=(dO.sts [e]).1.2
theorem zxp{S:Nat->Prop}{n m:Nat}{H:Hp}{c u w:AV}(h:zl5 S n H c u)(e:bX m u=w)(O:(∃k x,w=.int k x)\/(∃s,w=.str s)\/∃l,w=.lst l):AV.one c=true:=by
 cases n with
 |zero=>exact h.elim
 |succ n=>
  cases c with
  |agg z=>
   obtain⟨Y,_,rfl⟩:=h;cases m<;>rcases O with⟨_,_,rfl⟩|⟨_,rfl⟩|⟨_,rfl⟩<;>simp[bX]at e
  |tup z=>
   obtain⟨_,rfl⟩:=h;cases m<;>rcases O with⟨_,_,rfl⟩|⟨_,rfl⟩|⟨_,rfl⟩<;>simp[bX]at e
  |_=>first|rfl|(obtain⟨_,rfl⟩:=h;cases m<;>rcases O with⟨_,_,rfl⟩|⟨_,rfl⟩|⟨_,rfl⟩<;>simp[bX]at e)
theorem TW{S:Nat->Prop}{n m:Nat}{H:Hp}:∀{z j U:List AV},cr (zl5 S n H) z j->j.map (bX m)=U->(∀w∈U,(∃k x,w=.int k x)\/(∃s,w=.str s)\/∃l,w=.lst l)->z.all AV.one=true
 |[],_,_,_,_,_=>rfl
 |c::z,u::j,U,h,e,hw=>by
  subst e;rw[nY,zxp (m:=m) h.1 rfl (hw _ ee),TW (m:=m) h.2 rfl fun w Z=>hw w (el _ Z)];rfl
theorem zxq(x:St):∀w∈x.cells,(∃k x,w=AV.int k x)\/(∃s,w=AV.str s)\/∃l,w=AV.lst l:=by
 rw[oP];intro w O;simp only[jp]at O;rcases O with rfl|rfl|rfl|rfl|rfl|rfl|rfl|rfl|rfl|rfl|rfl|rfl|rfl|rfl|rfl|rfl|rfl<;>simp
theorem TX{S:Nat->Prop}{n:Nat}{H:Hp}:∀{V:List (List AV)}{l:List St},dO S n H 17 V (l.map St.cells)->V.flatten.all AV.one=true
 |[],[],_=>rfl
 |r::V,x::l,h=>by
  obtain⟨Z,m,j⟩:=h.1.2;rw[mW,wn,TW m (j n (aB _)) (zxq x),TX h.2];rfl
theorem dO.icy{S:Nat->Prop}{n z:Nat}{H H':Hp}{a b:List (List AV)}(h:dO S n H z a b)(J:H.next<=H'.next)(K:∀k,S k->k<H.next->sY (H.get k) (H'.get k)):dO S n H' z a b:=cr.mono (fun x y k=>⟨k.1,k.2.frame (fun _ h=>h) J K⟩) h
set_option maxRecDepth 100000 in
theorem Bg{lG:List En}(hG:MutL lG){i:Nat}{a h k:Int}{lo m P:Nat}{Hs H:Hp}{ra I:Nat}{x y:Int}{f g:Fu}{pf lf bf:AV}{vf:List AV}{pg lg bg:AV}{vg:List AV}{E:aw}(hat:AtM i a h k lo m P Hs H ra I x y f g pf lf bf vf pg lg bg vg E)(hh:12<=h/\h<=16):zlt Tryz.prog (zkY pls lG) 26 285 zm2 E H (mT lo m P Hs):=by
 obtain⟨⟨pt,b,b',hX,hPt⟩,hi,hm,loP,ltP,gp,old,fs,gs,fn,gn,hpi,k2,k6,k7,k8,k9,k27⟩:=hat;have hkeep:(zkY pls lG).keep 26=false:=rfl
 skip
 obtain⟨v0,v1,v2,v3,v4,rfl⟩:=zmq hX.F.len;obtain⟨w0,zlG,w2,w3,w4,rfl⟩:=zmq hX.G.len;obtain⟨z0,z1,z2,z3,z4⟩:=ji hX.F.one;have ltA:=hX.ltA;have ltF:=hX.ltF;have hlo:=hX.hlo;have hbb:=hX.hb;have lrf:=hX.lrf;have lra:=hX.lra;have rfP:I≠P:=fun e=>oz;have raP:ra≠P:=fun e=>nE;have hrr:=hX.ne;have lof:=hX.lo_of (q:=I) ac;have loa:=hX.lo_of (q:=ra) ac;have e1:(I == H.next)=false:=zkV ac;have e2:(I == H.next+1)=false:=zkV ac;have e3:(I == H.next+2)=false:=zkV ac;have e4:(H.next == I)=false:=zkV ac;have e5:(I == P)=false:=zkV rfP;have U:(P == I)=false:=zkV (Ne.symm rfP);have e7:(P == H.next)=false:=zkV ac;have e8:(P == H.next+1)=false:=zkV ac;have e9:(ra == H.next)=false:=zkV ac;have e10:(ra == H.next+1)=false:=zkV ac;have q1:¬h=1:=ac;have q2:¬h=2:=ac;have q3:¬h=3:=ac;have q4:¬h=4:=ac;have q5:¬h=5:=ac;have q6:¬h=6:=ac;have q7:¬h=7:=ac;have q8:¬h=8:=ac;have q9:¬h=9:=ac;have q10:¬h=10:=ac;have q11:¬h=11:=ac;have q17:¬h=17:=ac;have q18:¬h=18:=ac;obtain⟨N,hN⟩:∃N,f.body.length=N:=⟨_,rfl⟩;have hNl:N<2^30:=by have Z:=znP f.body;simp only[Fu.sz]at fs;omega
 have hlen:∀H,zlS Tryz.prog H 60 bf=some (.int .i64 N):=fun H=>by have:=hX.F.bo.len (P:=Tryz.prog) (H':=H) Tryz.underlying60;rw[cp,hN]at this;exact this
 obtain⟨o1,o2⟩:=hX.F.bo.one;have hq2:(2:Int)≠0:=aE;have kpn:∀n:Int,(0:Int)<N->∀H,zk5 Tryz.prog (zkY pls lG) 12 [.int .i64 n,.int .i64 (N:Int)] H fun v H'=>v=.int .i64 (zla n N)/\H'=H:=fun n h H=>znn hG.pick n N ac H;rcases hi with rfl|rfl;all_goals
  simp only[oA]at k8;first|have gf:=hX.gf0|have gf:=hX.gf1
  dsimp only[zm2,nG,mS,fW,lR];repeat' (first
   |(apply ah ?_;clear hK K)|apply Ry.o ?_|(apply d7 ?_;first|refine zlc (kpn _ ac _) ?_)|(apply bb (fun hb hbp=>?_) (fun hb hbp=>?_)<;>try(cases hb;done))|apply ak ?_|(apply zkU fun K hK=>?_)|apply aG ?_|apply zk3 ?_|fail)
  all_goals (try exact⟨rfl,eE,eE,tK.of hX hPt ltP gp old ac ac ac fn gn⟩)
  all_goals
   have hNp:0<N:=ac;obtain⟨k1,rfl⟩:∃k1,N=k1+1:=⟨N-1,ac⟩;obtain⟨q0,imm0,V,rfl,s0,zn4,g0,i0,Y⟩:∃q C V,bf=.sl q 0 (k1+1) 17/\pt q=b+2/\q<H.next/\H.get q=some (.cells V.flatten C true)/\C<=V.flatten.length/\dO (fun k=>pt k=b+2/\k≠q) 14 H 17 V (f.body.map St.cells):=by
    rcases hX.F.bo with⟨_,e⟩|⟨q,C,V,e,Z,j,h3,h4,h5⟩
    .have:=jm List.length e;rw[cp,hN]at this;simp at this
    .exact⟨q,C,V,by rw[e,show V.length=(f.body.map St.cells).length from cr.len h5,cp,hN],Z,j,h3,h4,h5⟩
   have hrl:V.length=k1+1:=by rw[show V.length=(f.body.map St.cells).length from cr.len Y,cp,hN]
   have M:=dO.len Y;have hfl:V.flatten.length=(k1+1)*17:=by rw[vN M,hrl]
   have hone:=TX Y;have e11:(q0 == H.next)=false:=zkV ac;have hx:zmM (H.alloc (.cells [] 0 true)) 17 (.sl q0 0 (k1+1) 17)=some (k1+1,V.flatten):=by
    have:=sN (H:=H.alloc (.cells [] 0 true)) (cs:=V.flatten) (r:=q0) (o:=0) (n:=k1+1) (z:=17) (s:=17) (by rw[zmI zn4];exact g0) (by simp[hfl]);rw[this,fH,gl ac]
   have a1:=zBW (P:=Tryz.prog) (t:=60) Tryz.underlying60 qN sQ RB dT aj (H:=H.alloc (.cells [] 0 true)) (q:=H.next) (m:=0) (k:=k1) (cs:=[]) (row:=V.flatten) (v:=.sl q0 0 (k1+1) 17) gH rfl hx hone Eh Eh;generalize hH4:((H.alloc (.cells [] 0 true)).kill H.next).alloc (.cells ([]++V.flatten) 0 true)=H4 at a1;have n4:H4.next=H.next+2:=by rw[<-hH4];rfl
   have o4:∀q,q<H.next->H4.get q=H.get q:=fun q Z=>by rw[<-hH4,zkZ,af (by simp only[zn0,zk9];omega),znf,af ac,zmI Z]
   have g4:H4.get (H.next+1)=some (.cells V.flatten 0 true):=by rw[<-hH4,zkZ,am dT];rfl
   clear hH4;simp only[zk9,bL]at a1;have gf4:=(o4 I ltF).trans gf;generalize hq:(zla (bE (a.tdiv 2)) ((k1+1:Nat):Int))=qn at *;have hqr:=zmO (n:=bE (a.tdiv 2)) (m:=((k1+1:Nat):Int)) ac ac;rw[hq]at hqr;obtain⟨O,rfl⟩:∃O:Nat,qn=(O:Int):=⟨qn.toNat,ac⟩;have hqi:O<k1+1:=ac;have hix:∀r,zlO Tryz.prog 60 (.sl r 0 (k1+1) 17) (.int .i64 (O:Int))=some (.ptr r (O*17)):=fun r=>by
    have:=To r (k1+1) (n:=(O:Int)) ac ac;rw[ja]at this;exact this
   have hrq:V[O]?=some V[O]:=aT ac;have hbq:f.body[O]?=some f.body[O]:=aT ac;have hag:=JM M hrq;have e12:(H.next+1 == I)=false:=zkV ac;have hle:O*17+17<=V.flatten.length:=ac;repeat' (first
    |(apply ah ?_;clear hK K)|apply Rx.o ?_|apply bS ?_|(apply zmm 50 [(3,14),(3,16),(8,14),(11,14)] fun K hK=>?_)|(apply zlC ?_;try intro _)|apply bZ ?_|fail)
   refine aZ rfl bc bi ?_;simp only[iw];have hrowq:zlJ (fun q=>pt q=b+2/\q≠q0) 14 H V[O] (f.body[O]).cells:=(cr.get Y hrq (by rw[eS,hbq];rfl)).2;generalize J:Hp.set H4 I _=H5;have n5:H5.next=H.next+2:=by rw[<-J];exact n4
   have o5:∀q,q<H.next->q≠I->H5.get q=H.get q:=fun q Z j=>by rw[<-J,aJ,af j,o4 q Z]
   have g5:H5.get (H.next+1)=some (.cells V.flatten 0 true):=by rw[<-J,aJ,af ac];exact g4
   have gf5:=show H5.get I=some _ by rw[<-J,aJ,am rfl]
   have hrow5:=hrowq.keep2 (S':=fun q=>pt q=b+2/\q<H.next) (fun k Z j=>⟨j.1,Z⟩) (by omega:H.next<=H5.next) (fun k Z j=>o5 k j (fun e=>by rw[e]at Z;omega));have hbs:=znL (cR (by omega:O<f.body.length));refine aS ?_ (zj1 hG.ms hG.msi (n:=14) ac hrow5 (by simp only[Fu.sz]at fs;omega) k a);rintro _ H6 ⟨rfl,hI⟩;have g6:=(hI.out (H.next+1) (fun h=>ac)).trans g5;have gf6:=(hI.out I (fun h=>ac)).trans gf5;have n6:=hI.next
   have hes:=TT f.body[O] k a;have hr6:=TD f.body[O] k a (JY fn.2.1 _ (cR _));generalize jE f.body[O] k a=U at *;rw[oP];dsimp only[zk6];clear hfl;repeat' (first
    |apply Rx.o ?_|apply bS ?_|(apply zlC ?_;try intro _)|(apply zmk ?_ ?_<;>clear hK K)|apply bZ ?_|apply zmK rfl ?_|fail)
   .exact zlU
   have hsp:=JL (w:=[.int .i64 U.kind,.str U.name,.str U.to,.int .i64 U.n,.int .i64 U.at_.kind,.int .i64 U.at_.n,.str U.at_.name,.int .i64 U.at_.op,.lst (U.at_.kids.map Ex.cells),.int .i64 U.value.kind,.int .i64 U.value.n,.str U.value.name,.int .i64 U.value.op,.lst (U.value.kids.map Ex.cells),.lst (U.args.map Ex.cells),.lst (U.thn.map St.cells),.lst (U.els.map St.cells)]) rfl M (i:=O) ac;rw[Gw]at hsp;generalize hH7:Hp.set H6 (H.next+1) _=H7;have n7:H7.next=H.next+2:=by rw[<-hH7,zli];omega
   have o7:∀q,q≠H.next+1->H7.get q=H6.get q:=fun q Z=>by rw[<-hH7,aJ,af Z]
   have g7:H7.get (H.next+1)=some (.cells (V.set O U.cells).flatten 0 true):=by rw[<-hH7,aJ,am rfl,oP];exact jm (fun c=>some (HB.cells c 0 true)) hsp
   clear hH7 hsp J;refine⟨rfl,eE,eE,qy hX hPt ltP gp old (hX.setB (H':=H7) (n':=14) (bf':=.sl (H.next+1) 0 (k1+1) 17) (f.body.set O U) ?_ ac ?_ ?_ ?_) ?_ ?_ ?_ ac ?_ ac ⟨fn.1,zB0 fn.2.1 hr6,fn.2.2⟩ gn⟩
   .omega
   .intro q _ Z j h3;rw[o7 q ac,hI.out q (fun h=>h3 h.1),o5 q Z j]
   .rw[o7 I ac,gf6];rfl
   .refine .inr ⟨H.next+1,0,V.set O U.cells,by rw[jd,hrl],am ac,ac,g7,dm _,?_⟩;have hr7:dO (fun k=>(if H.next<=k then b+2 else pt k)=b+2/\k≠H.next+1) 14 H7 17 V (f.body.map St.cells):=by
     have h5:=Y.keep2 (S':=fun k=>pt k=b+2/\k<H.next) (fun k Z j=>⟨j.1,Z⟩) (by omega:H.next<=H5.next) (fun k Z j=>o5 k j (fun e=>by rw[e]at Z;omega));have h6:=h5.icy (H':=H6) ac fun k _ _=>hI.same k;exact h6.keep2 (fun k Z j=>⟨by rw[af ac];exact j.1,ac⟩) ac fun k Z j=>o7 k (by have:=Z.2;omega)
    rw[qL];exact cr.set hr7 ⟨St.clen _,stW U⟩
   .show(if _ then _ else _)=0;rw[af ac];exact hPt
   .omega
   .intro q Z j;rw[o7 q ac,hI.out q (fun h=>ac),o5 q Z (fun e=>mr)]
   .have hss:=TV f.body O U ac;simp only[Fu.sz]at fs⊢;omega
end
end Go.Proofs.YtpbcimfiofmoeaaGreat
