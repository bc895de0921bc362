/- Parts: SpecC, RenB, RenC, SpecD, RenD, RenE, RenF. -/
import Derived.Test.YtpbcimfiofmoeaaNCO
set_option linter.unusedSimpArgs false
set_option linter.unusedVariables false
set_option linter.unusedSectionVars false
set_option linter.defProp false
set_option maxHeartbeats 32000000
namespace Go.Ab
set_option maxRecDepth 20000
open Go
theorem z8{P:Prop}(h:P:=by rw[List.take_add_one,hgx];rfl):P:=h
theorem lR{P:Prop}(h:P:=by rw[List.length_map,List.length_take];simp[zcw];omega):P:=h
theorem Dy{P:Prop}(h:P:=by rw[<- hHb];exact Nat.le_refl _):P:=h
theorem Dz{P:Prop}(h:P:=by rw[<- hH5];exact Nat.le_refl _):P:=h
theorem z9{P:Prop}(h:P:=by have:=zdH Y;rw[List.length_map,List.length_take];simp[zcw];omega):P:=h
theorem KW{P:Prop}(h:P:=by rw[htk2,List.map_append,List.map_cons,hyy J zbp rfl rfl];exact s6):P:=h
theorem wO{P:Prop}(h:P:=by rw[<- sW];exact zbI.ex _):P:=h
theorem KX{P:Prop}(h:P:=by simp only[List.all_cons,List.all_nil,o1];rfl):P:=h
theorem DA{P:Prop}(h:P:=by rw[<- hH5,zaY,if_pos cN]):P:=h
theorem KY{P:Prop}(h:P:=by rw[<- hH5,zaY,if_neg f0,Hp.get_set,if_neg ac,zaY,if_neg ac]):P:=h
theorem KZ{P:Prop}(h:P:=by rw[f6 q ac (hne q hq)];exact k5 q ac):P:=h
theorem K0{P:Prop}(h:P:=by simp only[za4,Nat.reduceBEq, *];exact zc7 (n:=Y.length) ac ac):P:=h
theorem K1{P:Prop}(h:P:=by simp only[za4,Nat.reduceBEq, *];exact zc7 (n:=xs.length) ac ac):P:=h
end Go.Ab
namespace Go.Proofs.Ytpbcimfiofmoeaa
set_option maxRecDepth 20000
open Go Go.Ab
section
mutual
def zcm:Ex->Nat
 | .mk k _ _ _ L=>if k=1 then 1 else if k=2 then 0 else 4+cEs L
def cEs:List Ex->Nat
 |[]=>0
 |e::es=>zcm e+cEs es
end
theorem ZM(x:Ex):zcm x=if x.kind=1 then 1 else if x.kind=2 then 0 else 4+cEs x.kids:=by cases x;rw[zcm];rfl
mutual
def c1:St->Nat
 | .mk k _ _ _ a v Y Z V=>if k=1 then zcm v else if k=2 then zcm a+zcm v+4 else if k=3 then zcm v+gO Z+gO V+5 else if k=4 then 2*zcm v+gO Z+16 else if k=5 then zcm v+1 else if k=6 then cEs Y+2 else if k=7 then 2 else 0
def gO:List St->Nat
 |[]=>0
 |x::l=>c1 x+gO l
end
theorem ZN(x:St):c1 x=if x.kind=1 then zcm x.value else if x.kind=2 then zcm x.at_+zcm x.value+4 else if x.kind=3 then zcm x.value+gO x.thn+gO x.els+5 else if x.kind=4 then 2*zcm x.value+gO x.thn+16 else if x.kind=5 then zcm x.value+1 else if x.kind=6 then cEs x.args+2 else if x.kind=7 then 2 else 0:=by cases x;rw[c1];rfl
theorem DB{L:List Ex}{a:Ex}(h:L[0]?=some a):zcm a<=cEs L:=by
 match L,h with
 |x::l,h=>
  simp only[pS,az]at h;subst h;rw[cEs];omega
theorem K2{L:List Ex}{a b:Ex}(h:L[0]?=some a)(k:L[1]?=some b):zcm a+zcm b<=cEs L:=by
 match L,h,k with
 |x::l,h,k=>
  simp only[pS,pR,az]at h k;subst h;rw[cEs];have:=DB k;omega
theorem ZO{L:List Ex}{a b c:Ex}(h:L[0]?=some a)(k:L[1]?=some b)(m:L[2]?=some c):zcm a+zcm b+zcm c<=cEs L:=by
 match L,h,k,m with
 |x::l,h,k,m=>
  simp only[pS,pR,az]at h k m;subst h;rw[cEs];have:=K2 k m;omega
theorem zcZ(n:Nd)(s:Bd):(zaX n s).2.l.length<=s.l.length+1:=Ke _ _
theorem uj(c a b:Int)(s:Bd):(zbi c a b s).2.l.length<=s.l.length+1:=by
 unfold zbi;split
 .exact dV _
 .exact zcZ _ _
theorem DC(t v:Int)(s:Bd):(nu t v s).l.length<=s.l.length+1:=zcZ _ _
theorem K3(n i:Int)(s:Bd):(fd n i s).l.length<=s.l.length+3:=by
 have a:=zcZ ⟨1,n,[]⟩ s;have b:=zcZ ⟨19,0,[i,(zaX ⟨1,n,[]⟩ s).1]⟩ (zaX ⟨1,n,[]⟩ s).2;have c:=DC 2 (zaX ⟨19,0,[i,(zaX ⟨1,n,[]⟩ s).1]⟩ (zaX ⟨1,n,[]⟩ s).2).1 (zaX ⟨19,0,[i,(zaX ⟨1,n,[]⟩ s).1]⟩ (zaX ⟨1,n,[]⟩ s).2).2;have e:(fd n i s).l.length<=_:=c;omega
theorem ZP(v:Int)(s:Bd):(mA v s).l.length<=s.l.length+3:=by
 have a:=zcZ ⟨1,0,[]⟩ s;have b:=zcZ ⟨16,0,[v,(zaX ⟨1,0,[]⟩ s).1]⟩ (zaX ⟨1,0,[]⟩ s).2;have c:=DC 1 (zaX ⟨16,0,[v,(zaX ⟨1,0,[]⟩ s).1]⟩ (zaX ⟨1,0,[]⟩ s).2).1 (zaX ⟨16,0,[v,(zaX ⟨1,0,[]⟩ s).1]⟩ (zaX ⟨1,0,[]⟩ s).2).2;have e:(mA v s).l.length<=_:=c;omega
theorem pw(c:Cx):∀(n:Nat) (x:Ex) (s:Bd) (r:Int×Bd),di c n x s=some r->r.2.l.length<=s.l.length+zcm x
 |0,_,_,_,h=>by simp[di]at h
 |n+1,x,s,r,h=>by
  have I:=pw c n;rw[ZM];unfold di at h;by_cases i:x.kind=1
  .rw[aj i]at h⊢;cases h;exact zcZ _ s
  rw[af i]at h⊢;by_cases Y:x.kind=2
  .rw[aj Y]at h⊢;obtain⟨v,_,rfl⟩:=oE.1 h;exact aA _
  rw[af Y]at h⊢;split at h
  .simp only[fq]at h;obtain⟨k,j,Z,i,a,_,rfl⟩:=h;have U:=I _ _ _ i;have L:=K3 a.len Z.1 Z.2;have K:=zcZ ⟨23,bS (c.arrays.map (·.name)) x.name,[(fd a.len Z.1 Z.2).state,Z.1]⟩ (fd a.len Z.1 Z.2);have C:=DB j;show(zaX _ _).2.l.length<=_;omega
  split at h
  .simp only[fq]at h;obtain⟨k0,O,zbf,J,k1,V,Z,i,m,M,g,Y,rfl⟩:=h;have e0:=I _ _ _ J;have U:=I _ _ _ i;have o:=I _ _ _ Y;have L:g.2.l.length<=Z.2.l.length+zcm m:=o;have K:=uj zbf.1 Z.1 g.1 g.2;have C:=uj zbf.1 Z.2.state (zbi zbf.1 Z.1 g.1 g.2).2.state (zbi zbf.1 Z.1 g.1 g.2).2;have z:=ZO O V M;show(zbi _ _ _ _).2.l.length<=_;omega
  .simp only[dx]at h;obtain⟨k0,O,zbf,J,h⟩:=h;have a:=I _ _ _ J;split at h
   .cases h;have U:=zcZ ⟨x.op,0,[zbf.1]⟩ zbf.2;have C:=DB O;show(zaX _ _).2.l.length<=_;omega
   .simp only[fq]at h;obtain⟨k1,V,Z,i,rfl⟩:=h;have b:=I _ _ _ i;have C:=K2 O V;have z:(if x.op=7\/x.op=8 then mA Z.1 Z.2 else Z.2).l.length<=Z.2.l.length+3:=by
     split
     .exact ZP _ _
     .omega
    have e6:=zcZ ⟨x.op,0,[zbf.1,Z.1]⟩ (if x.op=7\/x.op=8 then mA Z.1 Z.2 else Z.2);show(zaX _ _).2.l.length<=_;omega
theorem K4(c:Cx)(n:Nat):∀(l:List Ex) (s:Bd) (r:List Int×Bd),jj c n l s=some r->r.2.l.length<=s.l.length+cEs l
 |[],s,r,h=>by cases h;exact aA _
 |x::l,s,r,h=>by
  unfold jj at h;simp only[fq]at h;obtain⟨Y,i,g,Z,rfl⟩:=h;have a:=pw c n _ _ _ i;have b:=K4 c n l _ _ Z;rw[cEs];show g.2.l.length<=_;omega
theorem K5(c:Int)(a:List Int):∀(k i:Nat) (s r:Bd),lK c a k i s=some r->r.l.length<=s.l.length+k
 |0,i,s,r,h=>by cases h;exact aA _
 |k+1,i,s,r,h=>by
  unfold lK at h;simp only[dx]at h;obtain⟨x,_,y,_,h⟩:=h;have U:=K5 c a k (i+1) _ r h;have e:r.l.length<=(zbi c x y s).2.l.length+k:=U;have:=uj c x y s;omega
theorem K6(base:Int):∀(O:List Nat) (j:Nat) (s:Bd),(ii base O j s).l.length<=s.l.length+O.length
 |[],j,s=>aA _
 |w::O,j,s=>by
  rw[I0];have a:=K6 base O (j+1) { (zaX ⟨3,base+j,[]⟩ s).2 with vars:=(zaX ⟨3,base+j,[]⟩ s).2.vars.set w (zaX ⟨3,base+j,[]⟩ s).1};have b:=zcZ ⟨3,base+j,[]⟩ s;rw[cS];have e:({ (zaX ⟨3,base+j,[]⟩ s).2 with vars:=(zaX ⟨3,base+j,[]⟩ s).2.vars.set w (zaX ⟨3,base+j,[]⟩ s).1}:Bd).l.length=(zaX ⟨3,base+j,[]⟩ s).2.l.length:=rfl;omega
theorem K7(lp c:Int)(old:List Int):∀(O:List Nat) (j:Nat) (s:Bd),(gC lp c old O j s).l.length<=s.l.length+2*O.length
 |[],j,s=>aA _
 |w::O,j,s=>by
  rw[zE];have a:=K7 lp c old O (j+1) { (zbi c (zaX ⟨25,j,[lp]⟩ s).1 (old.getD w 0) (zaX ⟨25,j,[lp]⟩ s).2).2 with vars:=(zbi c (zaX ⟨25,j,[lp]⟩ s).1 (old.getD w 0) (zaX ⟨25,j,[lp]⟩ s).2).2.vars.set w (zbi c (zaX ⟨25,j,[lp]⟩ s).1 (old.getD w 0) (zaX ⟨25,j,[lp]⟩ s).2).1};have b:=zcZ ⟨25,j,[lp]⟩ s;have d:=uj c (zaX ⟨25,j,[lp]⟩ s).1 (old.getD w 0) (zaX ⟨25,j,[lp]⟩ s).2;rw[cS];have e:({ (zbi c (zaX ⟨25,j,[lp]⟩ s).1 (old.getD w 0) (zaX ⟨25,j,[lp]⟩ s).2).2 with vars:=(zbi c (zaX ⟨25,j,[lp]⟩ s).1 (old.getD w 0) (zaX ⟨25,j,[lp]⟩ s).2).2.vars.set w (zbi c (zaX ⟨25,j,[lp]⟩ s).1 (old.getD w 0) (zaX ⟨25,j,[lp]⟩ s).2).1}:Bd).l.length=(zbi c (zaX ⟨25,j,[lp]⟩ s).1 (old.getD w 0) (zaX ⟨25,j,[lp]⟩ s).2).2.l.length:=rfl;omega
theorem K8(c:Cx):∀n:Nat,(∀x s r,hB c n x s=some r->s.vars.length<=4->r.l.length<=s.l.length+c1 x)/\(∀l s r,dR c n l s=some r->s.vars.length<=4->r.l.length<=s.l.length+gO l)/\(∀x s r,ij c n x s=some r->s.vars.length<=4->r.l.length<=s.l.length+(2*zcm x.value+gO x.thn+16))
 |0=>⟨fun _ _ _ h=>by simp[hB]at h,fun _ _ _ h=>by simp[dR]at h,fun _ _ _ h=>by simp[ij]at h⟩
 |n+1=>by
  obtain⟨I1,L,I3⟩:=K8 c n;refine⟨fun x s r h M=>?_,fun l s r h M=>?_,fun x s r h M=>?_⟩
  .rw[ZN];unfold hB at h;by_cases k1:x.kind=1
   .rw[aj k1]at h⊢;simp only[dx]at h;obtain⟨r1,Z,h⟩:=h;split at h
    .cases h;exact pw c n _ _ _ Z
    .cases h
   rw[af k1]at h⊢;by_cases k2:x.kind=2
   .rw[aj k2]at h⊢;simp only[fq]at h;obtain⟨i,Z,v,g,a,_,rfl⟩:=h;have Y:=pw c n _ _ _ Z;have C:=pw c n _ _ _ g;have J:=K3 a.len i.1 v.2;have e4:=zcZ ⟨28,bS (c.arrays.map (·.name)) x.name,[(fd a.len i.1 v.2).state,i.1,v.1]⟩ (fd a.len i.1 v.2);show(zaX _ _).2.l.length<=_;omega
   rw[af k2]at h⊢;by_cases k3:x.kind=3
   .rw[aj k3]at h⊢;simp only[fq]at h;obtain⟨v,Z,a,g,b,K,m,z,rfl⟩:=h;have Y:=pw c n _ _ _ Z;have o:=(zci c n _ _ _ Z).v;have C:=L _ _ _ g (by rw[o];exact M);have j:=L _ _ _ K (by show v.2.vars.length<=4;rw[o];exact M);have J:b.l.length<=a.l.length+gO x.els:=j;have v3':=((lL c n).2.1 _ _ _ K).2;have I:b.vars.length=v.2.vars.length:=v3';have e4:=K5 _ _ _ _ _ _ z;have e5:=uj v.1 a.state m.state m;rw[o]at I;show(zbi _ _ _ _).2.l.length<=_;omega
   rw[af k3]at h⊢;by_cases k4:x.kind=4
   .rw[aj k4]at h⊢;exact I3 _ _ _ h M
   rw[af k4]at h⊢;by_cases k5:x.kind=5
   .rw[aj k5]at h⊢;simp only[fq]at h;obtain⟨v,Z,rfl⟩:=h;have Y:=pw c n _ _ _ Z;have C:=zcZ ⟨29,0,[v.2.state,v.1]⟩ v.2;show(zaX _ _).2.l.length<=_;omega
   rw[af k5]at h⊢;by_cases k6:x.kind=6
   .rw[aj k6]at h⊢;simp only[dx]at h;obtain⟨U,Z,h⟩:=h;split at h
    .cases h;have Y:=K4 c n _ _ _ Z;have C:=zcZ ⟨30,zbY c.funcs x.to 0,U.2.state::U.1⟩ U.2;generalize zaX ⟨30,zbY c.funcs x.to 0,U.2.state::U.1⟩ U.2=q at *;have J:=zcZ ⟨24,0,[q.1]⟩ ⟨q.2.l,q.2.vars,q.1,q.2.loops⟩;simp only at J⊢;omega
    .cases h
   rw[af k6]at h⊢;by_cases k7:x.kind=7
   .rw[aj k7]at h⊢;cases h;have C:=zcZ ⟨1,0,[]⟩ s;have J:=DC (b9 (16+x.n)) (zaX ⟨1,0,[]⟩ s).1 (zaX ⟨1,0,[]⟩ s).2;show(nu _ _ _).l.length<=_;omega
   rw[af k7]at h⊢;cases h;exact aA _
  .unfold dR at h;cases l with
   |nil=>cases h;exact aA _
   |cons x l=>
    simp only[dx]at h;obtain⟨a,Z,g⟩:=h;have Y:=I1 _ _ _ Z M;have o:=((lL c n).1 _ _ _ Z).2;have C:=L _ _ _ g (by rw[o];exact M);rw[gO];omega
  .unfold ij at h;simp only[fq]at h;obtain⟨v,Z,b,g,t,K,d,z,rfl⟩:=h;have V:=pw c n _ _ _ Z;have Y:v.2.l.length<=s.l.length+zcm x.value:=V;clear V;have v1':=(zci c n _ _ _ Z).v;have o:v.2.vars=s.vars:=v1';have hb:b.length=v.2.vars.length:=by rw[sM _ _ _ _ _ g,pX]
   have hw:=Kp b;rw[hb,o]at hw;have C:=zcZ ⟨3,16*(s.loops:Int),[]⟩ v.2;have v2:(zaX ⟨3,16*(s.loops:Int),[]⟩ v.2).2.vars=v.2.vars:=rfl;generalize zaX ⟨3,16*(s.loops:Int),[]⟩ v.2=O at *;have J:=K6 (16*(s.loops:Int)+1) (zct b) 0 ⟨O.2.l,O.2.vars,O.1,O.2.loops⟩;have I:=(qe (16*(s.loops:Int)+1) (zct b) 0 ⟨O.2.l,O.2.vars,O.1,O.2.loops⟩).2.2.1;simp only at J I;have e4:=L _ _ _ K (by rw[I,v2,o];exact M);have e5:=pw c n _ _ _ z;generalize hk:zaX ⟨31,s.loops,v.2.state::((zct b).map fun i=>v.2.vars.getD i 0)++[d.1,d.2.state]++((zct b).map fun i=>d.2.vars.getD i 0)⟩ d.2=k;have e6:k.2.l.length<=d.2.l.length+1:=by rw[<-hk];exact zcZ _ _
   have e7:=zcZ ⟨25,0,[k.1]⟩ ⟨k.2.l,v.2.vars,k.2.state,k.2.loops⟩;simp only at e7;generalize zaX ⟨25,0,[k.1]⟩ ⟨k.2.l,v.2.vars,k.2.state,k.2.loops⟩=q at *;have e8:=uj v.1 q.1 v.2.state q.2;generalize zbi v.1 q.1 v.2.state q.2=m at *;have e9:=K7 k.1 v.1 v.2.vars (zct b) 1 ⟨m.2.l,m.2.vars,m.1,m.2.loops⟩;simp only at e9;omega
theorem La{L:List Int}(h:L≠[]):(zbo L).2.length+1=L.length:=by
 cases L with
 |nil=>exact absurd rfl h
 |cons a l=>simp[zbo]
theorem px(f:Int):∀(k O:Nat) (L:List Int),k+O=5->O<=4->zcm (zbe f k O L).1+4*(zbe f k O L).2.length<=4*L.length
 |0,O,L,h,hd=>by omega
 |k+1,O,L,h,hd=>by
  have I:=fun L (hd:¬(3:Int)<O)=>px f k (O+1) L ac ac;by_cases g:L=[]
  .subst g;have e:zbD (zbo []).1 16=0:=aS;simp only[zbe];rw[e,aj (.inl aS),aj (.inl aS)];simp[zcm,zbo]
  .have hn:=La g;simp only[zbe];generalize zbD (zbo L).1 16=q;generalize zbD (b9 ((zbo L).1.tdiv 16)) 1000=m;generalize (zbo L).2=Y at *;by_cases hc:q<4\/(3:Int)<O
   .rw[aj hc];split
    .simp only[zcm,Int.reduceEq,reduceIte];omega
    .simp only[zcm,Int.reduceEq,reduceIte];omega
   have Z:¬(3:Int)<O:=fun e=>hc (.inr e);rw[af hc];split
   .have a:=I Y Z;simp only[zcm,cEs,Int.reduceEq,reduceIte];omega
   split
   .have a:=I Y Z;have b:=I (zbe f k (O+1) Y).2 Z;have c:=I (zbe f k (O+1) (zbe f k (O+1) Y).2).2 Z;simp only[zcm,cEs,Int.reduceEq,reduceIte];omega
   split
   .have a:=I Y Z;simp only[zcm,cEs,Int.reduceEq,reduceIte];omega
   .have a:=I Y Z;have b:=I (zbe f k (O+1) Y).2 Z;simp only[zcm,cEs,Int.reduceEq,reduceIte];omega
theorem Lb(f:Int):∀(n:Nat) (L:List Int),cEs (jH f n L).1+4*(jH f n L).2.length<=4*L.length
 |0,L=>by simp[jH,cEs]
 |n+1,L=>by
  have a:=px f 3 2 L ac ac;have b:=Lb f n (zbe f 3 2 L).2;simp only[jH,cEs];omega
theorem ZQ{C:Int->zbH->List St×zbH}(J:∀i s,gO (C i s).1+16*(C i s).2.1.length<=16*s.1.length)(f:Int)(L:List Int)(c q m:Int):c1 (zcG C f L c q m).1+16*(zcG C f L c q m).2.1.length<=16*(L.length+1):=by
 unfold zcG;split
 .have a:=px f 5 0 L ac ac;simp only[c1,Int.reduceEq,reduceIte];omega
 split
 .have a:=px f 3 2 L ac ac;have b:=px f 4 1 (zbe f 3 2 L).2 ac ac;simp only[c1,Int.reduceEq,reduceIte];omega
 split
 .have a:=px f 4 1 L ac ac;have b:=J 3 ((zbe f 4 1 L).2,c);have d:=J 2 (C 3 ((zbe f 4 1 L).2,c)).2;simp only at b;simp only[c1,Int.reduceEq,reduceIte];omega
 split
 .have a:=px f 4 1 L ac ac;have b:=J 3 ((zbe f 4 1 L).2,b9 (c+1));simp only at b;simp only[c1,Int.reduceEq,reduceIte];omega
 split
 .have a:=px f 4 1 L ac ac;simp only[c1,Int.reduceEq,reduceIte];omega
 split
 .have a:=Lb f (2-m.tmod 2).toNat L;simp only[c1,Int.reduceEq,reduceIte];omega
 .simp only[c1,Int.reduceEq,reduceIte];omega
theorem DD{step:zbH->St×zbH}(J:∀s,s.1≠[]->c1 (step s).1+16*(step s).2.1.length<=16*s.1.length):∀(n:Nat) (s:zbH),gO (eO step n s).1+16*(eO step n s).2.1.length<=16*s.1.length
 |0,s=>by simp[eO,gO]
 |n+1,s=>by
  rw[eO];split
  .simp[gO]
  .rename_i h;have a:=J s h;have b:=DD J n (step s).2;simp only[gO];omega
theorem Lc(f:Int):∀(k O:Nat) (s:zbH),s.1≠[]->c1 (zcD f k O s).1+16*(zcD f k O s).2.1.length<=16*s.1.length
 |0,O,s,h=>by simp[zcD,c1]
 |k+1,O,s,h=>by
  rw[zcD,rv];have e:=La h;rw[<-e];exact ZQ (fun i s=>by
   have a:=DD (Lc f k (O+1)) (zbD (zbo s.1).1 (i+1)).toNat ((zbo s.1).2,s.2);have b:=zdm s.1;simp only at a;omega) _ _ _ _ _
theorem Ld(f:Int)(k deep:Nat)(i:Int)(s:zbH):gO (jl f k deep i s).1+16*(jl f k deep i s).2.1.length<=16*s.1.length:=by
 have a:=DD (Lc f k deep) (zbD (zbo s.1).1 (i+1)).toNat ((zbo s.1).2,s.2);have b:=zdm s.1;simp only at a;unfold jl;omega
theorem ZR(l:List Int):∀f∈(zbd l).funcs,gO f.body+zcm f.value<=960/\f.params.length+f.locals.length<=4:=by
 have J:(l.take 60).length<=60:=tq;have i:=zdm (l.take 60);have K:gO (j9 (l.take 60)).1+16*(j9 (l.take 60)).2.1.length<=16*(zbo (l.take 60)).2.length:=Ld 0 4 0 5 ((zbo (l.take 60)).2,0);have o:zcm (iT (l.take 60)).1+4*(iT (l.take 60)).2.length<=4*(j9 (l.take 60)).2.1.length:=px 0 4 1 _ ac ac;have V:gO (jT (l.take 60)).1+16*(jT (l.take 60)).2.1.length<=16*(iT (l.take 60)).2.length:=Ld 1 3 1 3 ((iT (l.take 60)).2,(j9 (l.take 60)).2.2);have C:zcm (qp (l.take 60)).1+4*(qp (l.take 60)).2.length<=4*(jT (l.take 60)).2.1.length:=px 1 4 1 _ ac ac;intro f hf;simp only[zbd,lJ]at hf;rcases hf with rfl|rfl
 .exact⟨by show gO (j9 (l.take 60)).1+zcm (iT (l.take 60)).1<=960;omega,by show 2+2<=4;omega⟩
 .exact⟨by show gO (jT (l.take 60)).1+zcm (qp (l.take 60)).1<=960;omega,by show 1+1<=4;omega⟩
theorem Le:∀(m k:Nat) (s:Bd),(gL m k s).l.length<=s.l.length+m
 |0,k,s=>aA _
 |m+1,k,s=>by
  have a:(gL (m+1) k s).l.length<=(zaX ⟨2,k,[]⟩ s).2.l.length+m:=Le m (k+1) _;have b:=zcZ ⟨2,k,[]⟩ s;omega
theorem Lf:∀(m:Nat) (s:Bd),(jR m s).l.length<=s.l.length+m
 |0,s=>aA _
 |m+1,s=>by
  have a:(jR (m+1) s).l.length<=(zaX ⟨1,0,[]⟩ s).2.l.length+m:=Lf m _;have b:=zcZ ⟨1,0,[]⟩ s;omega
theorem ZS(f:Fu):(zc3 f).l.length<=1+f.params.length+f.locals.length/\(zc3 f).vars.length=f.params.length+f.locals.length:=by
 have g:(zaX ⟨26,0,[]⟩ ⟨[],[],0,0⟩).2.l.length<=1:=zcZ _ _;have i:(gL f.params.length 0 { (zaX ⟨26,0,[]⟩ ⟨[],[],0,0⟩).2 with state:=(zaX ⟨26,0,[]⟩ ⟨[],[],0,0⟩).1}).l.length<=(zaX ⟨26,0,[]⟩ ⟨[],[],0,0⟩).2.l.length+f.params.length:=Le _ _ _;have C:(zc3 f).l.length<=_:=Lf f.locals.length _;have o:=(wn f.params.length 0 { (zaX ⟨26,0,[]⟩ ⟨[],[],0,0⟩).2 with state:=(zaX ⟨26,0,[]⟩ ⟨[],[],0,0⟩).1}).2;have Z:(zc3 f).vars.length=_:=(wo f.locals.length _).2;have J:({ (zaX ⟨26,0,[]⟩ ⟨[],[],0,0⟩).2 with state:=(zaX ⟨26,0,[]⟩ ⟨[],[],0,0⟩).1}:Bd).vars.length=0:=rfl;exact⟨ac,ac⟩
theorem ZT{p:Pr}{n:Nat}{f:Fu}{g:Gr}(h:il p n f=some g)(M:f.params.length+f.locals.length<=4):g.nodes.length<=5+gO f.body+zcm f.value:=by
 unfold il at h;simp only[fq]at h;obtain⟨s,i,v,Z,rfl⟩:=h;obtain⟨a,b⟩:=ZS f;have Y:=(K8 _ n).2.1 _ _ _ i ac;have C:=pw _ n _ _ _ Z;show v.2.l.length<=_;omega
theorem Lg{p:Pr}{n:Nat}:∀(l:List Fu) (K:List Gr),(∀f∈l,∃g,il p n f=some g/\g.nodes.length<=2000)->∃J,kX p n l K=some (⟨p.arrays,K++J⟩,0)/\cY (fun f g=>il p n f=some g/\g.nodes.length<=2000) l J
 |[],K,_=>⟨[],by rw[kX,aR],trivial⟩
 |f::l,K,h=>by
  obtain⟨g,i,Z⟩:=h f eQ;obtain⟨J,m,L⟩:=Lg l (K++[g]) fun x I=>h x (fH _ I)
  refine⟨g::J,?_,⟨i,Z⟩,L⟩;rw[kX,i,cU,af ac,m,mU];rfl
theorem Lh{l:List Int}(hr:fQ l):PrIn (zbd l):=⟨z7 l,KQ hr⟩
theorem ZU{l:List Int}(hr:fQ l):LwOk (zbd l):=⟨by have:=Dx l;omega,fun _=>KQ hr⟩
theorem ZV{l:List Int}(hr:fQ l):∃f g,jm (zbd l)=(⟨jU (l.take 60),[f,g]⟩,0)/\il (zbd l) (2*(zbd l).sz+1) (eF (l.take 60))=some f/\il (zbd l) (2*(zbd l).sz+1) (zcE (l.take 60))=some g/\f.nodes.length<=965/\g.nodes.length<=965/\(∀n∈f.nodes,n.kids.length<=40)/\∀n∈g.nodes,n.kids.length<=40:=by
 have hp:=Lh hr;have K:∀f∈(zbd l).funcs,∃g,il (zbd l) (2*(zbd l).sz+1) f=some g/\g.nodes.length<=2000/\g.nodes.length<=965/\∀n∈g.nodes,n.kids.length<=40:=fun f hf=>by
  obtain⟨s,v,i,U,M,_⟩:=Dt hp (cJ _) hf;obtain⟨c1,L⟩:=ZR l f hf;have e:il (zbd l) (2*(zbd l).sz+1) f=some ⟨f.name,f.params.length,v.2.l,v.1,v.2.state⟩:=by rw[il,i,cU,U,cU]
  have:=ZT e L;exact⟨_,e,ac,ac,fun n hn=>(M.p n hn).len⟩
 obtain⟨J,I,Z⟩:=Lg (p:=zbd l) (n:=2*(zbd l).sz+1) (zbd l).funcs [] fun f hf=>by obtain⟨g,a,b,_⟩:=K f hf;exact⟨g,a,b⟩
 have O:jm (zbd l)=(⟨jU (l.take 60),J⟩,0):=by
  rw[jm,qd,aj (z7 l),I];rfl
 have hf:(zbd l).funcs=[eF (l.take 60),zcE (l.take 60)]:=rfl;rw[hf]at Z K
 match J,Z,O with
 |[f,g],Z,O=>
  obtain⟨⟨C,_⟩,⟨z,_⟩,_⟩:=Z;obtain⟨f',Y,_,o,m⟩:=K _ eQ;obtain⟨g',V,_,j,b6⟩:=K _ (fH _ eQ);rw[C]at Y;rw[z]at V;cases Y;cases V;exact⟨f,g,O,C,z,o,j,m,b6⟩
section
variable (v a f:Bool)
mutual
theorem wP:∀x:Ex,dJ (zbc v a x)=dJ x
 | .mk k n M O z=>by rw[zbc,dJ,dJ,Li z]
theorem Li:∀l:List Ex,jO (iR v a l)=jO l
 |[]=>rfl
 |x::l=>by rw[iR,jO,jO,wP x,Li l]
end
mutual
theorem ZW:∀x:St,zbT (zbr v a f x)=zbT x
 | .mk k M U n I val Y Z V=>by rw[zbr,zbT,zbT,Ac Z,Ac V]
theorem Ac:∀l:List St,zbX (zcJ v a f l)=zbX l
 |[]=>rfl
 |x::l=>by rw[zcJ,zbX,zbX,ZW x,Ac l]
end
mutual
theorem ZX:∀x:St,zbM (zbr v a f x)=zbM x
 | .mk k M U n I val Y Z V=>by rw[zbr,zbM,zbM,Ad Z,Ad V]
theorem Ad:∀l:List St,zb7 (zcJ v a f l)=zb7 l
 |[]=>rfl
 |x::l=>by rw[zcJ,zb7,zb7,ZX x,Ad l]
end
mutual
theorem ZY:∀(x:St) (d:Nat),zbL (zbr v a f x) d=zbL x d
 | .mk k M U n I val Y Z V,d=>by rw[zbr,zbL,zbL,Ae Z,Ae V]
theorem Ae:∀(l:List St) (d:Nat),zcI (zcJ v a f l) d=zcI l d
 |[],d=>rfl
 |x::l,d=>by rw[zcJ,zcI,zcI,ZY x,Ae l]
end
theorem ZZ(l:List Ex):((iR v a l).any fun e=>decide ((20:Int)<dJ e))=l.any fun e=>decide ((20:Int)<dJ e):=by
 rw[ri,tO]
 congr 1
 funext x
 show decide ((20:Int)<dJ (zbc v a x))=_;rw[wP]
mutual
theorem Z0:∀x:St,ku (zbr v a f x)=ku x
 | .mk k M U n I val Y Z V=>by rw[zbr,ku,ku,wP,wP,ZZ,Af Z,Af V]
theorem Af:∀l:List St,iN (zcJ v a f l)=iN l
 |[]=>rfl
 |x::l=>by rw[zcJ,iN,iN,Z0 x,Af l]
end
theorem Z1(p:Pr):jP (jW v a f p)=jP p:=by
 unfold jP;have i:(jW v a f p).arrays.length=p.arrays.length:=cD _;have g:(jW v a f p).funcs.length=p.funcs.length:=cD _;have m:(jW v a f p).arrays.any qW=p.arrays.any qW:=by
  show(p.arrays.map (iS a)).any qW=_;rw[tO];rfl
 have L:(jW v a f p).funcs.any mw=p.funcs.any mw:=by
  show(p.funcs.map (zbQ v a f)).any mw=_;rw[tO]
  congr 1
  funext F
  show mw (zbQ v a f F)=mw F;unfold mw;have b:(zbQ v a f F).body=zcJ v a f F.body:=(zdy v a f F.body).symm;have Z:(zbQ v a f F).params.length=F.params.length:=cD _;have I:(zbQ v a f F).locals.length=F.locals.length:=cD _;have V:(zbQ v a f F).value=zbc v a F.value:=rfl;rw[b,Z,I,V,Ac,Ad,Ae,Af,wP]
 rw[i,g,m,L]
def ow(c:Sc):Sc:=⟨c.vars.map (rn v),c.arrays.map (·.map (rn a)),jW v a f c.p⟩
theorem DE(c:Sc):(ow v a f c).an=c.an.map (rn a):=by
 unfold Sc.an ow;cases c.arrays<;>rfl
theorem Z2(vs an:List za5)(x:Ex):fD (vs.map (rn v)) (an.map (rn a)) (zbc v a x)=fD vs an x:=by
 unfold fD;rw[yZ,y0];by_cases g:x.kind=2
 .have m:¬x.kind=3:=by omega
  rw[aj g,wa,mp m,lD g];simp
 .rw[af g,mp g];by_cases m:x.kind=3
  .rw[aj m,wa];simp
  .rw[af m,mp m];simp
mutual
theorem Ag(vs an:List za5):∀x:Ex,dQ (vs.map (rn v)) (an.map (rn a)) (zbc v a x)=dQ vs an x
 | .mk k n M O z=>by
   have h:=Z2 v a vs an (.mk k n M O z);rw[zbc]at h⊢;rw[dQ,dQ,DF vs an z,h]
theorem DF(vs an:List za5):∀l:List Ex,zcs (vs.map (rn v)) (an.map (rn a)) (iR v a l)=zcs vs an l
 |[]=>rfl
 |x::l=>by rw[iR,zcs,zcs,Ag vs an x,DF vs an l]
end
theorem Z3(c:Sc)(x:St):jQ (ow v a f c) (zbr v a f x)=jQ c x:=by
 unfold jQ;rw[vZ,<-ri,y4,y9,DE];have M:(ow v a f c).vars=c.vars.map (rn v):=rfl;rw[M,DF,Ag,Ag]
 congr 1
 unfold zc8;have hp:(ow v a f c).p.funcs=c.p.funcs.map (zbQ v a f):=rfl;rw[vX,qf,vY,M,DE,hp,zd];by_cases g:x.kind=2
 .rw[af (show ¬x.kind=1 by omega),af (show ¬x.kind=6 by omega),aj g,aj g,af (show ¬x.kind=1 by omega),af (show ¬x.kind=6 by omega),aj g,wa]
 .simp only[af g,wa]
theorem Z4(p:Pr)(x:St):jA (jW v a f p) (zbr v a f x)=jA p x:=by
 unfold jA oc;have hp:(jW v a f p).funcs=p.funcs.map (zbQ v a f):=rfl;rw[vX,vZ,vY,cD,hp,zd,gl]
 congr 3
 cases p.funcs[(zbY p.funcs x.to 0).toNat]? with
 |none=>rfl
 |some F=>
  have:(zbQ v a f F).params.length=F.params.length:=cD _;simp only[i8,bP,this]
mutual
theorem Z5(c:Sc)(b:Bool):∀x:St,ev (ow v a f c) b (zbr v a f x)=ev c b x
 | .mk k M U n I val Y Z V=>by
   have i:=Z4 v a f c.p (.mk k M U n I val Y Z V);have g:=Z3 v a f c (.mk k M U n I val Y Z V);rw[zbr]at i g⊢;rw[ev,ev,wQ c b Z,wQ c b V,g];have m:(ow v a f c).p=jW v a f c.p:=rfl;rw[m,i]
theorem wQ(c:Sc)(b:Bool):∀l:List St,zca (ow v a f c) b (zcJ v a f l)=zca c b l
 |[]=>rfl
 |x::l=>by rw[zcJ,zca,zca,Z5 c b x,wQ c b l]
end
theorem Lj(p:Pr)(F:Fu):ey (jW v a f p) (zbQ v a f F)=ow v a f (ey p F):=by
 unfold ey ow;have i:(zbQ v a f F).params++(zbQ v a f F).locals=(F.params++F.locals).map (rn v):=by
  rw[jJ];rfl
 have g:zbF (jW v a f p)=(zbF p).map (rn a):=by
  unfold zbF jW;rw[ja,ja];rfl
 rw[i,g];rfl
theorem Z6(p:Pr)(F:Fu):ky (jW v a f p) (zbQ v a f F)=ky p F:=by
 unfold ky;have o:(zbQ v a f F).body=zcJ v a f F.body:=(zdy v a f F.body).symm;have M:(zbQ v a f F).value=zbc v a F.value:=rfl;have J:(ow v a f (ey p F)).vars=(ey p F).vars.map (rn v):=rfl;rw[Lj,o,M,wQ,DE,J,Ag]
theorem Z7(p:Pr)(F:Fu):my (jW v a f p) (zbQ v a f F)=my p F:=by
 unfold my;have o:(zbQ v a f F).body=zcJ v a f F.body:=(zdy v a f F.body).symm;rw[Lj,o,wQ]
def lS(o:Bool)(vs:List za5):Prop:=∀t∈vs,zb6 (rn o t)=true
theorem lS.has{o:Bool}{vs:List za5}(h:lS o vs){s:za5}(J:zbx vs s=true):zb6 (rn o s)=true:=by
 unfold zbx at J;obtain⟨t,M,e⟩:=List.any_eq_true.1 J;simp only[oG]at e;rw[<-e];exact h t M
variable {vs an:List za5} (hV:lS v vs) (hA:lS a an)
include hV hA
theorem Z8{x:Ex}(h:kw x=true)(hd:fD vs an x=true):kw (zbc v a x)=true:=by
 unfold kw at h⊢;rw[yZ,CP,CQ,CR,y0,cD];unfold fD at hd;by_cases g:x.kind=2
 .rw[lD g,mc,jv,bT]at hd;rw[af ac,aj g]at h⊢;rw[aj g,hV.has hd.1];simp only[bT]at h⊢;exact⟨h.1,trivial⟩
 .by_cases m:x.kind=3
  .rw[lD m,mc,jv,bT]at hd;rw[af ac,af g,aj m]at h⊢;rw[af g,aj m,hA.has hd.2];simp only[bT]at h⊢;exact⟨h.1,trivial⟩
  .rw[af g,af m];exact h
end
section
variable {v a f:Bool} {vs an:List za5} (hV:lS v vs) (hA:lS a an)
include hV hA
mutual
theorem rC:∀x:Ex,eM x=true->dQ vs an x=true->eM (zbc v a x)=true
 | .mk k n M O z,h,hd=>by
   have I:=Z8 v a hV hA (x:=.mk k n M O z);rw[eM,bT]at h;rw[dQ,bT]at hd;have i:=DG z h.1 hd.1;have g:=I h.2 hd.2;rw[zbc]at g⊢;rw[eM,i,g];rfl
theorem DG:∀l:List Ex,dZ l=true->zcs vs an l=true->dZ (iR v a l)=true
 |[],_,_=>rfl
 |x::l,h,hd=>by
  rw[dZ,bT]at h;rw[zcs,bT]at hd;rw[iR,dZ,rC x h.1 hd.1,DG l h.2 hd.2];rfl
end
omit hV hA
theorem Z9(o:Bool):rn o []=[]:=by unfold rn;rw[af (fun c=>c.2 rfl)]
theorem uk{o:Bool}{s:za5}(h:s=[]):rn o s=[]:=by rw[h];exact Z9 o
theorem ul{x:Ex}(h:zeroE x=true):zeroE (zbc v a x)=true:=by
 unfold zeroE at h⊢;rw[yZ,CP,CQ,CR,y0,cD];simp only[i9]at h⊢;obtain⟨⟨⟨⟨i,g⟩,m⟩,L⟩,o⟩:=h;refine⟨⟨⟨⟨i,g⟩,?_⟩,L⟩,o⟩;rw[af ac,af ac];exact m
theorem zqk(x:St):lF (zbr v a f x)=lF x:=by
 unfold lF;rw[za,zb,cD,cD]
theorem DH{x:St}(h:oY x=true):oY (zbr v a f x)=true:=by
 unfold oY at h⊢;rw[qf,vY,CS,y4,vZ,cD];simp only[i9]at h⊢;obtain⟨⟨⟨⟨i,g⟩,m⟩,L⟩,o⟩:=h;refine⟨⟨⟨⟨?_,uk g⟩,m⟩,ul L⟩,o⟩;split<;>exact uk i
theorem Lk:∀(l:List Fu) (s:za5) (i:Int),0<=i->0<=zbY l s i->∃F∈l,F.name=s
 |[],s,i,_,h=>by simp[zbY]at h
 |x::l,s,i,hi,h=>by
  rw[zbY]at h;split at h
  .rename_i e;exact⟨x,eQ,e⟩
  .obtain⟨F,hF,e⟩:=Lk l s (i+1) ac h;exact⟨F,fH _ hF,e⟩
variable {p:Pr} (hF:∀ F ∈ p.funcs,zb6 (rn f F.name)=true)
include hV hA hF
theorem zql{ar:Option (List za5)}(ha:ar.getD []=an){x:St}(h:jz x=true)(hd:jQ ⟨vs,ar,p⟩ x=true):jz (zbr v a f x)=true:=by
 unfold jQ at hd;have M:(Sc.mk vs ar p).an=an:=ha;rw[M]at hd;simp only[bT]at hd;obtain⟨⟨⟨d1,K⟩,Z⟩,Y⟩:=hd;unfold zc8 at Y;rw[M]at Y;simp only at Y Z K d1;unfold jz at h⊢;rw[vX,zqk,qf,vY,CS,y4,vZ,y9,zb,cD,cD];by_cases I:x.kind=1
 .rw[aj I]at h Y⊢;simp only[i9]at h⊢;obtain⟨⟨⟨⟨⟨⟨i,L⟩,V⟩,C⟩,J⟩,g⟩,O⟩:=h;rw[af ac];exact⟨⟨⟨⟨⟨⟨i,hV.has Y⟩,uk V⟩,C⟩,ul J⟩,g⟩,rC hV hA _ O Z⟩
 rw[af I]at h Y⊢;by_cases U:x.kind=2
 .rw[aj U]at h⊢;rw[af ac,aj U]at Y;simp only[i9]at h⊢;obtain⟨⟨⟨⟨⟨⟨i,L⟩,V⟩,C⟩,J⟩,g⟩,O⟩:=h;rw[aj U];exact⟨⟨⟨⟨⟨⟨i,hA.has Y⟩,uk V⟩,C⟩,rC hV hA _ J K⟩,g⟩,rC hV hA _ O Z⟩
 rw[af U]at h⊢;by_cases m:x.kind=3
 .rw[aj m]at h⊢;simp only[bT]at h⊢;exact⟨DH h.1,rC hV hA _ h.2 Z⟩
 rw[af m]at h⊢;by_cases z:x.kind=4
 .rw[aj z]at h⊢;simp only[i9]at h⊢;exact⟨⟨DH h.1.1,rC hV hA _ h.1.2 Z⟩,h.2⟩
 rw[af z]at h⊢;by_cases o:x.kind=5
 .rw[aj o]at h⊢;simp only[bT]at h⊢;exact⟨⟨h.1.1,DH h.1.2⟩,rC hV hA _ h.2 Z⟩
 rw[af o]at h⊢;by_cases j:x.kind=6
 .rw[aj j]at h Y⊢;simp only[i9]at h Y⊢;obtain⟨⟨⟨⟨⟨i,L⟩,V⟩,C⟩,J⟩,g⟩:=h;obtain⟨F,hm,en⟩:=Lk _ _ _ (Int.le_refl 0) Y.2;rw[af U];exact⟨⟨⟨⟨⟨i,hV.has Y.1⟩,by rw[<-en];exact hF F hm⟩,C⟩,ul J⟩,ul g⟩
 rw[af j]at h⊢;by_cases h7:x.kind=7
 .rw[aj h7]at h⊢;simp only[i9]at h⊢;obtain⟨⟨⟨⟨⟨⟨⟨i,L⟩,V⟩,C⟩,J⟩,g⟩,O⟩,e8⟩:=h;rw[af U];exact⟨⟨⟨⟨⟨⟨⟨i,uk L⟩,uk V⟩,C⟩,J⟩,ul g⟩,ul O⟩,e8⟩
 .rw[af h7]at h;cases h
mutual
theorem zsK{ar:Option (List za5)}(O:ar.getD []=an):∀x:St,jg x=true->ev ⟨vs,ar,p⟩ false x=true->jg (zbr v a f x)=true
 | .mk k M U n I val Y Z V,h,hd=>by
   have j:=zql hV hA hF O (x:=.mk k M U n I val Y Z V);rw[jg]at h;unfold iO at h;simp only[bT]at h;rw[ev]at hd;simp only[bT,nS]at hd;have J:zcs vs an Y=true:=by
    have:=hd.1.1;unfold jQ at this;simp only[bT]at this;have h:=this.1.1.1;rw[show(Sc.mk vs ar p).an=an from O]at h;exact h
   have i:=Ah O Z h.1.2 hd.1.2;have g:=Ah O V h.2 hd.2;have m:=j h.1.1.2 hd.1.1;have L:=DG hV hA Y h.1.1.1 J;rw[zbr]at m⊢;rw[jg,i,g];unfold iO;have o:(St.mk k (if k=2 then rn a M else rn v M) (rn f U) n (zbc v a I) (zbc v a val) (iR v a Y) (zcJ v a f Z) (zcJ v a f V)).args=iR v a Y:=rfl;rw[o,L,m];rfl
theorem Ah{ar:Option (List za5)}(O:ar.getD []=an):∀l:List St,fY l=true->zca ⟨vs,ar,p⟩ false l=true->fY (zcJ v a f l)=true
 |[],_,_=>rfl
 |x::l,h,hd=>by
  rw[fY,bT]at h;rw[zca,bT]at hd;rw[zcJ,fY,zsK O x h.1 hd.1,Ah O l h.2 hd.2];rfl
end
end
section
variable {c c':Cx} (ha:c'.arrays=c.arrays) (hn:c'.names=c.names) (hf:∀ s,zbY c'.funcs s 0=zbY c.funcs s 0)
include ha hn in
theorem Ai:∀(n m:Nat),n<=m->∀(x:Ex) (s:Bd) (r:Int×Bd),di c n x s=some r->di c' m x s=some r
 |0,_,_,_,_,_,h=>by simp[di]at h
 |n+1,0,hm,_,_,_,_=>by omega
 |n+1,m+1,hm,x,s,r,h=>by
  have I:=Ai n m ac;unfold di at h⊢;by_cases i:x.kind=1
  .rw[aj i]at h⊢;exact h
  rw[af i]at h⊢;by_cases U:x.kind=2
  .rw[aj U]at h⊢;rw[hn];exact h
  rw[af U]at h⊢;by_cases M:x.kind=3
  .rw[aj M]at h⊢;rw[ha];simp only[dx]at h⊢;obtain⟨k,q,Z,i,z⟩:=h;exact⟨k,q,Z,I _ _ _ i,z⟩
  rw[af M]at h⊢;by_cases o:x.kind=5
  .rw[aj o]at h⊢;simp only[dx]at h⊢;obtain⟨k0,O,zbf,g,k1,Y,Z,V,L,K,J,C,z⟩:=h;exact⟨k0,O,zbf,I _ _ _ g,k1,Y,Z,I _ _ _ V,L,K,J,I _ _ _ C,z⟩
  rw[af o]at h⊢;simp only[dx]at h⊢;obtain⟨k0,O,zbf,g,z⟩:=h;refine⟨k0,O,zbf,I _ _ _ g,?_⟩;by_cases j:x.kids.length=1
  .rw[aj j]at z⊢;exact z
  .rw[af j]at z⊢;simp only[dx]at z⊢;obtain⟨k1,Y,Z,V,z⟩:=z;exact⟨k1,Y,Z,I _ _ _ V,z⟩
include ha hn in
theorem Ll{n m:Nat}(V:n<=m):∀(l:List Ex) (s:Bd) (r:List Int×Bd),jj c n l s=some r->jj c' m l s=some r
 |[],s,r,h=>h
 |x::l,s,r,h=>by
  unfold jj at h⊢;simp only[dx]at h⊢;obtain⟨Z,i,g,Y,z⟩:=h;exact⟨Z,Ai ha hn n m V _ _ _ i,g,Ll V l _ _ Y,z⟩
theorem Lm(U:List za5):∀(n m:Nat),n<=m->∀(l:List St) (b r:List Bool),d6 U n l b=some r->d6 U m l b=some r
 |0,_,_,_,_,_,h=>by simp[d6]at h
 |n+1,0,hm,_,_,_,_=>by omega
 |n+1,m+1,hm,l,b,r,h=>by
  have I:=Lm U n m ac;unfold d6 at h⊢;cases l with
  |nil=>exact h
  |cons x l=>
   simp only at h⊢;split at h
   .cases h
   .rename_i hc;rw[af hc];simp only[dx]at h⊢;obtain⟨V,g,Y,Z,L⟩:=h;exact⟨V,I _ _ _ g,Y,I _ _ _ Z,I _ _ _ L⟩
include ha hn hf in
theorem Ln:∀(n m:Nat),n<=m->(∀x s r,hB c n x s=some r->hB c' m x s=some r)/\(∀l s r,dR c n l s=some r->dR c' m l s=some r)/\(∀x s r,ij c n x s=some r->ij c' m x s=some r)
 |0,_,_=>⟨fun _ _ _ h=>by simp[hB]at h,fun _ _ _ h=>by simp[dR]at h,fun _ _ _ h=>by simp[ij]at h⟩
 |n+1,0,hm=>by omega
 |n+1,m+1,hm=>by
  obtain⟨I,Y,C⟩:=Ln n m ac;have O:=Ai ha hn n m ac;refine⟨fun x s r h=>?_,fun l s r h=>?_,fun x s r h=>?_⟩
  .unfold hB at h⊢;by_cases k1:x.kind=1
   .rw[aj k1]at h⊢;rw[hn];simp only[dx]at h⊢;obtain⟨v,Z,z⟩:=h;exact⟨v,O _ _ _ Z,z⟩
   rw[af k1]at h⊢;by_cases U:x.kind=2
   .rw[aj U]at h⊢;rw[ha];simp only[dx]at h⊢;obtain⟨i,Z,v,g,z⟩:=h;exact⟨i,O _ _ _ Z,v,O _ _ _ g,z⟩
   rw[af U]at h⊢;by_cases M:x.kind=3
   .rw[aj M]at h⊢;simp only[dx]at h⊢;obtain⟨v,Z,a,g,b,V,z⟩:=h;exact⟨v,O _ _ _ Z,a,Y _ _ _ g,b,Y _ _ _ V,z⟩
   rw[af M]at h⊢;by_cases L:x.kind=4
   .rw[aj L]at h⊢;exact C _ _ _ h
   rw[af L]at h⊢;by_cases K:x.kind=5
   .rw[aj K]at h⊢;simp only[dx]at h⊢;obtain⟨v,Z,z⟩:=h;exact⟨v,O _ _ _ Z,z⟩
   rw[af K]at h⊢;by_cases J:x.kind=6
   .rw[aj J]at h⊢;rw[hn,hf];simp only[dx]at h⊢;obtain⟨v,Z,z⟩:=h;exact⟨v,Ll ha hn ac _ _ _ Z,z⟩
   rw[af J]at h⊢;exact h
  .unfold dR at h⊢;cases l with
   |nil=>exact h
   |cons x l=>
    simp only[dx]at h⊢;obtain⟨a,Z,g⟩:=h;exact⟨a,I _ _ _ Z,Y _ _ _ g⟩
  .unfold ij at h⊢;rw[hn];simp only[dx]at h⊢;obtain⟨v,Z,b,g,t,V,d,o,z⟩:=h;exact⟨v,O _ _ _ Z,b,Lm _ _ _ ac _ _ _ g,t,Y _ _ _ V,d,O _ _ _ o,z⟩
end
section
variable (v a f:Bool)
theorem qr(o:Bool)(s:za5):s.length<=(rn o s).length/\(rn o s).length<=s.length+2:=by
 unfold rn;split
 .rw[fy];simp
 .omega
mutual
theorem Aj:∀x:Ex,x.sz<=(zbc v a x).sz/\(zbc v a x).sz<=3*x.sz
 | .mk k n M O z=>by
   have h:=DI z;have g:M.length<=(if k=2 then rn v M else if k=3 then rn a M else M).length/\(if k=2 then rn v M else if k=3 then rn a M else M).length<=M.length+2:=by
    have:=qr v M;have:=qr a M;split
    .omega
    .split<;>omega
   rw[zbc,Ex.sz,Ex.sz];omega
theorem DI:∀l:List Ex,zcf l<=zcf (iR v a l)/\zcf (iR v a l)<=3*zcf l
 |[]=>by simp[iR,zcf]
 |x::l=>by
  have:=Aj x;have:=DI l;rw[iR,zcf,zcf];omega
end
mutual
theorem zad:∀x:St,x.sz<=(zbr v a f x).sz/\(zbr v a f x).sz<=5*x.sz
 | .mk k M Z n I val Y V U=>by
   have i:=DI v a Y;have g:=Aj v a I;have m:=Aj v a val;have L:=Ak V;have o:=Ak U;have O:M.length<=(if k=2 then rn a M else rn v M).length/\(if k=2 then rn a M else rn v M).length<=M.length+2:=by
    have:=qr v M;have:=qr a M;split<;>omega
   have K:=qr f Z;rw[zbr,St.sz,St.sz];omega
theorem Ak:∀l:List St,zbC l<=zbC (zcJ v a f l)/\zbC (zcJ v a f l)<=5*zbC l
 |[]=>by simp[zcJ,zbC]
 |x::l=>by
  have:=zad x;have:=Ak l;rw[zcJ,zbC,zbC];omega
end
theorem DJ:∀l:List za5,zco l<=zco (l.map (rn v))/\zco (l.map (rn v))<=3*zco l
 |[]=>by simp[zco]
 |x::l=>by
  have:=qr v x;have:=DJ l;rw[dN,zco,zco];omega
theorem zae(F:Fu):F.sz<=(zbQ v a f F).sz/\(zbQ v a f F).sz<=5*F.sz:=by
 have i:=qr f F.name;have g:=DJ v F.params;have m:=DJ v F.locals;have L:=Ak v a f F.body;have o:=Aj v a F.value;have Z:F.sz=1+F.name.length+zco F.params+zco F.locals+zbC F.body+F.value.sz:=rfl;have C:(zbQ v a f F).sz=1+(rn f F.name).length+zco (F.params.map (rn v))+zco (F.locals.map (rn v))+zbC (F.body.map (zbr v a f))+(zbc v a F.value).sz:=rfl;rw[<-zdy]at C;omega
theorem Lo:∀l:List Fu,fV l<=fV (l.map (zbQ v a f))/\fV (l.map (zbQ v a f))<=5*fV l
 |[]=>by simp[fV]
 |x::l=>by
  have:=zae v a f x;have:=Lo l;rw[dN,fV,fV];omega
theorem Lp:∀l:List Ar,zcU l<=zcU (l.map (iS a))/\zcU (l.map (iS a))<=3*zcU l
 |[]=>by simp[zcU]
 |x::l=>by
  have i:=qr a x.name;have:=Lp l;rw[dN,zcU,zcU];show _<=1+(rn a x.name).length+_/\1+(rn a x.name).length+_<=_;omega
theorem zaf(p:Pr):p.sz<=(jW v a f p).sz/\(jW v a f p).sz<=5*p.sz:=by
 have i:=Lp a p.arrays;have g:=Lo v a f p.funcs;have Z:p.sz=1+zcU p.arrays+fV p.funcs:=rfl;have C:(jW v a f p).sz=1+zcU (p.arrays.map (iS a))+fV (p.funcs.map (zbQ v a f)):=rfl;omega
mutual
theorem Al:∀x:Ex,fE x->fE (zbc v a x)
 | .mk k n M O z,h=>by
   rw[fE]at h;rw[zbc,fE];exact⟨h.1,DK z h.2⟩
theorem DK:∀l:List Ex,eT l->eT (iR v a l)
 |[],h=>h
 |x::l,h=>by
  rw[eT]at h;rw[iR,eT];exact⟨Al x h.1,DK l h.2⟩
end
mutual
theorem zwp:∀x:St,jC x->jC (zbr v a f x)
 | .mk k M U n I val Y Z V,h=>by
   rw[jC]at h;rw[zbr,jC];exact⟨Al v a _ h.1,Al v a _ h.2.1,DK v a _ h.2.2.1,Am Z h.2.2.2.1,Am V h.2.2.2.2⟩
theorem Am:∀l:List St,fN l->fN (zcJ v a f l)
 |[],h=>h
 |x::l,h=>by
  rw[fN]at h;rw[zcJ,fN];exact⟨zwp x h.1,Am l h.2⟩
end
theorem DL:lS v [[120],[121],[105],[106]]/\lS v [[110],[105]]/\lS v [[97],[98]]/\lS v [[102],[103]]:=by
 cases v<;>(refine⟨?_,?_,?_,?_⟩<;>(unfold lS;decide))
theorem zwq(l:List Int):n1 (jW v a f (zbd l))=false:=by
 cases v<;>cases a<;>cases f<;>rfl
theorem zsL{p:Pr}{F:Fu}{an:List za5}(Y:zbF p=an)(L:lS v (F.params++F.locals))(M:lS a an)(U:∀G∈p.funcs,zb6 (rn f G.name)=true)(K:F∈p.funcs)(O:lH F=true)(Z:ky p F=false):lH (zbQ v a f F)=true:=by
 unfold lH at O⊢;simp only[bT]at O;unfold ky at Z;simp only[qc,bT]at Z;have V:ey p F=⟨F.params++F.locals,some an,p⟩:=by unfold ey;rw[Y]
 rw[V]at Z;have i:fY (zbQ v a f F).body=true:=by
  have:=Ah (v:=v) (a:=a) (f:=f) L M U (ar:=some an) rfl F.body O.1.2 Z.1;rw[zdy]at this;exact this
 have g:eM (zbQ v a f F).value=true:=rC L M F.value O.2 Z.2;have m:(fnNames (zbQ v a f F)).all zb6=true:=by
  unfold fnNames;rw[iB];intro s J;rw[mU,pJ]at J;rcases J with J|J
  .obtain rfl:=sC.1 J;exact U F K
  .have e:(zbQ v a f F).params++(zbQ v a f F).locals=(F.params++F.locals).map (rn v):=by rw[jJ];rfl
   rw[e]at J;obtain⟨t,I,rfl⟩:=kJ.1 J;exact L t I
 rw[i,g,m];rfl
theorem zwr(l:List Int):zc2 (jW v a f (zbd l))=0:=by
 obtain⟨i,g,m,L,Y⟩:=Ds (z7 l);obtain⟨zbT,J,_,_⟩:=DL v;obtain⟨_,_,Z,_⟩:=DL a;obtain⟨_,_,_,K⟩:=DL f;have O:jP (jW v a f (zbd l))=false:=by rw[Z1];exact i
 have U:∀G∈(zbd l).funcs,zb6 (rn f G.name)=true:=fun G hG=>by
  have e:(zbd l).funcs=[eF (l.take 60),zcE (l.take 60)]:=rfl;rw[e]at hG;rcases fz.1 hG with rfl|hG
  .exact K [102] aw
  .obtain rfl:=sC.1 hG;exact K [103] aw
 have C:iP (jW v a f (zbd l))=true:=by
  unfold iP at g⊢;rw[bT]at g⊢;have V:=uX.1 L;have o:=iB.1 g.2;refine⟨?_,?_⟩
  .have e:(jW v a f (zbd l)).arrays=(jU (l.take 60)).map (iS a):=rfl;rw[e,List.all_map,iB];intro x I;have:x.name∈([[97],[98]]:List za5):=by
    have e:jU (l.take 60)=[⟨[97],_⟩,⟨[98],_⟩]:=rfl;rw[e]at I;rcases fz.1 I with rfl|I
    .simp
    .obtain rfl:=sC.1 I;simp
   exact Z _ this
  .have e:(jW v a f (zbd l)).funcs=(zbd l).funcs.map (zbQ v a f):=rfl;rw[e,List.all_map,iB];intro F hF;have hV:lS v (F.params++F.locals):=by
    have e:(zbd l).funcs=[eF (l.take 60),zcE (l.take 60)]:=rfl;rw[e]at hF;rcases fz.1 hF with rfl|hF
    .exact zbT
    .obtain rfl:=sC.1 hF;exact J
   exact zsL v a f (an:=[[97],[98]]) rfl hV Z U hF (o F hF) (by simpa using V F hF)
 have M:(jW v a f (zbd l)).funcs.any (ky (jW v a f (zbd l)))=false:=by
  have e:(jW v a f (zbd l)).funcs=(zbd l).funcs.map (zbQ v a f):=rfl;rw[e,tO,<-L]
  congr 1
  funext F
  exact Z6 v a f (zbd l) F
 have z:(jW v a f (zbd l)).funcs.any (my (jW v a f (zbd l)))=false:=by
  have e:(jW v a f (zbd l)).funcs=(zbd l).funcs.map (zbQ v a f):=rfl;rw[e,tO,<-Y]
  congr 1
  funext F
  exact Z7 v a f (zbd l) F
 unfold zc2;rw[O,C,zwq,M,z];rfl
theorem Lq{p:Pr}{n m:Nat}(h:n<=m){F:Fu}{g:Gr}(C:il p n F=some g):il p m F=some g:=by
 unfold il at C⊢;simp only[dx]at C;obtain⟨s,i,w,Z,Y⟩:=C;rw[(Ln rfl rfl (fun _=>rfl) n m h).2.1 _ _ _ i,cU,Ai rfl rfl n m h _ _ _ Z,cU];exact Y
theorem zws{l:List Int}(hr:fQ l):LwOk (jW v a f (zbd l))/\∃i O zbM Z,jm (zbd l)=(⟨jU (l.take 60),[i,O]⟩,0)/\jm (jW v a f (zbd l))=(⟨(jU (l.take 60)).map (iS a),[{i with name:=zbM},{O with name:=Z}]⟩,0)/\i.nodes.length<=965/\O.nodes.length<=965/\(∀n∈i.nodes,n.kids.length<=40)/\∀n∈O.nodes,n.kids.length<=40:=by
 obtain⟨i,O,Y,g,m,L,o,U,I⟩:=ZV hr;have j:=Dx l;have C:=zaf v a f (zbd l);have K:LwOk (jW v a f (zbd l)):=⟨ac,fun _ F hF=>by
  have e:(jW v a f (zbd l)).funcs=(zbd l).funcs.map (zbQ v a f):=rfl;rw[e]at hF;obtain⟨G,hG,rfl⟩:=kJ.1 hF;obtain⟨V,M⟩:=(Lh hr).rg G hG;have b:(zbQ v a f G).body=zcJ v a f G.body:=(zdy v a f G.body).symm;rw[b];exact⟨Am v a f _ V,Al v a _ M⟩⟩
 refine⟨K,i,O,rn f [102],rn f [103],Y,?_,L,o,U,I⟩;have k1:il (jW v a f (zbd l)) (2*(jW v a f (zbd l)).sz+1) (zbQ v a f (eF (l.take 60)))=some {i with name:=rn f (eF (l.take 60)).name}:=by
  rw[Ia,Lq ac g];rfl
 have J:il (jW v a f (zbd l)) (2*(jW v a f (zbd l)).sz+1) (zbQ v a f (zcE (l.take 60)))=some {O with name:=rn f (zcE (l.take 60)).name}:=by
  rw[Ia,Lq ac m];rfl
 have e:(jW v a f (zbd l)).funcs=[zbQ v a f (eF (l.take 60)),zbQ v a f (zcE (l.take 60))]:=rfl;rw[jm,qd,aj (zwr v a f l),e,kX,k1,cU,af ru,kX,J,cU,af ru,kX];rfl
end
def tyRenE.tyF:=ad @cW (ad @eJ (ad @cQ (ad @eA (@dX))))
open tyRenE
noncomputable def An:{c:SC // aD 13 (Try.f31.body.getD .skip)=c}:=by
 refine⟨?_,?_⟩;rotate_left
 .simp only[Try.f31,bP,aD,zby,zbt,zbA,zbB,Nat.blt,Nat.ble];rfl
noncomputable def Lr:{c:SC // aD 44 (Try.f33.body.getD .skip)=c}:=by
 refine⟨?_,?_⟩;rotate_left
 .simp only[Try.f33,bP,aD,zby,zbt,zbA,zbB,Nat.blt,Nat.ble];rfl
def qs(x:za5×Bool):List AV:=[.str x.1,.bool x.2]
theorem DM(x y:za5×Bool)(h:qs x=qs y):x=y:=by
 obtain⟨a,b⟩:=x;obtain⟨c,d⟩:=y;simp only[qs,ez,AV.str.injEq,AV.bool.injEq,br]at h;rw[h.1,h.2]
theorem zmR(ρ:Nat->Int)(x:za5×Bool)(I:x.1.length<2^40):cn Try.prog ρ 31 (qs x) (.str (rn x.2 x.1)):=zda fit (pls:=pls) (l:=[]) trivial (.cons (.str _) (.cons (.bool _) .nil)) (.str _) (by
 obtain⟨s,o⟩:=x;have O:=zc4 31;rw[qs];simp only[]at I⊢;have V:∀(D:BinOp->Sx->Sx->Option Bool) (t:TypeId),zcq Try.prog D .add t (.str s) (.str [95,48])=some (.str (s++[95,48])):=fun D t=>by
  show rG .add s [95,48]=_;simp only[rG];rw[aj (by show s.length+2<=70368744177664;omega)]
 by_cases h:o=true/\s≠[]
 .obtain⟨rfl,g⟩:=h;refine zbs (M:=13) (rs:=[.tmp 4]) (O.call _) O.ice O.froz Try.func31 rfl rfl An.2 rfl ?_;dsimp only[An,zbj,Nat.reduceAdd];repeat' (first
   |(apply ai ?_;clear hK K)|apply Ry.o ?_|(apply kT (fun C Z=>?_) (fun C Z=>?_)<;>try(cases C;done))|(apply bi (fun Y z=>?_) (fun Y z=>?_)<;>try(cases Y;done))|apply aq ?_|(apply zaW fun K hK=>?_)|apply aN ?_)
  all_goals (refine⟨za2,_,za7,?_⟩;try simp only[za0])
  rw[rn,aj ⟨rfl,g⟩]
 .have hr:rn o s=s:=by rw[rn,af h]
  rw[hr];clear V;refine zbs (M:=13) (rs:=[.tmp 4]) (O.call _) O.ice O.froz Try.func31 rfl rfl An.2 rfl ?_;dsimp only[An,zbj,Nat.reduceAdd];cases o with
  |false=>
   repeat' (first
    |(apply ai ?_;clear hK K)|apply Rx.o ?_|(apply da (fun C Z=>?_) (fun C Z=>?_)<;>try(cases C;done))|(apply bu (fun Y z=>?_) (fun Y z=>?_)<;>try(cases Y;done))|apply aq ?_|(apply zaW fun K hK=>?_)|apply za8 ?_|apply aN ?_)
   all_goals (refine⟨za2,_,za7,?_⟩;try simp only[za0])
  |true=>
   have J:s=[]:=by
    by_cases c:s=[]
    .exact c
    .exact absurd ⟨rfl,c⟩ h
   subst J;repeat' (first
    |(apply ai ?_;clear hK K)|apply Ry.o ?_|(apply kT (fun C Z=>?_) (fun C Z=>?_)<;>try(cases C;done))|(apply bi (fun Y z=>?_) (fun Y z=>?_)<;>try(cases Y;done))|apply aq ?_|(apply zaW fun K hK=>?_)|apply za8 ?_|apply aN ?_)
   all_goals (refine⟨za2,_,za7,?_⟩;try simp only[za0]))
noncomputable def lT:En:=⟨31,false,dA (fun x=>x.1.length<2^40) qs fun x=>.str (rn x.2 x.1)⟩
theorem DN(ρ:Nat->Int):fk Try.prog ρ lT:=zcQ fun x I=>zmR ρ x I
structure ReX where
 x:Ex
 v:Bool
 a:Bool
def py(y:ReX):List AV:=[.agg y.x.cells,.bool y.v,.bool y.a]
theorem Ao(x y:ReX)(h:py x=py y):x=y:=by
 obtain⟨x,v,a⟩:=x;obtain⟨U,z,i⟩:=y;simp only[py,ez,AV.agg.injEq,AV.bool.injEq,br]at h;rw[Ex.inj h.1,h.2.1,h.2.2]
theorem zbI.madeR{S:Nat->Prop}{n:Nat}{H:Hp}{cs O:List AV}(h:zbI S n H cs O)(U:n<=58):∃m u,iceV H m (.agg cs)=some u/\dE 60 u=.agg O:=by
 obtain⟨K,i,g⟩:=h;have Z:zbS S 100 H (.agg cs) (.agg K):=zbS.up (n:=n+1) ⟨K,i,rfl⟩ ac;obtain⟨I,V⟩:=zbS.iceV Z;refine⟨I,.agg K,V I (aA _),?_⟩;show AV.agg (K.map (dE 59))=_;rw[g 59 ac]
theorem Ls{ρ:Nat->Int}{l:List En}(Z:jc Try.prog ρ l){z:Type}(sz:z->Nat){f:FuncId}{ok:z->Prop}{enc:z->List AV}{out:z->AV}(I:∀x,ok x->fB (enc x))
 (h:∀x,ok x->za9 Try.prog (za3 pls (⟨f,false,dA (fun y=>ok y/\sz y<sz x) enc out⟩::l)) f (enc x) zbk fun v H'=>∃m u,iceV H' m v=some u/\dE 60 u=out x):∀x,ok x->cn Try.prog ρ f (enc x) (out x):=by
 have K:∀n x,sz x<n->ok x->cn Try.prog ρ f (enc x) (out x):=by
  intro n;induction n with
  |zero=>intro x V;omega
  |succ n ih=>
   intro x V i;exact zr (cfg:=za3 pls (⟨f,false,dA (fun y=>ok y/\sz y<sz x) enc out⟩::l)) fit (pL ρ) (fun g Y r C=>jc.look (l:=⟨f,false,dA (fun y=>ok y/\sz y<sz x) enc out⟩::l) ⟨zcQ fun y o=>ih y ac o.1,Z⟩ g Y r C) (I x i) (h x i)
 exact fun x=>K (sz x+1) x (cJ _)
theorem zsN{H:Hp}(k n op:Int)(nm:List UInt8){kv:AV}{j:List Ex}{S:Nat->Prop}{m:Nat}(h:dB S (m+1) H kv (.lst (j.map Ex.cells)))(V:m<=57):∃I u,iceV H I (.agg [.int .i64 k,.int .i64 n,.str nm,.int .i64 op,kv])=some u/\dE 60 u=.agg (Ex.mk k n nm op j).cells:=(tT k n op nm h).madeR ac
theorem zsO(ρ:Nat->Int):∀y:ReX,y.x.sz<2^36->cn Try.prog ρ 33 (py y) (.agg (zbc y.v y.a y.x).cells):=
 Ls (l:=[lT]) ⟨DN ρ,trivial⟩ (fun y=>y.x.sz) (ok:=fun y=>y.x.sz<2^36) (enc:=py) (out:=fun y=>.agg (zbc y.v y.a y.x).cells) (fun y _=>.cons (.agg y.x.pure) (.cons (.bool _) (.cons (.bool _) .nil))) (fun y hx=>by
 have hw:=GG (sz:=fun y:ReX=>y.x.sz) (ok:=fun y=>y.x.sz<2^36) (out:=fun y=>.agg (zbc y.v y.a y.x).cells) Ao (f:=33) (l:=[lT]) y;generalize hl:(⟨33,false,dA (fun z=>z.x.sz<2^36/\z.x.sz<y.x.sz) py fun y=>.agg (zbc y.v y.a y.x).cells⟩:En)::[lT]=l at hw⊢;obtain⟨x,v,a⟩:=y;simp only at hx hl hw⊢;have kr:∀(y:Ex),y.sz<x.sz->∀H,za9 Try.prog (za3 pls l) 33 [.agg y.cells,.bool v,.bool a] H fun w H'=>w=.agg (zbc v a y).cells/\H'=H:=fun y L H=>by
  subst hl;exact zcz (enc:=py) (out:=fun y=>.agg (zbc y.v y.a y.x).cells) Ao (x:=⟨y,v,a⟩) rfl ⟨show y.sz<2^36 by omega,L⟩
 have kn:∀(s:za5) (o:Bool),s.length<2^40->∀H,za9 Try.prog (za3 pls l) 31 [.str s,.bool o] H fun w H'=>w=.str (rn o s)/\H'=H:=fun s o h H=>by
  subst hl;exact zcz (enc:=qs) (ok:=fun x=>x.1.length<2^40) (out:=fun x=>.str (rn x.2 x.1)) DM (x:=(s,o)) rfl h
 have hkeep:(za3 pls l).keep 33=false:=rfl;clear hl;have hsz:=x.sz_eq;have hlen:=zdH x.kids;obtain⟨k,n,Y,C,Z⟩:=x;simp only[Ex.kids,Ex.name]at hsz hlen;have e5:(Ex.mk k n Y C Z).cells=[.int .i64 k,.int .i64 n,.str Y,.int .i64 C,.lst (Z.map Ex.cells)]:=pM;change za9 _ _ _ [.agg (Ex.mk k n Y C Z).cells,.bool v,.bool a] _ _;change PlainA _ _ [.agg (Ex.mk k n Y C Z).cells,.bool v,.bool a]at hw;rw[e5]at hw⊢;clear e5;have hn40:Y.length<2^40:=ac;refine zbs (M:=44) (rs:=[.cell 6 51]) hw.call hw.ice hw.froz Try.func33 rfl rfl Lr.2 rfl ?_;dsimp only[Lr,zbj,Nat.reduceAdd];repeat' (first
  |(apply ai ?_;clear hK K)|apply Rx.o ?_|apply aq ?_|(apply zaW fun K hK=>?_)|fail)
 refine Cr (fun E' H'=>E'.at 1=.bool v/\E'.at 2=.bool a/\E'.at 3=.ptr 0 0/\E'.at 6=.ptr 1 0/\H'.next=2/\H'.get 0=some (.cells [.int .i64 k,.int .i64 n,.str (if k=2 then rn v Y else Y),.int .i64 C,.lst (Z.map Ex.cells)] 0 true)/\H'.get 1=some (.cells [.int .i64 0,.int .i64 0,.str [],.int .i64 0,.nilS] 0 true)) ?_ ?_
 .by_cases L:k=2
  .subst L;repeat' (first
    |(apply ai ?_;clear hK K)|apply Ry.o ?_|apply dD ?_|(apply jb ?_;first|refine zbV (kn Y v hn40 _) ?_)|(apply bi (fun U V=>?_) (fun U V=>?_)<;>try(cases U;done))|(apply zaW fun K hK=>?_)|fail)
   exact⟨rfl,eE,eE,eE,eE,rfl,by simp[aC,],by simp[aC,zaY,zbb,zb4]⟩
  .repeat' (first
    |(apply bi (fun U V=>?_) (fun U V=>?_)<;>try(cases U;done))|apply za8 ?_|fail)
   exact⟨rfl,eE,eE,eE,eE,rfl,by simp[L,zaY,zbb,zb4],by simp[zaY,zbb,zb4]⟩
 rintro E1 H1 ⟨k1,k2,k3,k6,zbT,g0,g1⟩;dsimp only[kM];have hnm1:(if k=2 then rn v Y else Y).length<2^40:=by
  have:=qr v Y;split<;>omega
 have hnm:(if k=2 then rn v Y else if k=3 then rn a Y else Y)=if k=3 then rn a (if k=2 then rn v Y else Y)else if k=2 then rn v Y else Y:=by
  by_cases c2:k=2
  .rw[aj c2,af ac,aj c2]
  .rw[af c2,af c2]
 have hout:zbc v a (.mk k n Y C Z)=.mk k n (if k=3 then rn a (if k=2 then rn v Y else Y)else if k=2 then rn v Y else Y) C (Z.map (zbc v a)):=by
  rw[zbc,hnm,ri]
 rw[hout];generalize (if k=2 then rn v Y else Y)=j at *;clear hnm hout;obtain⟨n1a,n1b⟩:2<=H1.next/\H1.next<=2:=ac
 clear zbT;have x0:(0 == H1.next)=false:=zbn ac;have x1:(1 == H1.next)=false:=zbn ac;repeat' (first
  |(apply ai ?_;clear hK K)|apply Rx.o ?_|apply aq ?_|(apply zaW fun K hK=>?_)|fail)
 refine Cr (fun E' H'=>E'.at 1=.bool v/\E'.at 2=.bool a/\E'.at 3=.ptr 0 0/\E'.at 6=.ptr 1 0/\2<=H'.next/\H'.get 0=some (.cells [.int .i64 k,.int .i64 n,.str (if k=3 then rn a j else j),.int .i64 C,.lst (Z.map Ex.cells)] 0 true)/\H'.get 1=some (.cells [.int .i64 0,.int .i64 0,.str [],.int .i64 0,.nilS] 0 true)) ?_ ?_
 .by_cases h3:k=3
  .subst h3;repeat' (first
    |(apply ai ?_;clear hK K)|apply Ry.o ?_|apply dD ?_|(apply jb ?_;first|refine zbV (kn j a hnm1 _) ?_)|(apply bi (fun U V=>?_) (fun U V=>?_)<;>try(cases U;done))|(apply zaW fun K hK=>?_)|fail)
   exact⟨rfl,eE,eE,eE,eE,n1a,CD,by rw[aC,af ac];exact g1⟩
  .repeat' (first
    |(apply bi (fun U V=>?_) (fun U V=>?_)<;>try(cases U;done))|apply za8 ?_|fail)
   exact⟨rfl,eE,eE,eE,eE,n1a,by rw[af h3];exact g0,g1⟩
 clear g0 g1 k1 k2 k3 k6 x0 x1 n1a n1b;rintro E2 H2 ⟨k1,k2,k3,k6,n2,g0,g1⟩;dsimp only[kM];generalize (if k=3 then rn a j else j)=nm2 at *;have x0:(0 == H2.next)=false:=zbn ac;repeat' (first
  |(apply ai ?_;clear hK K)|apply Rx.o ?_|apply aq ?_|(apply zaW fun K hK=>?_)|apply aO ?_|fail)
 refine zcj [1,2,3,6,27,28] [0,1] 29 Z.length (fun i E H=>∃w,E.at 7=w/\zbN (fun k=>2<=k) 1 H 5 w ((Z.take i).map fun y=>(zbc v a y).cells)) eE ⟨.nilS,eE,.inl ⟨rfl,aw⟩⟩ ?_;rintro i E3 O hi hcE hrH hnH hsI ⟨w,k7,J⟩;(try simp only[zbR,zbq,br,za4,zbg,Nat.reduceBEq, *]at hcE);(try simp only[zbR,zbq,br, *]at hrH);(try simp only[zbb,zbl,zb4,b4,Nat.reduceAdd]at hnH);have hB0:(0 == O.next)=false:=zbn ac;have hC0:(O.next == 0)=false:=zbn ac;have hB1:(1 == O.next)=false:=zbn ac;have hC1:(O.next == 1)=false:=zbn ac;have n3:2<=O.next:=ac
 by_cases hlt:i<Z.length
 .have hlt':(i:Int)<Z.length:=by omega
  have hgx:Z[i]?=some Z[i]:=aY hlt;have hsm:=zdJ (dW hlt);have htk:Z.take (i+1)=Z.take i++[Z[i]]:=z8;generalize Z[i]=y at *;have kry:=kr y (by show y.sz<_;rw[Ex.sz];omega);have hbs:=fun H=>uc H (cs:=(zbc v a y).cells) (sh _) (sk _);repeat' (first
   |(apply ai ?_;clear hK K)|apply Ry.o ?_|apply dD ?_|(apply jb ?_;first|refine zbV (kry _) ?_)|(apply bi (fun U V=>?_) (fun U V=>?_)<;>try(cases U;done))|apply aq ?_|(apply zaW fun K hK=>?_)|apply aO ?_|apply za8 ?_|fail)
  generalize I:Hp.alloc (Hp.set (Hp.alloc O _) _ _) _=H4;have n4:O.next+2<=H4.next:=by rw[<-I];exact aA _
  have gr:H4.get (O.next+1)=some (.cells (zbc v a y).cells 0 true):=by rw[<-I,zaY,aj cN]
  have k4:∀q,q<O.next->H4.get q=O.get q:=fun q hq=>by rw[<-I,zaY,af f0,aC,af ac,zaY,af ac]
  clear I;have hw4:zbN (fun k=>2<=k) 1 H4 5 w ((Z.take i).map fun y=>(zbc v a y).cells):=J.keep (fun _ _ h=>h) ac fun q _ L=>k4 q L;obtain⟨v5,H5,a5,s5,n5,f5,q5⟩:=oh (P:=Try.prog) (t:=49) Try.underlying49 tB vA vB rfl ah (lo:=2) hw4 ac (r:=O.next+1) (imm:=0) (row:=(zbc v a y).cells) (w:=(zbc v a y).cells) gr (sh _) (sk _) (zbI.ex _) lR lR;have hne:∀q,q<2->∀o m z',w≠.sl q o m z':=fun q hq o m z' e=>by
   rcases hw4 with⟨h,_⟩|⟨q',imm,rows,h1,L,_⟩
   .rw[h]at e;cases e
   .rw[h1]at e;simp only[AV.sl.injEq]at e;have h2':2<=q':=L;omega
  have g50:H5.get 0=O.get 0:=by rw[f5 0 ac (hne 0 ac)];exact k4 0 ac
  have g51:H5.get 1=O.get 1:=by rw[f5 1 ac (hne 1 ac)];exact k4 1 ac
  have n5':O.next+2<=H5.next:=ac
  clear n5 f5 q5 n4 gr k4;repeat' (first
   |(apply ai ?_;clear hK K)|apply Rx.o ?_|(apply zaW fun K hK=>?_)|fail)
  refine⟨ac,zbw,zbw,eN,CE,?_⟩;exact⟨v5,eE,by rw[htk,jJ];exact s5⟩
 .have hlt':¬(i:Int)<Z.length:=by omega
  rw[eI ac]at J;have hne:∀q,q<2->∀o m z',w≠.sl q o m z':=fun q hq o m z' e=>by
   rcases J with⟨h,_⟩|⟨q',imm,rows,h1,L,_⟩
   .rw[h]at e;cases e
   .rw[h1]at e;simp only[AV.sl.injEq]at e;have h2':2<=q':=L;omega
  have aggE5R:∀(b c d e g:AV),zbJ 5 [b,c,d,e,g]=some (.agg [b,c,d,e,g]):=fun _ _ _ _ _=>rfl;obtain⟨o1,o2⟩:=J.one;repeat' (first
   |(apply ai ?_;clear hK K)|apply Ry.o ?_|apply dD ?_|(apply bi (fun U V=>?_) (fun U V=>?_)<;>try(cases U;done))|apply aq ?_|(apply zaW fun K hK=>?_)|apply aN ?_|apply zbW ?_)
  refine⟨za2,_,(by(try simp only[za4,zbg,Nat.reduceBEq,tyF,zb9,zch, *]);first|done|with_reducible rfl),?_⟩;try simp only[za0]
  refine zsN (S:=fun k=>2<=k) (m:=1) _ _ _ _ ?_ ac;rw[ja];exact J.rd.keep2 (fun _ _ h=>h) (aA _) fun k h1 L=>wL)
end
section
def tyRenF.tyF:=ad @eJ (ad @cQ (ad @cW (ad @eK (ad @eA (ad @dX (ad @fj (@YI)))))))
open tyRenF
noncomputable def Lt:{c:SC // aD 93 (Try.f32.body.getD .skip)=c}:=by
 refine⟨?_,?_⟩;rotate_left
 .simp only[Try.f32,bP,aD,zby,zbt,zbA,zbB,Nat.blt,Nat.ble];rfl
structure RsX where
 l:List St
 v:Bool
 a:Bool
 f:Bool
def qt(y:RsX):List AV:=[.lst (y.l.map St.cells),.bool y.v,.bool y.a,.bool y.f]
theorem DO(x y:RsX)(h:qt x=qt y):x=y:=by
 obtain⟨x,v,a,f⟩:=x;obtain⟨U,z,i,Z⟩:=y;simp only[qt,ez,AV.lst.injEq,AV.bool.injEq,br]at h;rw[Gy h.1,h.2.1,h.2.2.1,h.2.2.2]
noncomputable def ox:En:=⟨33,false,dA (fun y=>y.x.sz<2^36) py fun y=>.agg (zbc y.v y.a y.x).cells⟩
theorem Lu(ρ:Nat->Int):fk Try.prog ρ ox:=zcQ fun x I=>zsO ρ x I
theorem dB.madeR{S:Nat->Prop}{n:Nat}{H:Hp}{v w:AV}(h:dB S n H v w)(U:n<=60):∃m u,iceV H m v=some u/\dE 60 u=w:=by
 obtain⟨u,i,g⟩:=h;obtain⟨I,V⟩:=zbS.iceV i;exact⟨I,u,V I (aA _),g 60 U⟩
theorem DP(a b c d e:AV)(r:List AV):zbJ 5 (a::b::c::d::e::r)=some (.agg [a,b,c,d,e]):=by
 unfold zbJ;simp
theorem sW(x:Ex):x.cells=[.int .i64 x.kind,.int .i64 x.n,.str x.name,.int .i64 x.op,.lst (x.kids.map Ex.cells)]:=mh x
set_option maxRecDepth 100000 in
theorem zqm(ρ:Nat->Int):∀y:RsX,zbC y.l<2^36->cn Try.prog ρ 32 (qt y) (.lst ((y.l.map (zbr y.v y.a y.f)).map St.cells)):=
 Ls (l:=[lT,ox]) ⟨DN ρ,Lu ρ,trivial⟩ (fun y=>zbC y.l) (ok:=fun y=>zbC y.l<2^36) (enc:=qt) (out:=fun y=>.lst ((y.l.map (zbr y.v y.a y.f)).map St.cells)) (fun y _=>.cons (Ch _) (.cons (.bool _) (.cons (.bool _) (.cons (.bool _) .nil)))) (fun y hx=>by
 have hw:=GG (sz:=fun y:RsX=>zbC y.l) (ok:=fun y=>zbC y.l<2^36) (out:=fun y=>.lst ((y.l.map (zbr y.v y.a y.f)).map St.cells)) DO (f:=32) (l:=[lT,ox]) y;generalize hl:(⟨32,false,dA (fun z=>zbC z.l<2^36/\zbC z.l<zbC y.l) qt fun y=>.lst ((y.l.map (zbr y.v y.a y.f)).map St.cells)⟩:En)::[lT,ox]=l at hw⊢;obtain⟨xs,v,a,f⟩:=y;simp only at hx hl hw⊢;have kr:∀(y:List St),zbC y<zbC xs->∀H,za9 Try.prog (za3 pls l) 32 [.lst (y.map St.cells),.bool v,.bool a,.bool f] H fun w H'=>w=.lst ((y.map (zbr v a f)).map St.cells)/\H'=H:=fun y g H=>by
  subst hl;exact zcz (enc:=qt) (out:=fun y=>.lst ((y.l.map (zbr y.v y.a y.f)).map St.cells)) DO (x:=⟨y,v,a,f⟩) rfl ⟨show zbC y<2^36 by omega,g⟩
 have kn:∀(s:za5) (o:Bool),s.length<2^40->∀H,za9 Try.prog (za3 pls l) 31 [.str s,.bool o] H fun w H'=>w=.str (rn o s)/\H'=H:=fun s o h H=>by
  subst hl;exact zcz (enc:=qs) (ok:=fun x=>x.1.length<2^40) (out:=fun x=>.str (rn x.2 x.1)) DM (x:=(s,o)) rfl h
 have ke:∀(y:Ex),y.sz<2^36->∀H,za9 Try.prog (za3 pls l) 33 [.agg y.cells,.bool v,.bool a] H fun w H'=>w=.agg (zbc v a y).cells/\H'=H:=fun y h H=>by
  subst hl;exact zcz (enc:=py) (ok:=fun y=>y.x.sz<2^36) (out:=fun y=>.agg (zbc y.v y.a y.x).cells) Ao (x:=⟨y,v,a⟩) rfl h
 have hkeep:(za3 pls l).keep 32=false:=rfl;clear hl;have hlen:=vE xs;change za9 _ _ _ [.lst (xs.map St.cells),.bool v,.bool a,.bool f] _ _;change PlainA _ _ [.lst (xs.map St.cells),.bool v,.bool a,.bool f]at hw;refine zbs (M:=93) (rs:=[.tmp 8]) hw.call hw.ice hw.froz Try.func32 rfl rfl Lt.2 rfl ?_;dsimp only[Lt,zbj,Nat.reduceAdd];repeat' (first
  |(apply ai ?_;clear hK K)|apply Rx.o ?_|apply aq ?_|(apply zaW fun K hK=>?_)|apply aO ?_|fail)
 refine zcj [1,2,3,8,15,16] [] 17 xs.length (fun i E H=>∃w,E.at 9=w/\zbN (fun _=>True) 3 H 17 w ((xs.take i).map fun y=>(zbr v a f y).cells)) eE ⟨.nilS,eE,.inl ⟨rfl,aw⟩⟩ ?_;rintro i E3 U hi hcE hrH hnH hsI ⟨w,k9,hw3⟩;(try simp only[zbR,zbq,br,za4,zbg,Nat.reduceBEq, *]at hcE);(try simp only[zbq, *]at hrH);(try simp only[zb4,]at hnH);by_cases hlt:i<xs.length
 .have hlt':(i:Int)<xs.length:=by omega
  have hgx:xs[i]?=some xs[i]:=aY hlt;have hsm:=zdM (dW hlt);have htk:xs.take (i+1)=xs.take i++[xs[i]]:=z8;generalize xs[i]=s at *;have hsz:=s.sz_eq;obtain⟨k,nm,to,n,I,val,Y,th,el⟩:=s;simp only[St.name,St.to,St.at_,St.value,St.args,St.thn,St.els]at hsz;have ka:=ke I ac;have kv:=ke val ac;rw[sW I,sW (zbc v a I)]at ka;rw[sW val,sW (zbc v a val)]at kv;have kt:=kr th ac;have kl:=kr el ac;have kto:=kn to f ac;have hcs:(St.mk k nm to n I val Y th el).cells=[.int .i64 k,.str nm,.str to,.int .i64 n,.int .i64 I.kind,.int .i64 I.n,.str I.name,.int .i64 I.op,.lst (I.kids.map Ex.cells),.int .i64 val.kind,.int .i64 val.n,.str val.name,.int .i64 val.op,.lst (val.kids.map Ex.cells),.lst (Y.map Ex.cells),.lst (th.map St.cells),.lst (el.map St.cells)]:=iE;obtain⟨J,hv0⟩:∃J,J=v:=⟨_,rfl⟩;obtain⟨zbp,ha0⟩:∃zbp,zbp=a:=⟨_,rfl⟩;by_cases g:k=2
  .subst g;cases v<;>cases a;all_goals
    have gh0:=@DP;repeat' (first
     |(apply ai ?_;clear hK K)|apply Ry.o ?_|apply dD ?_|(apply jb ?_;first|refine zbV (kn nm _ ac _) ?_|refine zbV (kto _) ?_|refine zbV (ka _) ?_|refine zbV (kv _) ?_)|(apply kT (fun hg hgp=>?_) (fun hg hgp=>?_)<;>try(cases hg;done))|(apply bi (fun hb O=>?_) (fun hb O=>?_)<;>try(cases hb;done))|apply aq ?_|(apply zaW fun K hK=>?_)|apply aO ?_|apply za8 ?_|fail)
    generalize hHb:Hp.set _ _ _=Hb;have nb:U.next+1<=Hb.next:=Dy
    have gb:Hb.get U.next=some (.cells [.int .i64 2,.str (zbr J zbp f (.mk 2 nm to n I val Y th el)).name,.str (rn f to),.int .i64 n,.int .i64 (zbc J zbp I).kind,.int .i64 (zbc J zbp I).n,.str (zbc J zbp I).name,.int .i64 (zbc J zbp I).op,.lst ((zbc J zbp I).kids.map Ex.cells),.int .i64 (zbc J zbp val).kind,.int .i64 (zbc J zbp val).n,.str (zbc J zbp val).name,.int .i64 (zbc J zbp val).op,.lst ((zbc J zbp val).kids.map Ex.cells),.lst (Y.map Ex.cells),.lst (th.map St.cells),.lst (el.map St.cells)] 0 true):=by
     subst hv0;subst ha0;rw[<-hHb,aC,aj rfl];first
     |rfl
     |(rw[qf];simp only[St.kind,St.name,g,de];done)
     |(rw[qf];simp only[St.kind,St.name,g,de];rfl)
    have fb:∀q,q<U.next->Hb.get q=U.get q:=fun q hq=>by
     rw[<-hHb];simp only[aC,zaY,af (show ¬q=U.next by omega)]
    clear hHb;have hso:zbr J zbp f (.mk 2 nm to n I val Y th el)=.mk 2 (zbr J zbp f (.mk 2 nm to n I val Y th el)).name (rn f to) n (zbc J zbp I) (zbc J zbp val) (Y.map (zbc J zbp)) (th.map (zbr J zbp f)) (el.map (zbr J zbp f)):=by
     rw[zbr,ri,zdy,zdy];rfl
    generalize hS:zbr J zbp f (.mk 2 nm to n I val Y th el)=zdl at *;generalize zdl.name=nm1 at *;generalize hra:zbc J zbp I=Z at *;generalize hrv:zbc J zbp val=V at *;refine zcj [1,2,3,8,9,11,15,16,17,57,58] [] 59 Y.length (fun j E H=>∃w2,E.at 12=w2/\zbN (fun q=>U.next+1<=q) 1 H 5 w2 ((Y.take j).map fun y=>(zbc J zbp y).cells)/\H.get U.next=some (.cells [.int .i64 2,.str nm1,.str (rn f to),.int .i64 n,.int .i64 Z.kind,.int .i64 Z.n,.str Z.name,.int .i64 Z.op,.lst (Z.kids.map Ex.cells),.int .i64 V.kind,.int .i64 V.n,.str V.name,.int .i64 V.op,.lst (V.kids.map Ex.cells),.lst (Y.map Ex.cells),.lst (th.map St.cells),.lst (el.map St.cells)] 0 true)/\∀q,q<U.next->H.get q=U.get q) eE ⟨.nilS,eE,.inl ⟨rfl,aw⟩,gb,fb⟩ ?_;clear gb fb;rintro j E4 C hj hcE hrH hnH hsI ⟨w2,k12,hw4,gb,fb⟩;(try simp only[zbR,zbq,br,za4,zbg,Nat.reduceBEq, *]at hcE);(try simp only[zbq, *]at hrH);(try simp only[zbb,zbl,zb4,b4,Nat.reduceAdd]at hnH);have n4:U.next+1<=C.next:=ac
    have hal:=zdH Y;by_cases hjt:j<Y.length
    .have hjt':(j:Int)<Y.length:=by omega
     have hgy:Y[j]?=some Y[j]:=aY hjt;have hym:=zdJ (dW hjt);have htk2:Y.take (j+1)=Y.take j++[Y[j]]:=by rw[kI,hgy];rfl
     generalize Y[j]=y at *;have kry:=ke y ac;obtain⟨yc,hyc⟩:∃yc,yc=zbc J zbp y:=⟨_,rfl⟩;have hyy:∀p q,J=p->zbp=q->zbc p q y=yc:=fun p q e1 e2=>by rw[hyc,e1,e2]
     rw[hyy _ _ hv0 ha0]at kry;clear hyc;have hbs:=fun H=>uc H (cs:=yc.cells) (sh _) (sk _);repeat' (first
      |(apply ai ?_;clear hK K)|apply Ry.o ?_|apply dD ?_|(apply jb ?_;first|refine zbV (kry _) ?_)|(apply bi (fun hb O=>?_) (fun hb O=>?_)<;>try(cases hb;done))|apply aq ?_|(apply zaW fun K hK=>?_)|apply aO ?_|apply za8 ?_|fail)
     generalize hH5:Hp.alloc (Hp.set (Hp.alloc C _) _ _) _=H5;have n5:C.next+2<=H5.next:=Dz
     have gr:H5.get (C.next+1)=some (.cells yc.cells 0 true):=DA;have k5:∀q,q<C.next->H5.get q=C.get q:=fun q hq=>KY
     clear hH5;have hw5:zbN (fun q=>U.next+1<=q) 1 H5 5 w2 ((Y.take j).map fun y=>(zbc J zbp y).cells):=hw4.keep (fun _ _ h=>h) ac fun q _ g=>k5 q g;obtain⟨v6,H6,a6,s6,n6,f6,q6⟩:=oh (P:=Try.prog) (t:=49) Try.underlying49 tB vA vB rfl ah (lo:=U.next+1) hw5 ac (r:=C.next+1) (imm:=0) (row:=yc.cells) (w:=yc.cells) gr (sh _) (sk _) (zbI.ex _) z9 z9;have hne:∀q,q<U.next+1->∀o m L,w2≠.sl q o m L:=fun q hq o m L e=>by
      rcases hw5 with⟨h,_⟩|⟨q',imm,rows,h1,g,_⟩
      .rw[h]at e;cases e
      .rw[h1]at e;simp only[AV.sl.injEq]at e;have h2':U.next+1<=q':=g
       omega
     have k6:∀q,q<U.next+1->H6.get q=C.get q:=fun q hq=>KZ
     have n6':C.next+2<=H6.next:=ac
     have g6:=(k6 U.next ac).trans gb;clear n6 f6 q6 n5 gr k5;repeat' (first
      |(apply ai ?_;clear hK K)|apply Rx.o ?_|(apply zaW fun K hK=>?_)|fail)
     refine⟨ac,zbw,zbw,eN,K0,?_⟩;exact⟨v6,eE,KW,g6,fun q hq=>by rw[k6 q ac];exact fb q hq⟩
    .have hjt':¬(j:Int)<Y.length:=by omega
     rw[eI ac]at hw4;have hbT:=fun H (cs:List AV) (h:cs.length=17)=>Dl H h;obtain⟨o1,o2⟩:=hw4.one;have kt2:∀p q,J=p->zbp=q->th.map (zbr p q f)=th.map (zbr J zbp f):=fun p q e1 e2=>by rw[e1,e2]
     have kl2:∀p q,J=p->zbp=q->el.map (zbr p q f)=el.map (zbr J zbp f):=fun p q e1 e2=>by rw[e1,e2]
     rw[kt2 _ _ hv0 ha0]at kt;rw[kl2 _ _ hv0 ha0]at kl;generalize th.map (zbr J zbp f)=th2 at *;generalize el.map (zbr J zbp f)=el2 at *;clear kt2 kl2;repeat' (first
      |(apply ai ?_;clear hK K)|apply Ry.o ?_|apply dD ?_|(apply jb ?_;first|refine zbV (kt _) ?_|refine zbV (kl _) ?_)|(apply bi (fun hb O=>?_) (fun hb O=>?_)<;>try(cases hb;done))|apply aq ?_|(apply zaW fun K hK=>?_)|apply zbW ?_)
     generalize hH7:Hp.alloc _ _=H7;have n7:C.next+1<=H7.next:=by rw[<-hH7];exact aA _
     have g7:H7.get C.next=some (.cells [.int .i64 2,.str nm1,.str (rn f to),.int .i64 n,.int .i64 Z.kind,.int .i64 Z.n,.str Z.name,.int .i64 Z.op,.lst (Z.kids.map Ex.cells),.int .i64 V.kind,.int .i64 V.n,.str V.name,.int .i64 V.op,.lst (V.kids.map Ex.cells),w2,.lst (th2.map St.cells),.lst (el2.map St.cells)] 0 true):=by
      rw[<-hH7,zaY,aj cN]
     have k7:∀q,q<C.next->q≠U.next->H7.get q=C.get q:=fun q h1 g=>by
      rw[<-hH7,zaY,af eg];simp only[aC,af g]
     clear hH7;have hwA:zbN (fun k=>0<=k) 3 H7 17 w ((xs.take i).map fun y=>(zbr J zbp f y).cells):=by
      have:=hw3.keep (S':=fun k=>0<=k) (H':=H7) (fun _ _ _=>dg _) ac fun q _ g=>(k7 q ac ac).trans (fb q g);rw[hv0,ha0];exact this
     have hwl:∀q o m L,w=.sl q o m L->q<U.next:=fun q o m L e=>by
      rcases hw3 with⟨h,_⟩|⟨q',imm,rows,h1,_,g,_⟩
      .rw[h]at e;cases e
      .rw[h1]at e;simp only[AV.sl.injEq]at e;omega
     have hargs:dB (fun q=>0<=q/\∀o m L,w≠.sl q o m L) 3 H7 w2 (.lst ((Y.map (zbc J zbp)).map Ex.cells)):=by
      rw[ja];exact((hw4.keep (S':=fun q=>0<=q/\∀o m L,w≠.sl q o m L) (H':=H7) (fun q h1 g=>⟨dg _,fun o m L e=>by have:=hwl q o m L e;omega⟩) ac fun q h1 g=>k7 q g (by have h1':U.next+1<=q:=h1;omega)).rd).up ac
     have hcell:zbI (fun q=>0<=q/\∀o m L,w≠.sl q o m L) 3 H7 [.int .i64 2,.str nm1,.str (rn f to),.int .i64 n,.int .i64 Z.kind,.int .i64 Z.n,.str Z.name,.int .i64 Z.op,.lst (Z.kids.map Ex.cells),.int .i64 V.kind,.int .i64 V.n,.str V.name,.int .i64 V.op,.lst (V.kids.map Ex.cells),w2,.lst (th2.map St.cells),.lst (el2.map St.cells)] zdl.cells:=by
      rw[hso];exact qn (n:=2) 2 nm1 (rn f to) n (a:=[.int .i64 Z.kind,.int .i64 Z.n,.str Z.name,.int .i64 Z.op,.lst (Z.kids.map Ex.cells)]) (v:=[.int .i64 V.kind,.int .i64 V.n,.str V.name,.int .i64 V.op,.lst (V.kids.map Ex.cells)]) wO wO hargs (wh th2) (wh el2)
     obtain⟨v8,H8,a8,s8,n8,f8,q8⟩:=oh (P:=Try.prog) (t:=48) Try.underlying48 vC yf yg rfl ah (lo:=0) hwA (dg _) g7 rfl KX hcell lR lR;have n8':U.next<=H8.next:=ac
     clear n8 f8 q8 n7 g7 k7 hcell hargs hwA hwl;repeat' (first
      |(apply ai ?_;clear hK K)|apply Rx.o ?_|(apply zaW fun K hK=>?_)|fail)
     refine⟨ac,zbw,zbw,eN,K1,?_⟩;have h9:=s8.keep (S':=fun _=>True) (H':=H8) (fun _ _ _=>trivial) (aA _) fun _ _ _=>rfl;rw[<-hS,hv0,ha0]at h9;exact⟨v8,eE,by rw[htk,jJ];exact h9⟩
  .cases v<;>cases a;all_goals
    have gh0:=@DP;repeat' (first
     |(apply ai ?_;clear hK K)|apply Ry.o ?_|apply dD ?_|(apply jb ?_;first|refine zbV (kn nm _ ac _) ?_|refine zbV (kto _) ?_|refine zbV (ka _) ?_|refine zbV (kv _) ?_)|apply Ry.gu ?_|(apply kT (fun hg hgp=>?_) (fun hg hgp=>?_)<;>try(cases hg;done))|(apply bi (fun hb O=>?_) (fun hb O=>?_)<;>try(cases hb;done))|apply aq ?_|(apply zaW fun K hK=>?_)|apply aO ?_|apply za8 ?_|fail)
    generalize hHb:Hp.set _ _ _=Hb;have nb:U.next+1<=Hb.next:=Dy
    have gb:Hb.get U.next=some (.cells [.int .i64 k,.str (zbr J zbp f (.mk k nm to n I val Y th el)).name,.str (rn f to),.int .i64 n,.int .i64 (zbc J zbp I).kind,.int .i64 (zbc J zbp I).n,.str (zbc J zbp I).name,.int .i64 (zbc J zbp I).op,.lst ((zbc J zbp I).kids.map Ex.cells),.int .i64 (zbc J zbp val).kind,.int .i64 (zbc J zbp val).n,.str (zbc J zbp val).name,.int .i64 (zbc J zbp val).op,.lst ((zbc J zbp val).kids.map Ex.cells),.lst (Y.map Ex.cells),.lst (th.map St.cells),.lst (el.map St.cells)] 0 true):=by
     subst hv0;subst ha0;rw[<-hHb,aC,aj rfl];first
     |rfl
     |(rw[qf];simp only[St.kind,St.name,g,de];done)
     |(rw[qf];simp only[St.kind,St.name,g,de];rfl)
    have fb:∀q,q<U.next->Hb.get q=U.get q:=fun q hq=>by
     rw[<-hHb];simp only[aC,zaY,af (show ¬q=U.next by omega)]
    clear hHb;have hso:zbr J zbp f (.mk k nm to n I val Y th el)=.mk k (zbr J zbp f (.mk k nm to n I val Y th el)).name (rn f to) n (zbc J zbp I) (zbc J zbp val) (Y.map (zbc J zbp)) (th.map (zbr J zbp f)) (el.map (zbr J zbp f)):=by
     rw[zbr,ri,zdy,zdy];rfl
    generalize hS:zbr J zbp f (.mk k nm to n I val Y th el)=zdl at *;generalize zdl.name=nm1 at *;generalize hra:zbc J zbp I=Z at *;generalize hrv:zbc J zbp val=V at *;refine zcj [1,2,3,8,9,11,15,16,17,57,58] [] 59 Y.length (fun j E H=>∃w2,E.at 12=w2/\zbN (fun q=>U.next+1<=q) 1 H 5 w2 ((Y.take j).map fun y=>(zbc J zbp y).cells)/\H.get U.next=some (.cells [.int .i64 k,.str nm1,.str (rn f to),.int .i64 n,.int .i64 Z.kind,.int .i64 Z.n,.str Z.name,.int .i64 Z.op,.lst (Z.kids.map Ex.cells),.int .i64 V.kind,.int .i64 V.n,.str V.name,.int .i64 V.op,.lst (V.kids.map Ex.cells),.lst (Y.map Ex.cells),.lst (th.map St.cells),.lst (el.map St.cells)] 0 true)/\∀q,q<U.next->H.get q=U.get q) eE ⟨.nilS,eE,.inl ⟨rfl,aw⟩,gb,fb⟩ ?_;clear gb fb;rintro j E4 C hj hcE hrH hnH hsI ⟨w2,k12,hw4,gb,fb⟩;(try simp only[zbR,zbq,br,za4,zbg,Nat.reduceBEq, *]at hcE);(try simp only[zbq, *]at hrH);(try simp only[zbb,zbl,zb4,b4,Nat.reduceAdd]at hnH);have n4:U.next+1<=C.next:=ac
    have hal:=zdH Y;by_cases hjt:j<Y.length
    .have hjt':(j:Int)<Y.length:=by omega
     have hgy:Y[j]?=some Y[j]:=aY hjt;have hym:=zdJ (dW hjt);have htk2:Y.take (j+1)=Y.take j++[Y[j]]:=by rw[kI,hgy];rfl
     generalize Y[j]=y at *;have kry:=ke y ac;obtain⟨yc,hyc⟩:∃yc,yc=zbc J zbp y:=⟨_,rfl⟩;have hyy:∀p q,J=p->zbp=q->zbc p q y=yc:=fun p q e1 e2=>by rw[hyc,e1,e2]
     rw[hyy _ _ hv0 ha0]at kry;clear hyc;have hbs:=fun H=>uc H (cs:=yc.cells) (sh _) (sk _);repeat' (first
      |(apply ai ?_;clear hK K)|apply Ry.o ?_|apply dD ?_|(apply jb ?_;first|refine zbV (kry _) ?_)|(apply bi (fun hb O=>?_) (fun hb O=>?_)<;>try(cases hb;done))|apply aq ?_|(apply zaW fun K hK=>?_)|apply aO ?_|apply za8 ?_|fail)
     generalize hH5:Hp.alloc (Hp.set (Hp.alloc C _) _ _) _=H5;have n5:C.next+2<=H5.next:=Dz
     have gr:H5.get (C.next+1)=some (.cells yc.cells 0 true):=DA;have k5:∀q,q<C.next->H5.get q=C.get q:=fun q hq=>KY
     clear hH5;have hw5:zbN (fun q=>U.next+1<=q) 1 H5 5 w2 ((Y.take j).map fun y=>(zbc J zbp y).cells):=hw4.keep (fun _ _ h=>h) ac fun q _ g=>k5 q g;obtain⟨v6,H6,a6,s6,n6,f6,q6⟩:=oh (P:=Try.prog) (t:=49) Try.underlying49 tB vA vB rfl ah (lo:=U.next+1) hw5 ac (r:=C.next+1) (imm:=0) (row:=yc.cells) (w:=yc.cells) gr (sh _) (sk _) (zbI.ex _) z9 z9;have hne:∀q,q<U.next+1->∀o m L,w2≠.sl q o m L:=fun q hq o m L e=>by
      rcases hw5 with⟨h,_⟩|⟨q',imm,rows,h1,g,_⟩
      .rw[h]at e;cases e
      .rw[h1]at e;simp only[AV.sl.injEq]at e;have h2':U.next+1<=q':=g
       omega
     have k6:∀q,q<U.next+1->H6.get q=C.get q:=fun q hq=>KZ
     have n6':C.next+2<=H6.next:=ac
     have g6:=(k6 U.next ac).trans gb;clear n6 f6 q6 n5 gr k5;repeat' (first
      |(apply ai ?_;clear hK K)|apply Rx.o ?_|(apply zaW fun K hK=>?_)|fail)
     refine⟨ac,zbw,zbw,eN,K0,?_⟩;exact⟨v6,eE,KW,g6,fun q hq=>by rw[k6 q ac];exact fb q hq⟩
    .have hjt':¬(j:Int)<Y.length:=by omega
     rw[eI ac]at hw4;have hbT:=fun H (cs:List AV) (h:cs.length=17)=>Dl H h;obtain⟨o1,o2⟩:=hw4.one;have kt2:∀p q,J=p->zbp=q->th.map (zbr p q f)=th.map (zbr J zbp f):=fun p q e1 e2=>by rw[e1,e2]
     have kl2:∀p q,J=p->zbp=q->el.map (zbr p q f)=el.map (zbr J zbp f):=fun p q e1 e2=>by rw[e1,e2]
     rw[kt2 _ _ hv0 ha0]at kt;rw[kl2 _ _ hv0 ha0]at kl;generalize th.map (zbr J zbp f)=th2 at *;generalize el.map (zbr J zbp f)=el2 at *;clear kt2 kl2;repeat' (first
      |(apply ai ?_;clear hK K)|apply Ry.o ?_|apply dD ?_|(apply jb ?_;first|refine zbV (kt _) ?_|refine zbV (kl _) ?_)|(apply bi (fun hb O=>?_) (fun hb O=>?_)<;>try(cases hb;done))|apply aq ?_|(apply zaW fun K hK=>?_)|apply zbW ?_)
     generalize hH7:Hp.alloc _ _=H7;have n7:C.next+1<=H7.next:=by rw[<-hH7];exact aA _
     have g7:H7.get C.next=some (.cells [.int .i64 k,.str nm1,.str (rn f to),.int .i64 n,.int .i64 Z.kind,.int .i64 Z.n,.str Z.name,.int .i64 Z.op,.lst (Z.kids.map Ex.cells),.int .i64 V.kind,.int .i64 V.n,.str V.name,.int .i64 V.op,.lst (V.kids.map Ex.cells),w2,.lst (th2.map St.cells),.lst (el2.map St.cells)] 0 true):=by
      rw[<-hH7,zaY,aj cN]
     have k7:∀q,q<C.next->q≠U.next->H7.get q=C.get q:=fun q h1 g=>by
      rw[<-hH7,zaY,af eg];simp only[aC,af g]
     clear hH7;have hwA:zbN (fun k=>0<=k) 3 H7 17 w ((xs.take i).map fun y=>(zbr J zbp f y).cells):=by
      have:=hw3.keep (S':=fun k=>0<=k) (H':=H7) (fun _ _ _=>dg _) ac fun q _ g=>(k7 q ac ac).trans (fb q g);rw[hv0,ha0];exact this
     have hwl:∀q o m L,w=.sl q o m L->q<U.next:=fun q o m L e=>by
      rcases hw3 with⟨h,_⟩|⟨q',imm,rows,h1,_,g,_⟩
      .rw[h]at e;cases e
      .rw[h1]at e;simp only[AV.sl.injEq]at e;omega
     have hargs:dB (fun q=>0<=q/\∀o m L,w≠.sl q o m L) 3 H7 w2 (.lst ((Y.map (zbc J zbp)).map Ex.cells)):=by
      rw[ja];exact((hw4.keep (S':=fun q=>0<=q/\∀o m L,w≠.sl q o m L) (H':=H7) (fun q h1 g=>⟨dg _,fun o m L e=>by have:=hwl q o m L e;omega⟩) ac fun q h1 g=>k7 q g (by have h1':U.next+1<=q:=h1;omega)).rd).up ac
     have hcell:zbI (fun q=>0<=q/\∀o m L,w≠.sl q o m L) 3 H7 [.int .i64 k,.str nm1,.str (rn f to),.int .i64 n,.int .i64 Z.kind,.int .i64 Z.n,.str Z.name,.int .i64 Z.op,.lst (Z.kids.map Ex.cells),.int .i64 V.kind,.int .i64 V.n,.str V.name,.int .i64 V.op,.lst (V.kids.map Ex.cells),w2,.lst (th2.map St.cells),.lst (el2.map St.cells)] zdl.cells:=by
      rw[hso];exact qn (n:=2) k nm1 (rn f to) n (a:=[.int .i64 Z.kind,.int .i64 Z.n,.str Z.name,.int .i64 Z.op,.lst (Z.kids.map Ex.cells)]) (v:=[.int .i64 V.kind,.int .i64 V.n,.str V.name,.int .i64 V.op,.lst (V.kids.map Ex.cells)]) wO wO hargs (wh th2) (wh el2)
     obtain⟨v8,H8,a8,s8,n8,f8,q8⟩:=oh (P:=Try.prog) (t:=48) Try.underlying48 vC yf yg rfl ah (lo:=0) hwA (dg _) g7 rfl KX hcell lR lR;have n8':U.next<=H8.next:=ac
     clear n8 f8 q8 n7 g7 k7 hcell hargs hwA hwl;repeat' (first
      |(apply ai ?_;clear hK K)|apply Rx.o ?_|(apply zaW fun K hK=>?_)|fail)
     refine⟨ac,zbw,zbw,eN,K1,?_⟩;have h9:=s8.keep (S':=fun _=>True) (H':=H8) (fun _ _ _=>trivial) (aA _) fun _ _ _=>rfl;rw[<-hS,hv0,ha0]at h9;exact⟨v8,eE,by rw[htk,jJ];exact h9⟩
 .have hlt':¬(i:Int)<xs.length:=by omega
  rw[eI ac]at hw3;repeat' (first
   |(apply ai ?_;clear hK K)|apply Ry.o ?_|(apply bi (fun hb O=>?_) (fun hb O=>?_)<;>try(cases hb;done))|apply aq ?_|(apply zaW fun K hK=>?_)|apply aN ?_|apply zbW ?_)
  refine⟨za2,_,Cd,?_⟩;try simp only[za0]
  refine dB.madeR (S:=fun _=>True) (n:=4) ?_ ac;rw[ja];exact hw3.rd)
end
end Go.Proofs.Ytpbcimfiofmoeaa
