/- Lemmas for the last file. -/
import Derived.Test.YtbflaciihaijgaaGreatUEQ
set_option linter.all false
set_option maxHeartbeats 32000000
namespace Go.Ab
set_option maxRecDepth 20000
open Go
variable{qn:Prop}
def Jv(h:qn:=by simp[Db,Sx.eval,OE];omega):=h
end Go.Ab
namespace Go.Proofs.YtbflaciihaijgaaGreat
set_option maxRecDepth 20000
open Go Go.Ab Proofs.Tryz
variable(ρ:Nat->Int)
variable{a b:Ex}{L l:qA}{p:Pr}{n:Nat}{f:Fu}{g:Gr}
section
mutual
def fu:Ex->Nat
 | .mk k _ _ _ L=>if k=1 then 1 else if k=2 then 0 else 4+cEs L
def cEs:qM->Nat
 |[]=>0
 |e::es=>fu e+cEs es
end
theorem zm2(x:Ex):fu x=if x.az=1 then 1 else if x.az=2 then 0 else 4+cEs x.ak:=by cases x;rw[fu];rfl
mutual
def c1:St->Nat
 | .mk k _ _ _ a v I O V=>if k=1 then fu v else if k=2 then fu a+fu v+4 else if k=3 then fu v+kA O+kA V+5 else if k=4 then 2*fu v+kA O+16 else if k=5 then fu v+1 else if k=6 then cEs I+2 else if k=7 then 2 else 0
def kA:qJ->Nat
 |[]=>0
 |x::l=>c1 x+kA l
end
theorem zm3(x:St):c1 x=if x.az=1 then fu x.value else if x.az=2 then fu x.bz+fu x.value+4 else if x.az=3 then fu x.value+kA x.bm+kA x.bO+5 else if x.az=4 then 2*fu x.value+kA x.bm+16 else if x.az=5 then fu x.value+1 else if x.az=6 then cEs x.args+2 else if x.az=7 then 2 else 0:=by cases x;rw[c1];rfl
def OB{ks:qM}(h:ks[0]?=some a):fu a<=cEs ks:=by
 match ks,h with
 |x::l,h=>
  simp only[nH]at h;subst h;rw[cEs];omega
def Yl{ks:qM}(h:ks[0]?=some a)(k:ks[1]?=some b):fu a+fu b<=cEs ks:=by
 match ks,h,k with
 |x::l,h,k=>
  simp only[xo,sG,am]at h k;subst h;rw[cEs];have:=OB k;omega
def zm4{ks:qM}{c:Ex}(h:ks[0]?=some a)(k:ks[1]?=some b)(m:ks[2]?=some c):fu a+fu b+fu c<=cEs ks:=by
 match ks,h,k,m with
 |x::l,h,k,m=>
  simp only[xo,sG,am]at h k m;subst h;rw[cEs];have:=Yl k m;omega
def kB(n:Nd)(s:Bd):(aj n s).2.l.length<=s.l.length+1:=Vn _ _
theorem BJ(c a b:Int)(s:Bd):(a5 c a b s).2.l.length<=s.l.length+1:=by
 unfold a5;split
 .simp_all
 .exact kB _ _
def OC(t v:Int)(s:Bd):(kM t v s).l.length<=s.l.length+1:=kB _ _
def Ym(n i:Int)(s:Bd):(dS n i s).l.length<=s.l.length+3:=by
 have a:=kB ⟨1,n,[]⟩ s;have b:=kB ⟨19,0,[i,(aj ⟨1,n,[]⟩ s).1]⟩ (aj ⟨1,n,[]⟩ s).2;have c:=OC 2 (aj ⟨19,0,[i,(aj ⟨1,n,[]⟩ s).1]⟩ (aj ⟨1,n,[]⟩ s).2).1 (aj ⟨19,0,[i,(aj ⟨1,n,[]⟩ s).1]⟩ (aj ⟨1,n,[]⟩ s).2).2;have e:(dS n i s).l.length<=_:=c;omega
def zm5(v:Int)(s:Bd):(lJ v s).l.length<=s.l.length+3:=by
 have a:=kB ⟨1,0,[]⟩ s;have b:=kB ⟨16,0,[v,(aj ⟨1,0,[]⟩ s).1]⟩ (aj ⟨1,0,[]⟩ s).2;have c:=OC 1 (aj ⟨16,0,[v,(aj ⟨1,0,[]⟩ s).1]⟩ (aj ⟨1,0,[]⟩ s).2).1 (aj ⟨16,0,[v,(aj ⟨1,0,[]⟩ s).1]⟩ (aj ⟨1,0,[]⟩ s).2).2;have e:(lJ v s).l.length<=_:=c;omega
theorem vp(c:Cx):∀(n:Nat) (x:Ex) (s:Bd) (r:Int×Bd),ei c n x s=some r->r.2.l.length<=s.l.length+fu x
 |0,_,_,_,h=>by simp[ei]at h
 |n+1,x,s,r,h=>by
  have Z:=vp c n;rw[zm2];unfold ei at h;by_cases j:x.az=1
  .rw[ai j]at h⊢;cases h;exact kB _ s
  rw[ah j]at h⊢;by_cases m:x.az=2
  .grind
  rw[ah m]at h⊢;split at h
  .simp only[iG]at h;obtain⟨k,z,aq,j,a,_,rfl⟩:=h;have C:=Z _ _ _ j;have V:=Ym a.len aq.1 aq.2;have J:=kB ⟨23,bS (c.ab.map (·.name)) x.name,[(dS a.len aq.1 aq.2).aa,aq.1]⟩ (dS a.len aq.1 aq.2);have Y:=OB z;omega
  split at h
  .simp only[iG]at h;obtain⟨k0,q0,au,L,k1,q1,aq,j,k2,q2,r2,m,rfl⟩:=h;have e0:=Z _ _ _ L;have C:=Z _ _ _ j;have O:=Z _ _ _ m;have V:r2.2.l.length<=aq.2.l.length+fu k2:=O;have J:=BJ au.1 aq.1 r2.1 r2.2;have Y:=BJ au.1 aq.2.aa (a5 au.1 aq.1 r2.1 r2.2).2.aa (a5 au.1 aq.1 r2.1 r2.2).2;have I:=zm4 q0 q1 q2
   grind
  .simp only[aC]at h;obtain⟨k0,q0,au,L,h⟩:=h;have a:=Z _ _ _ L;split at h
   .cases h;have C:=kB ⟨x.op,0,[au.1]⟩ au.2;have Y:=OB q0;omega
   .simp only[iG]at h;obtain⟨k1,q1,aq,j,rfl⟩:=h;have b:=Z _ _ _ j;have Y:=Yl q0 q1;have I:(if x.op=7\/x.op=8 then lJ aq.1 aq.2 else aq.2).l.length<=aq.2.l.length+3:=by
     split
     .exact zm5 _ _
     .omega
    have e6:=kB ⟨x.op,0,[au.1,aq.1]⟩ (if x.op=7\/x.op=8 then lJ aq.1 aq.2 else aq.2);omega
theorem Yn(c:Cx)(n:Nat):∀(l:qM) (s:Bd) (r:qA×Bd),mh c n l s=some r->r.2.l.length<=s.l.length+cEs l
 |[],s,r,h=>by cases h;simp_all
 |x::l,s,r,h=>by
  unfold mh at h;simp only[iG]at h;obtain⟨aq,j,r2,m,rfl⟩:=h;have a:=vp c n _ _ _ j;have b:=Yn c n l _ _ m;rw[cEs]
  grind
theorem Yo(c:Int)(a:qA):∀(k i:Nat) (s r:Bd),lK c a k i s=some r->r.l.length<=s.l.length+k
 |0,i,s,r,h=>by cases h;omega
 |k+1,i,s,r,h=>by
  unfold lK at h;simp only[aC]at h;obtain⟨x,_,y,_,h⟩:=h;have V:=Yo c a k (i+1) _ r h;have e:r.l.length<=(a5 c x y s).2.l.length+k:=V;have:=BJ c x y s;omega
theorem Yp(base:Int):∀(O:qG) (j:Nat) (s:Bd),(fX base O j s).l.length<=s.l.length+O.length
 |[],j,s=>aG _
 |w::O,j,s=>by
  rw[U6];have a:=Yp base O (j+1) { (aj ⟨3,base+j,[]⟩ s).2 with vars:=(aj ⟨3,base+j,[]⟩ s).2.vars.set w (aj ⟨3,base+j,[]⟩ s).1};have b:=kB ⟨3,base+j,[]⟩ s
  grind
theorem Yq(lp c:Int)(old:qA):∀(O:qG) (j:Nat) (s:Bd),(fj lp c old O j s).l.length<=s.l.length+2*O.length
 |[],j,s=>aG _
 |w::O,j,s=>by
  rw[U7];have a:=Yq lp c old O (j+1) { (a5 c (aj ⟨25,j,[lp]⟩ s).1 (old.getD w 0) (aj ⟨25,j,[lp]⟩ s).2).2 with vars:=(a5 c (aj ⟨25,j,[lp]⟩ s).1 (old.getD w 0) (aj ⟨25,j,[lp]⟩ s).2).2.vars.set w (a5 c (aj ⟨25,j,[lp]⟩ s).1 (old.getD w 0) (aj ⟨25,j,[lp]⟩ s).2).1};have b:=kB ⟨25,j,[lp]⟩ s;have d:=BJ c (aj ⟨25,j,[lp]⟩ s).1 (old.getD w 0) (aj ⟨25,j,[lp]⟩ s).2
  grind
theorem Yr(c:Cx):∀n:Nat,(∀x s r,lL c n x s=some r->s.vars.length<=4->r.l.length<=s.l.length+c1 x)/\(∀l s r,fH c n l s=some r->s.vars.length<=4->r.l.length<=s.l.length+kA l)/\(∀x s r,mn c n x s=some r->s.vars.length<=4->r.l.length<=s.l.length+(2*fu x.value+kA x.bm+16))
 |0=>⟨fun _ _ _ h=>by simp[lL]at h,fun _ _ _ h=>by simp[fH]at h,fun _ _ _ h=>by simp[mn]at h⟩
 |n+1=>by
  obtain⟨I1,z,I3⟩:=Yr c n;refine⟨fun x s r h Z=>?_,fun l s r h Z=>?_,fun x s r h Z=>?_⟩
  .rw[zm3];unfold lL at h;by_cases k1:x.az=1
   .rw[ai k1]at h⊢;simp only[aC]at h;obtain⟨aq,j,h⟩:=h;split at h
    .cases h;exact vp c n _ _ _ j
    .cases h
   rw[ah k1]at h⊢;by_cases k2:x.az=2
   .rw[ai k2]at h⊢;simp only[iG]at h;obtain⟨i,j,v,V,a,_,rfl⟩:=h;have C:=vp c n _ _ _ j;have L:=vp c n _ _ _ V;have J:=Ym a.len i.1 v.2;have e4:=kB ⟨28,bS (c.ab.map (·.name)) x.name,[(dS a.len i.1 v.2).aa,i.1,v.1]⟩ (dS a.len i.1 v.2);show(aj _ _).2.l.length<=_;omega
   rw[ah k2]at h⊢;by_cases ee:x.az=3
   .rw[ai ee]at h⊢;simp only[iG]at h;obtain⟨v,j,a,V,b,h3,m,h4,rfl⟩:=h;have C:=vp c n _ _ _ j;have Y:=(cD c n _ _ _ j).v;have L:=z _ _ _ V (by rw[Y];exact Z);have e3':=z _ _ _ h3 (by show v.2.vars.length<=4;rw[Y];exact Z);have J:b.l.length<=a.l.length+kA x.bO:=e3';have v3':=((jl c n).2.1 _ _ _ h3).2;have v3:b.vars.length=v.2.vars.length:=v3';have e4:=Yo _ _ _ _ _ _ h4;have e5:=BJ v.1 a.aa m.aa m;rw[Y]at v3;show(a5 _ _ _ _).2.l.length<=_;omega
   rw[ah ee]at h⊢;by_cases fm:x.az=4
   .rw[ai fm]at h⊢;exact I3 _ _ _ h Z
   rw[ah fm]at h⊢;by_cases dF:x.az=5
   .rw[ai dF]at h⊢;simp only[iG]at h;obtain⟨v,j,rfl⟩:=h;have C:=vp c n _ _ _ j;have L:=kB ⟨29,0,[v.2.aa,v.1]⟩ v.2;show(aj _ _).2.l.length<=_;omega
   rw[ah dF]at h⊢;by_cases k6:x.az=6
   .rw[ai k6]at h⊢;simp only[aC]at h;obtain⟨O,j,h⟩:=h;split at h
    .cases h;have C:=Yn c n _ _ _ j;have L:=kB ⟨30,bW c.funcs x.to 0,O.2.aa::O.1⟩ O.2;generalize aj ⟨30,bW c.funcs x.to 0,O.2.aa::O.1⟩ O.2=q at *;have J:=kB ⟨24,0,[q.1]⟩ ⟨q.2.l,q.2.vars,q.1,q.2.loops⟩;simp only at J⊢;omega
    .cases h
   rw[ah k6]at h⊢;by_cases iU:x.az=7
   .rw[ai iU]at h⊢;cases h;have L:=kB ⟨1,0,[]⟩ s;have J:=OC (cy (16+x.n)) (aj ⟨1,0,[]⟩ s).1 (aj ⟨1,0,[]⟩ s).2;show(kM _ _ _).l.length<=_;omega
   simp_all
  .unfold fH at h;cases l with
   |nil=>simp_all
   |cons x l=>
    simp only[aC]at h;obtain⟨a,j,V⟩:=h;have C:=I1 _ _ _ j Z;have Y:=((jl c n).1 _ _ _ j).2;have L:=z _ _ _ V (by rw[Y];exact Z);rw[kA];omega
  .unfold mn at h;simp only[iG]at h;obtain⟨v,j,b,V,t,h3,d,h4,rfl⟩:=h;have I:=vp c n _ _ _ j;have C:v.2.l.length<=s.l.length+fu x.value:=I;clear I;have v1':=(cD c n _ _ _ j).v;have Y:v.2.vars=s.vars:=v1';have hb:b.length=v.2.vars.length:=by rw[wt _ _ _ _ _ V,j9]
   have hw:=Eb b;rw[hb,Y]at hw;have L:=kB ⟨3,16*(s.loops:Int),[]⟩ v.2;have v2:(aj ⟨3,16*(s.loops:Int),[]⟩ v.2).2.vars=v.2.vars:=rfl;generalize aj ⟨3,16*(s.loops:Int),[]⟩ v.2=q0 at *;have J:=Yp (16*(s.loops:Int)+1) (bD b) 0 ⟨q0.2.l,q0.2.vars,q0.1,q0.2.loops⟩;have v3:=(r4 (16*(s.loops:Int)+1) (bD b) 0 ⟨q0.2.l,q0.2.vars,q0.1,q0.2.loops⟩).2.2.1;simp only at J v3;have e4:=z _ _ _ h3 (by rw[v3,v2,Y];exact Z);have e5:=vp c n _ _ _ h4;generalize hk:aj ⟨31,s.loops,v.2.aa::((bD b).map fun i=>v.2.vars.getD i 0)++[d.1,d.2.aa]++((bD b).map fun i=>d.2.vars.getD i 0)⟩ d.2=k;have e6:k.2.l.length<=d.2.l.length+1:=by rw[<-hk];exact kB _ _
   have e7:=kB ⟨25,0,[k.1]⟩ ⟨k.2.l,v.2.vars,k.2.aa,k.2.loops⟩;simp only at e7;generalize aj ⟨25,0,[k.1]⟩ ⟨k.2.l,v.2.vars,k.2.aa,k.2.loops⟩=q at *;have e8:=BJ v.1 q.1 v.2.aa q.2;generalize a5 v.1 q.1 v.2.aa q.2=m at *;have e9:=Yq k.1 v.1 v.2.vars (bD b) 1 ⟨m.2.l,m.2.vars,m.1,m.2.loops⟩
   grind
theorem Ys(h:L≠[]):(bO L).2.length+1=L.length:=by
 cases L with
 |nil=>simp_all
 |cons a l=>simp[bO]
theorem vt(f:Int):∀(k Y:Nat) (L:qA),k+Y=5->Y<=4->fu (bC f k Y L).1+4*(bC f k Y L).2.length<=4*L.length
 |0,Y,L,h,hd=>by omega
 |k+1,Y,L,h,hd=>by
  have Z:=fun L (hd:¬(3:Int)<Y)=>vt f k (Y+1) L ac ac;by_cases O:L=[]
  .subst O;have e:cK (bO []).1 16=0:=aF;simp only[bC];rw[e,ai (.inl aF),ai (.inl aF)];simp[fu,bO]
  .have J:=Ys O;simp only[bC];generalize cK (bO L).1 16=q;generalize cK (cy ((bO L).1.tdiv 16)) 1000=m;generalize (bO L).2=j at *;by_cases hc:q<4\/(3:Int)<Y
   .rw[ai hc];split
    .simp only[fu,Int.reduceEq,reduceIte];omega
    .simp only[fu,Int.reduceEq,reduceIte];omega
   have V:¬(3:Int)<Y:=fun e=>hc (.inr e);rw[ah hc];split
   .have a:=Z j V;simp only[fu,cEs,Int.reduceEq,reduceIte];omega
   split
   .have a:=Z j V;have b:=Z (bC f k (Y+1) j).2 V;have c:=Z (bC f k (Y+1) (bC f k (Y+1) j).2).2 V;simp only[fu,cEs,Int.reduceEq,reduceIte];omega
   split
   .have a:=Z j V;simp only[fu,cEs,Int.reduceEq,reduceIte];omega
   .have a:=Z j V;have b:=Z (bC f k (Y+1) j).2 V;simp only[fu,cEs,Int.reduceEq,reduceIte];omega
theorem Yt(f:Int):∀(n:Nat) (L:qA),cEs (iI f n L).1+4*(iI f n L).2.length<=4*L.length
 |0,L=>by simp[iI,cEs]
 |n+1,L=>by
  have a:=vt f 3 2 L ac ac;have b:=Yt f n (bC f 3 2 L).2;simp only[iI,cEs];omega
def zm6{Z:Int->cO->qJ×cO}(Y:∀V s,kA (Z V s).1+16*(Z V s).2.1.length<=16*s.1.length)(f:Int)(j:qA)(c q m:Int):c1 (ir Z f j c q m).1+16*(ir Z f j c q m).2.1.length<=16*(j.length+1):=by
 unfold ir;split
 .have a:=vt f 5 0 j ac ac;simp only[c1,Int.reduceEq,reduceIte];omega
 split
 .have a:=vt f 3 2 j ac ac;have b:=vt f 4 1 (bC f 3 2 j).2 ac ac;simp only[c1,Int.reduceEq,reduceIte];omega
 split
 .have a:=vt f 4 1 j ac ac;have b:=Y 3 ((bC f 4 1 j).2,c);have d:=Y 2 (Z 3 ((bC f 4 1 j).2,c)).2;simp only at b;simp only[c1,Int.reduceEq,reduceIte];omega
 split
 .have a:=vt f 4 1 j ac ac;have b:=Y 3 ((bC f 4 1 j).2,cy (c+1));simp only at b;simp only[c1,Int.reduceEq,reduceIte];omega
 split
 .have a:=vt f 4 1 j ac ac;simp only[c1,Int.reduceEq,reduceIte];omega
 split
 .have a:=Yt f (2-m.tmod 2).toNat j;simp only[c1,Int.reduceEq,reduceIte];omega
 .simp only[c1,Int.reduceEq,reduceIte];omega
theorem OD{step:cO->St×cO}(V:∀s,s.1≠[]->c1 (step s).1+16*(step s).2.1.length<=16*s.1.length):∀(n:Nat) (s:cO),kA (iq step n s).1+16*(iq step n s).2.1.length<=16*s.1.length
 |0,s=>by simp[iq,kA]
 |n+1,s=>by
  rw[iq];split
  .simp[kA]
  .rename_i h;have a:=V s h;have b:=OD V n (step s).2;simp only[kA];omega
theorem Yu(f:Int):∀(k Y:Nat) (s:cO),s.1≠[]->c1 (gZ f k Y s).1+16*(gZ f k Y s).2.1.length<=16*s.1.length
 |0,Y,s,h=>by simp[gZ,c1]
 |k+1,Y,s,h=>by
  rw[gZ,x4];have e:=Ys h;rw[<-e];exact zm6 (fun V s=>by
   have a:=OD (Yu f k (Y+1)) (cK (bO s.1).1 (V+1)).toNat ((bO s.1).2,s.2);have b:=ou s.1
   grind) _ _ _ _ _
def Yv(f:Int)(k deep:Nat)(V:Int)(s:cO):kA (mp f k deep V s).1+16*(mp f k deep V s).2.1.length<=16*s.1.length:=by
 have a:=OD (Yu f k deep) (cK (bO s.1).1 (V+1)).toNat ((bO s.1).2,s.2);have b:=ou s.1;simp only at a;unfold mp;omega
def zm7(l:qA):∀f∈(bQ l).funcs,kA f.body+fu f.value<=960/\f.params.length+f.aK.length<=4:=by
 have L:(l.take 60).length<=60:=cU;have j:=ou (l.take 60);have Z:kA (jD (l.take 60)).1+16*(jD (l.take 60)).2.1.length<=16*(bO (l.take 60)).2.length:=Yv 0 4 0 5 ((bO (l.take 60)).2,0);have m:fu (lN (l.take 60)).1+4*(lN (l.take 60)).2.length<=4*(jD (l.take 60)).2.1.length:=vt 0 4 1 _ ac ac;have Y:kA (nM (l.take 60)).1+16*(nM (l.take 60)).2.1.length<=16*(lN (l.take 60)).2.length:=Yv 1 3 1 3 ((lN (l.take 60)).2,(jD (l.take 60)).2.2);have V:fu (wF (l.take 60)).1+4*(wF (l.take 60)).2.length<=4*(nM (l.take 60)).2.1.length:=vt 1 4 1 _ ac ac;intro f z;simp only[bQ,od]at z;rcases z with rfl|rfl
 .exact⟨by show kA (jD (l.take 60)).1+fu (lN (l.take 60)).1<=960;omega,by show 2+2<=4;omega⟩
 .exact⟨by show kA (nM (l.take 60)).1+fu (wF (l.take 60)).1<=960;omega,by show 1+1<=4;omega⟩
theorem Yw:∀(m k:Nat) (s:Bd),(gH m k s).l.length<=s.l.length+m
 |0,k,s=>aG _
 |m+1,k,s=>by
  have a:(gH (m+1) k s).l.length<=(aj ⟨2,k,[]⟩ s).2.l.length+m:=Yw m (k+1) _;have b:=kB ⟨2,k,[]⟩ s;omega
theorem Yx:∀(m:Nat) (s:Bd),(iS m s).l.length<=s.l.length+m
 |0,s=>aG _
 |m+1,s=>by
  have a:(iS (m+1) s).l.length<=(aj ⟨1,0,[]⟩ s).2.l.length+m:=Yx m _;have b:=kB ⟨1,0,[]⟩ s;omega
theorem zm8(f:Fu):(i9 f).l.length<=1+f.params.length+f.aK.length/\(i9 f).vars.length=f.params.length+f.aK.length:=by
 have Z:(aj ⟨26,0,[]⟩ ⟨[],[],0,0⟩).2.l.length<=1:=kB _ _;have C:(gH f.params.length 0 { (aj ⟨26,0,[]⟩ ⟨[],[],0,0⟩).2 with aa:=(aj ⟨26,0,[]⟩ ⟨[],[],0,0⟩).1}).l.length<=(aj ⟨26,0,[]⟩ ⟨[],[],0,0⟩).2.l.length+f.params.length:=Yw _ _ _;have V:(i9 f).l.length<=_:=Yx f.aK.length _;have m:=(DZ f.params.length 0 { (aj ⟨26,0,[]⟩ ⟨[],[],0,0⟩).2 with aa:=(aj ⟨26,0,[]⟩ ⟨[],[],0,0⟩).1}).2;have Y:(i9 f).vars.length=_:=(D0 f.aK.length _).2;have O:({ (aj ⟨26,0,[]⟩ ⟨[],[],0,0⟩).2 with aa:=(aj ⟨26,0,[]⟩ ⟨[],[],0,0⟩).1}:Bd).vars.length=0:=rfl;omega
theorem zm9(h:jk p n f=some g)(Z:f.params.length+f.aK.length<=4):g.af.length<=5+kA f.body+fu f.value:=by
 unfold jk at h;simp only[iG]at h;obtain⟨s,j,v,m,rfl⟩:=h;obtain⟨a,b⟩:=zm8 f;have C:=(Yr _ n).2.1 _ _ _ j ac;have V:=vp _ n _ _ _ m
 grind
theorem Yy{p:Pr}{n:Nat}:∀(l:qV) (V:List Gr),(∀f∈l,∃g,jk p n f=some g/\g.af.length<=2000)->∃Z,po p n l V=some (⟨p.ab,V++Z⟩,0)/\bN (fun f g=>jk p n f=some g/\g.af.length<=2000) l Z
 |[],V,_=>⟨[],by rw[po,bq],trivial⟩
 |f::l,V,h=>by
  obtain⟨g,j,m⟩:=h f dM;obtain⟨Z,C,Y⟩:=Yy l (V++[g]) fun x I=>h x (dh _ I)
  refine⟨g::Z,?_,⟨j,m⟩,Y⟩;rw[po,j,aN,ah ac,C,kI];rfl
def Yz(hr:iL l):zf4 (bQ l):=⟨EK l,Yk hr⟩
def YA(hr:iL l):znQ (bQ l):=⟨by have:=XV l;omega,fun _=>Yk hr⟩
theorem zna(hr:iL l):∃f g,li (bQ l)=(⟨rj (l.take 60),[f,g]⟩,0)/\jk (bQ l) (2*(bQ l).sz+1) (iK (l.take 60))=some f/\jk (bQ l) (2*(bQ l).sz+1) (iT (l.take 60))=some g/\f.af.length<=965/\g.af.length<=965/\(∀n∈f.af,n.ak.length<=40)/\∀n∈g.af,n.ak.length<=40:=by
 have hp:=Yz hr;have j:∀f∈(bQ l).funcs,∃g,jk (bQ l) (2*(bQ l).sz+1) f=some g/\g.af.length<=2000/\g.af.length<=965/\∀n∈g.af,n.ak.length<=40:=fun f z=>by
  obtain⟨s,v,Z,Y,O,_⟩:=Nu hp (cn _) z;obtain⟨c1,c2⟩:=zm7 l f z;have e:jk (bQ l) (2*(bQ l).sz+1) f=some ⟨f.name,f.params.length,v.2.l,v.1,v.2.aa⟩:=by rw[jk,Z,aN,Y,aN]
  have:=zm9 e c2;exact⟨_,e,ac,ac,fun n J=>(O.p n J).len⟩
 obtain⟨V,L,m⟩:=Yy (p:=bQ l) (n:=2*(bQ l).sz+1) (bQ l).funcs [] fun f z=>cU
 have C:li (bQ l)=(⟨rj (l.take 60),V⟩,0):=by
  rw[li,uR,ai (EK l),L];rfl
 have z:(bQ l).funcs=[iK (l.take 60),iT (l.take 60)]:=rfl;rw[z]at m j
 match V,m,C with
 |[f,g],m,C=>
  obtain⟨⟨aI,_⟩,⟨a6,_⟩,_⟩:=m;obtain⟨I,b1,_,b2,b5⟩:=j _ dM;obtain⟨g',b3,_,b4,b6⟩:=j _ (dh _ dM)
  grind
def tyKuC.tyF:=ad @ij (ad @oQ (ad @jJ (ad @Xy (ad @xK (@xL)))))
open tyKuC
noncomputable def YB:=qd (M:=12) f15.eq_1
noncomputable def YC:En:=⟨36,false,co znQ nJ fun p=>.bH [.agg (li p).1.cells,.int .i64 (li p).2]⟩
def znb:de prog ρ YC:=dA fun p hp=>zmZ ρ p (n:=2*p.sz+1) (by have:=hp.sz;omega) (fun hc=>zjt ⟨hc,hp.rg hc⟩ hp.sz (cn _)) hp.dj
noncomputable def Jw:qH:=[XI,YC]
def znc:gX prog ρ Jw:=⟨zmp ρ,znb ρ,trivial⟩
def jo(l:qA):Un:=(li (bQ l)).1
theorem znd(l:qA)(h:l.length<2^63/\iL l):bA prog ρ 15 [hY l] (.agg (jo l).cells):=fF fit (pls:=pls) (znc ρ) (.cons (Es l) .nil) (.agg (Di _)) (by
 have hw:zd0 (aA pls Jw) 15:=gY (fun _=>rfl) rfl;have C:∀H,aR prog (aA pls Jw) 12 [hY l] H fun v H'=>v=.agg (bQ l).cells/\H'=H:=fun H=>cQ (enc:=fun l=>[hY l]) (ok:=fun l=>l.length<2^63) (out:=fun l=>.agg (bQ l).cells) (fun x y h=>Ws lV) (x:=l) rfl h.1;have Z:∀H,aR prog (aA pls Jw) 36 [.agg (bQ l).cells] H fun v H'=>v=.bH [.agg (jo l).cells,.int .i64 (li (bQ l)).2]/\H'=H:=fun H=>cQ (enc:=nJ) (ok:=znQ) (out:=fun p=>.bH [.agg (li p).1.cells,.int .i64 (li p).2]) AT (x:=bQ l) rfl (YA h.2);have m:(jo l).cells=[.aE ((jo l).ab.map Ar.cells),.aE ((jo l).funcs.map Gr.cells)]:=rfl;have V:∀(H:Hp) (a b:AV),eP prog (H.set 0 (.cells [a,b] 0 true)) 37 (.ptr 0 0)=some (.agg [a,b]):=fun H a b=>by
  rw[nr,aQ,ai rfl];exact(Q8 [a,b] 0).trans rfl
 generalize (li (bQ l)).2=e at *;rw[m]at Z⊢;refine qe hw func15 YB ?_;dsimp only[YB,qd,a1,Nat.reduceAdd];repeat' (first
  |(apply ay ?_;clear hK K)|apply a9 ?_|(apply fq ?_;first|refine Rx.k (C _) ?_|refine Rx.k (Z _) ?_)|(apply az fun K hK=>?_)|fail)
 all_goals (refine⟨aE,_,(by(try simp only[aK,Nat.reduceBEq,dR,eh, *]);first|done|with_reducible rfl),?_⟩;try simp only[aD]))
noncomputable def YD:En:=⟨15,false,co (fun l=>l.length<2^63/\iL l) (fun l=>[hY l]) fun l=>.agg (jo l).cells⟩
def zne:de prog ρ YD:=dA fun x I=>znd ρ x I
end
def wH(ρ:Nat->Int):Nat->AV->AV
 |0,v=>v
 |n+1,v=>match v with
  | .sx k e=>.int k (e.eval ρ)
  | .aE z=>.aE (z.map fun Z=>Z.map (wH ρ n))
  | .agg O=>.agg (O.map (wH ρ n))
  |v=>v
def BK:Nat->AV->Bool
 |0,_=>false
 |n+1,v=>match v with
  | .sx _ _|.int _ _|.ay _=>true
  | .aE z=>z.all fun Z=>Z.all (BK n)
  | .agg O=>O.all (BK n)
  |_=>false
theorem VR.ew{G:Gh}{ρ:Nat->Int}:∀(n:Nat) {v:AV}{x:Value},BK n v=true->VR G (wH ρ n v) x->VR {G with ρ:=ρ} v x
 |0,_,_,I,_=>by cases I
 |n+1,v,x,I,h=>by
  cases v with
  |sx k e=>
   change VR G (.int k (e.eval ρ)) x at h;cases h;exact .sx k e
  |int k m=>
   change VR G (.int k m) x at h;cases h;exact .int k m
  |ay s=>
   change VR G (.ay s) x at h;cases h with
   |ay b l e=>exact .ay b _ e
  |aE Y=>
   change VR G (.aE (Y.map fun Z=>Z.map (wH ρ n))) x at h;change (Y.all fun Z=>Z.all (BK n))=true at I;have I:=fun(i j:Nat) (Z:qB) (c:AV) (h1:Y[i]?=some Z) (h2:Z[j]?=some c)=>js.1 (js.1 I Z (cV h1)) c (cV h2);generalize O:(Y.map fun Z=>Z.map (wH ρ n))=ys at h;cases h with
   |aE vs hz hF hv hc=>
    rename_i b o L z;have C:ys.length=Y.length:=by rw[<-O,dk]
    have hg:∀(i:Nat) (Z:qB),Y[i]?=some Z->ys[i]?=some (Z.map (wH ρ n)):=fun i Z hr=>by rw[<-O,fd,hr];rfl
    rw[C];exact .aE vs (fun i Z hr=>by have:=hz i _ (hg i Z hr);rw[dk]at this;exact this) (fun i j hi hj=>hF i j ac hj) (fun i j Z c hr V=>VR.ew n (I i j Z c hr V) (hv i j _ _ (hg i Z hr) (by rw[fd,V];rfl))) ac
   |cL a L=>
    have:Y=[]:=yB;subst this;exact .cL a L
  |agg cs=>
   change VR G (.agg (cs.map (wH ρ n))) x at h;change cs.all (BK n)=true at I;generalize O:cs.map (wH ρ n)=ys at h;cases h with
   |agg C hv=>
    refine .agg (by rw[<-C,<-O,dk]) fun i c v hc J=>VR.ew n (js.1 I c (cV hc)) (hv i _ v ?_ J);rw[<-O,fd,hc];rfl
  |_=>cases I
def bA.ew{P:Program}{ρ z:Nat->Int}{f:FuncId}{v w:AV}{k:IntKind}{m:Int}(n:Nat)(I:BK n v=true)(h:bA P z f [v] (.int k m))(e:wH z n v=w):bA P ρ f [w] (.int k m):=by
 subst e;refine⟨h.1,fun G Z vs h1 Y C=>?_⟩
 match vs,C with
 |[],C=>exact absurd C.1 aB
 |[x],C=>
  have j:=C.2 0 _ x rfl rfl;refine(h.2 {G with ρ:=z} Z [x] rfl Y (lT (VR.ew n I j) (ti _))).mono fun e w' h=>?_;obtain⟨v',V,O,L,J⟩:=h;cases L;exact⟨_,V,O,.int _ _,J⟩
 |_::_::_,C=>exact absurd C.1 aB
def Jx(s:UInt8):qB:=[.ay [s],.aE [],.aE [],.aE [],.int .i64 1,.int .i64 0,.ay [],.int .i64 0,.aE []]
def znf:AV:=.agg [.aE [[.ay [97],.sx .i64 (.var 0)],[.ay [98],.sx .i64 (.var 1)]],.aE [Jx 102,Jx 103]]
def zng:List znJ:=[⟨.lss,.var 0,.lit 1,false⟩,⟨.gtr,.var 0,.lit 16,false⟩,⟨.lss,.var 1,.lit 1,false⟩,⟨.gtr,.var 1,.lit 16,false⟩]
def OE(x y:Int):Nat->Int
 |0=>x
 |_=>y
def znh(x y:Int)(I:1<=x/\x<=16)(O:1<=y/\y<=16):bA prog (OE x y) 38 [znf] (.int .i64 0):=by
 have z:zb (OE x y) zng:=G6 Jv (G6 Jv (G6 Jv (G6 Jv (zfM _))));exact zfO fit (l:=[]) (pls:=pls) trivial z (n:=100000) (m:=2) (k:=100) ax ax
theorem zni{u:Un}(Z:u.ab=rj L){f:Gr}(z:u.funcs=[f,g])(j:f.name=[102])(Y:g.name=[103])(V:fP (jC u)=0):wz (jC u):=fun O=>by
 rw[V];have aq:=mO (n:=(bO L).1) (m:=4) aF aF;have r2:=mO (n:=cy ((bO L).1.tdiv 4)) (m:=4) aF aF;refine bA.ew 6 aF (znh (1+cK (bO L).1 4) (1+cK (cy ((bO L).1.tdiv 4)) 4) ac ac) ?_;have e:(jC u).cells=[.aE ((rj L).map Ar.cells),.aE [Jx 102,Jx 103]]:=by
  have:(jC u).cells=[.aE (u.ab.map Ar.cells),.aE ((u.funcs.map jN).map Fu.cells)]:=rfl;rw[this,Z]
  congr 3
  rw[z];simp only[eC,oZ,jN,j,Y];rfl
 rw[e];rfl
theorem YE:∀{m:qT},(m.map (·.name)).Nodup->∀{j:Nat}{a:Ar},m[j]?=some a->iZ (GF m) a.name=List.replicate a.len.toNat 0
 |[],_,j,a,h=>by simp at h
 |b::m,hn,j,a,h=>by
  rw[eC,zw]at hn;have e:GF (b::m)=(b.name,List.replicate b.len.toNat 0)::GF m:=rfl;rw[e,iZ];cases j with
  |zero=>
   simp only[nH]at h;subst h;rw[ai rfl]
  |succ j=>
   rw[sG]at h;rw[ah fun e=>hn.1 (by show b.name∈_;rw[<-show a.name=b.name from e];exact so.2 ⟨a,cV h,rfl⟩)];exact YE hn.2 h
theorem znj(J:(p.ab.map (·.name)).Nodup)(m:∀a∈p.ab,0<=a.len)(fuel:Int):StR p.ab (yR p.ab fuel) (pI p fuel):=by
 refine⟨rfl,rfl,fun e=>by have V:(0:Int)=2:=e;omega,by show(List.map _ _).length=_;simp,fun _=>rfl,fun _ j a I=>?_⟩;have Y:iZ (pI p fuel).cells a.name=List.replicate a.len.toNat 0:=YE J I;rw[Y];have:=m a (cV I);refine⟨?_,by rw[j9];omega,fun x Z=>by rw[(List.mem_replicate.1 Z).2];exact Bn⟩;show(p.ab.map _)[j]?=_;rw[fd,I];rfl
def znk{ar:qT}{st:S9}{r:Int×MS}{v:Int}(h:StR ar st r.2)(C:ea r.2)(j:r.2.a4=0->v=r.1):pJ st (if st.ed=0 then v else 0)=mH r:=by
 have I:st.out.reverse=r.2.out:=by rw[h.out,List.reverse_reverse]
 unfold pJ mH;rw[I,h.ed];rcases C with e|e|e
 .simp[e,j e]
 .simp[e,h.aT e]
 .simp[e]
structure Gq (l:qA):Prop where
 pg:Pg (bQ l) (jo l) (2*(bQ l).sz+1)
 uok:UOk9 (jo l)
 ld:∀g∈(jo l).funcs,LdE g.af
 un:znK (jo l)
 ck:wz (jC (jo l))
 val:mR (jo l)=true
 ok:(li (bQ l)).2=0
 ar:(jo l).ab=(bQ l).ab
 fs:∃f g:Gr,(jo l).funcs=[f,g]/\f.name=[102]/\f.params=2/\g.name=[103]/\g.params=1/\f.af.length<=965/\g.af.length<=965/\jk (bQ l) (2*(bQ l).sz+1) (iK (l.take 60))=some f/\jk (bQ l) (2*(bQ l).sz+1) (iT (l.take 60))=some g
def YF(h:jk p n f=some g):g.name=f.name/\g.params=f.params.length:=by
 unfold jk at h;obtain⟨s,_,h⟩:=aC.1 h;obtain⟨v,_,h⟩:=aC.1 h;rw[am]at h;subst h;exact⟨rfl,rfl⟩
theorem znl(Y:iL l):Gq l:=by
 obtain⟨f,g,j,V,C,h4,h5,_,_⟩:=zna Y;have hv:=(YA Y).fH (EK l);have Z:jo l=⟨rj (l.take 60),[f,g]⟩:=by unfold jo;rw[j]
 rw[j]at hv;rcases hv with⟨e,_⟩|⟨_,m,_,_,O⟩
 .cases e
 rw[<-Z]at m O;have hw:=zlT m;have J:(jo l).funcs=[f,g]:=by rw[Z]
 obtain⟨aI,a6⟩:=YF V;obtain⟨b1,b2⟩:=YF C;refine⟨⟨Yz Y,XH l,ac,fun k F z=>?_,hw.wg⟩,hw,zlU m O,O,zni (L:=l.take 60) (by rw[Z]) J aI b1 (by have I:=m;unfold mR at I;rw[bT,kE]at I;exact I.1),m,by rw[j],by rw[Z];rfl,f,g,J,aI,a6,b1,b2,h4,h5,V,C⟩;rw[J];have hgf:(bQ l).funcs=[iK (l.take 60),iT (l.take 60)]:=rfl;rw[hgf]at z
 match k,z with
 |0,z=>
  simp only[nH]at z;subst z;exact⟨f,rfl,V⟩
 |1,z=>
  simp only[sG,nH]at z;subst z;exact⟨g,rfl,C⟩
 |k+2,z=>simp at z
def znm(J:Gq l){k:Nat}{nm:aY}{al:qA}{fuel:Int}(h:zf7.ok ⟨bQ l,nm,al,fuel⟩)(z:di (pr (bQ l)) nm=k)(Y:∀v∈al,cX v):∃G st v,(jo l).funcs[k]?=some G/\Dn (jo l) (.fn ⟨k,G,yR (jo l).ab fuel,al⟩ st v)/\pJ st (if st.ed=0 then v else 0)=nL ⟨bQ l,nm,al,fuel⟩:=by
 obtain⟨r,n,hr,O⟩:=h.eA;rw[Om h hr];obtain⟨F,Z,L⟩:=h.fn;simp only at hr Z L;rw[z]at hr;rw[z,eM]at Z;obtain⟨G,hG,j⟩:=J.pg.dj k F Z;have V:=J.pg.eK.e9.1;obtain⟨st,v,I,C,h3⟩:=(zkG J.pg n).1 k F G al (pI (bQ l) fuel) r (yR (bQ l).ab fuel) Z hG j L.symm Y hr rfl (znj J.pg.val.fq (fun a m=>by have:=V a m;omega) fuel);exact⟨G,st,v,hG,by rw[J.ar];exact I,znk C (zkK hr rfl) fun e=>(h3 e).1⟩
def znn(J:Gq l){nm:aY}{m:Nat}(Z:(nm=[102]/\m=2)\/(nm=[103]/\m=1)):∃k:Nat,di (pr (bQ l)) nm=k/\rH nm m (jo l).funcs 0 (-1)=(k:Int):=by
 obtain⟨f,g,Y,aI,a6,j,z,_⟩:=J.fs;rw[Y,Jp];rcases Z with⟨rfl,rfl⟩|⟨rfl,rfl⟩
 .refine⟨0,aF,?_⟩;rw[rH,ai ⟨aI,a6⟩,rH,ah (by rw[j];intro h;exact absurd h.1 aF),rH]
 .refine⟨1,aF,?_⟩;rw[rH,rH,ai ⟨j,z⟩,rH]
def YG(J:Gq l){nm:aY}{al:qA}{fuel:Int}(h:zf7.ok ⟨bQ l,nm,al,fuel⟩)(L:(nm=[102]/\al.length=2)\/(nm=[103]/\al.length=1))(Y:∀v∈al,cX v):zd3 ⟨jo l,nm,al,fuel⟩ (nL ⟨bQ l,nm,al,fuel⟩):=by
 obtain⟨k,z,I⟩:=znn J L;obtain⟨G,st,v,hG,hd,C⟩:=znm J h z Y;obtain⟨n,V⟩:=Dn.enter J.uok (x:=⟨k,G,yR (jo l).ab fuel,al⟩) hG hd;have Z:=J.pg.eK.e9.1;refine⟨J.un,J.ck,J.val,h.f0,h.f1,J.ld,⟨k,G,n,I,hG,by rw[<-C];exact V⟩,fun a m=>?_,?_,xR (On h) aF⟩
 .have O:a∈(jo l).ab:=m;rw[J.ar]at O;have:=Z a O;omega
 .show al.length<_;rcases L with⟨_,e⟩|⟨_,e⟩<;>omega
noncomputable def EN(y:znI):Oc:=open Classical in if h:∃o,zd3 y o then Classical.choose h else ⟨0,0,[],0⟩
def zd3.one{y:znI}{o j:Oc}(h:zd3 y o)(C:zd3 y j):j=o:=by
 obtain⟨f,g,n,Y,m,V⟩:=h.fn;obtain⟨O,L,z,I,J,Z⟩:=C.fn;have:O=f:=by rw[Y]at I;omega
 subst this;rw[m,am]at J;subst J;exact zlV V Z
def YH{y:znI}{o:Oc}(h:zd3 y o):EN y=o:=by
 unfold EN;have V:∃o,zd3 y o:=⟨o,h⟩;rw[dif_pos V];exact h.one (IE V)
noncomputable def YI:En:=⟨22,true,co (fun y=>∃o,zd3 y o) wB fun y=>ky (EN y)⟩
def zno:de prog ρ YI:=dA fun y ⟨o,h⟩=>by rw[YH h];exact zlZ ρ y o h
end Go.Proofs.YtbflaciihaijgaaGreat
