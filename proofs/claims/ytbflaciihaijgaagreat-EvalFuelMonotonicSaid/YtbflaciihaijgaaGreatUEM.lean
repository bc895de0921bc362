/- Lemmas for the last file. -/
import Derived.Test.YtbflaciihaijgaaGreatUEL
set_option linter.all false
set_option maxHeartbeats 32000000
namespace Go.Ab
set_option maxRecDepth 20000
open Go
variable{qn:Prop}
def Et(h:qn:=by rw[O.ed];exact c0):=h
def IU(h:qn:=by rw[k.get q j m];exact C):=h
def Eu(h:qn:=by rw[<- List.drop_drop,hd];rfl):=h
def ve(h:qn:=by show _<=70368744177664;omega):=h
def NH(h:qn:=by rw[<- z];exact Nat.le_refl _):=h
def Wt(h:qn:=by rw[Hp.get_set];exact if_neg (Ne.symm I)):=h
def Wu(h:qn:=by rw[Hp.get_set];exact if_neg (Ne.symm hr)):=h
def Wv(h:qn:=by rw[pG Tryz.underlying155 AG ac];simp):=h
def IV:=@List.drop_length_add_append
def zN:=@List.length_reverse
def NI:=@List.reverse_cons
end Go.Ab
namespace Go.Proofs.YtbflaciihaijgaaGreat
set_option maxRecDepth 20000
open Go Go.Ab
structure Pg (p:Pr) (U:Un) (N:Nat):Prop where
 eK:zf4 p
 val:zd7 p
 nz:2*p.sz<N
 dj:∀(k:Nat) f,p.funcs[k]?=some f->∃G,U.funcs[k]?=some G/\jk p N f=some G
 wg:∀G∈U.funcs,Wg G.af
variable{U:Un}{e:E9}{c:Cx}{vs:List (aY×Int)}{m:MS}{f:Fu}{A:Nat->Prop}{n n':Nat}{s r:Bd}
theorem VaR.step{vars:qA}{m':MS}(h:VaR U e c vars vs m)(Y:m'.a4=0->m.a4=0):VaR U e c vars vs m':=⟨h.len,fun i y L j Z=>by
 obtain⟨v,C,V⟩:=h.v i y L j Z
 grind⟩
def VaR.set(J:c.aO.Nodup){vars:qA}{nm:aY}(h:VaR U e c vars vs m)(Y:bL c.aO nm=true){y v x:Int}(L:fk U e y v)(I:m.a4=0->v=x/\cX v):VaR U e c (vars.set (bS c.aO nm) y) (setV vs nm x) m:=⟨by rw[iB];exact h.len,fun i z O j Z=>by
 rw[oG]at j;split at j
 .rename_i V;split at j
  .rw[am]at j;subst j;rw[<-V,zM Y,am]at Z;subst Z;exact⟨v,L,fun e=>by rw[Bu,ai rfl];exact I e⟩
  .cases j
 .rename_i V;obtain⟨w,C,h4⟩:=h.v i z O j Z;refine⟨w,C,fun e=>?_⟩;rw[Bu,ah (fun en=>V (IQ J (zM Y) aU))];exact h4 e⟩
section
variable {p:Pr} {U:Un} {N:Nat}
def NJ(p:Pr)(U:Un)(N n':Nat):Prop:=∀(k:Nat) f G I m r st,p.funcs[k]?=some f->U.funcs[k]?=some G->jk p N f=some G->I.length=f.params.length->(∀v∈I,cX v)->fM p (ny p.funcs 0 []) n' (k:Int) I m=some r->m.a4=0->StR p.ab st m->∃j v,Dn U (.fn ⟨k,G,st,I⟩ j v)/\StR p.ab j r.2/\(r.2.a4=0->v=r.1/\cX v)
def Bv(p:Pr)(U:Un)(n':Nat):Prop:=∀f∈p.funcs,∀(e:E9) (A:Nat->Prop) n l s r vs m J,Wg e.x.g.af->zf6 (bu p f) l->2*bF l<n->LG (bu p f) f.params.length A s->LP s->s.loops+eV l<=16->(∀t,A t->t<s.loops)->fH (bu p f) n l s=some r->r.l<+:e.x.g.af->fR U e p.ab s.aa m->VaR U e (bu p f) s.vars vs m->fL p (ny p.funcs 0 []) n' l vs m=some J->fR U e p.ab r.aa J.2/\VaR U e (bu p f) r.vars J.1 J.2
def NK(p:Pr)(U:Un)(n':Nat):Prop:=∀f∈p.funcs,∀(e:E9) (A:Nat->Prop) n x s r vs m J,Wg e.x.g.af->SOk (bu p f) x->2*x.sz<n->LG (bu p f) f.params.length A s->LP s->s.loops+dI x<=16->(∀t,A t->t<s.loops)->lL (bu p f) n x s=some r->r.l<+:e.x.g.af->m.a4=0->fR U e p.ab s.aa m->VaR U e (bu p f) s.vars vs m->jS p (ny p.funcs 0 []) n' x vs m=some J->fR U e p.ab r.aa J.2/\VaR U e (bu p f) r.vars J.1 J.2
def NL(p:Pr)(U:Un)(n':Nat):Prop:=∀f∈p.funcs,∀(e:E9) (A:Nat->Prop) n x s r vs m J,Wg e.x.g.af->SOk (bu p f) x->x.az=4->2*x.sz<=n->LG (bu p f) f.params.length A s->LP s->s.loops+dI x<=16->(∀t,A t->t<s.loops)->mn (bu p f) n x s=some r->r.l<+:e.x.g.af->m.a4=0->fR U e p.ab s.aa m->VaR U e (bu p f) s.vars vs m->fE p (ny p.funcs 0 []) n' x vs m=some J->fR U e p.ab r.aa J.2/\VaR U e (bu p f) r.vars J.1 J.2
theorem Ww(V:∀G∈U.funcs,Wg G.af){e:E9}(j:Wg e.x.g.af){c:Cx}(L:zd4 c){n n':Nat}:∀(l:qM) (s:Bd) (r:qA×Bd) (vs:List (aY×Int)) (m:MS) (J:qA×MS),(∀x∈l,XOk c x)->mh c n l s=some r->r.2.l<+:e.x.g.af->fR U e c.ab s.aa m->VaR U e c s.vars vs m->j8 n' l vs m=some J ->
 fR U e c.ab r.2.aa J.2/\r.1.length=J.1.length/\(J.2.a4=0->m.a4=0)/\∀(t:Nat) y w,r.1[t]?=some y->J.1[t]?=some w->∃v,fk U e y v/\(J.2.a4=0->v=w/\cX v)
 |[],s,r,vs,m,J,hx,h,hp,hs,hv,Y=>by
  rw[mh,am]at h;rw[j8,am]at Y
  grind
 |x::l,s,r,vs,m,J,hx,h,hp,hs,hv,Y=>by
  rw[mh]at h;obtain⟨aq,Z,h⟩:=aC.1 h;obtain⟨r2,O,h⟩:=aC.1 h;rw[am]at h;subst h;rw[j8]at Y;obtain⟨bt,C,Y⟩:=aC.1 Y;obtain⟨z,g2,Y⟩:=aC.1 Y;rw[am]at Y;subst Y;have l1:=cD c n _ _ _ Z;have l2:=(r3 c n _ _ _ O).1;obtain⟨⟨v,aI,a6⟩,b1⟩:=vd V j L n n' x s aq vs m bt (hx x dM) Z (l2.le.l.trans hp) hs hv C;have f1:bt.2.a4=0->m.a4=0:=fun c1=>by
   by_cases c0:m.a4=0
   .exact c0
   .rw[wy C c0]at c1;exact c1
  obtain⟨b2,b3,b4,b5⟩:=Ww V j L l aq.2 r2 vs bt.2 z (fun y I=>hx y (dh _ I)) O hp b1 (by rw[l1.v];exact hv.step f1) g2
  grind
variable (hP:Pg p U N)
include hP
def zkz(z:f∈p.funcs){x:St}(I:SOk (bu p f) x)(Z:2*x.sz<n)(hg:LG (bu p f) f.params.length A s)(m:LP s)(Y:s.loops+dI x<=16)(h:lL (bu p f) n x s=some r):LG (bu p f) f.params.length A r/\LP r/\r.loops<=s.loops+dI x/\s.loops<=r.loops:=by
 obtain⟨J,j,V,C,O,L⟩:=(ID (hP.eK.cx z) n).1 A x s I Z hg m Y;rw[h,am]at j;subst j;exact⟨V,C,O,L.n⟩
def zkA(z:f∈p.funcs){l:qJ}(I:zf6 (bu p f) l)(Z:2*bF l<n)(hg:LG (bu p f) f.params.length A s)(m:LP s)(Y:s.loops+eV l<=16)(h:fH (bu p f) n l s=some r):LG (bu p f) f.params.length A r/\LP r/\r.loops<=s.loops+eV l/\s.loops<=r.loops:=by
 obtain⟨J,j,V,C,O,L⟩:=(ID (hP.eK.cx z) n).2.1 A l s I Z hg m Y;rw[h,am]at j;subst j;exact⟨V,C,O,L.n⟩
def zkB(z:f∈p.funcs){x:Ex}{r:Int×Bd}(I:XOk (bu p f) x)(Z:x.sz<n)(hg:LG (bu p f) f.params.length A s)(m:LP s)(h:ei (bu p f) n x s=some r):LG (bu p f) f.params.length A r.2/\LP r.2/\r.2.loops=s.loops:=by
 obtain⟨O,j,Y,C,V⟩:=sU (hP.eK.cx z) n x s I Z hg;rw[h,am]at j;subst j;have lv:=cD _ n _ _ _ h;exact⟨Y,m.ql V (kX lv.n.symm),lv.n⟩
theorem zkC(I1:NK p U n')(I2:Bv p U n'):Bv p U (n'+1):=by
 intro f z e A n l s r vs m rm hw C hz hg hp hl hA h L hs V Y;cases n with
 |zero=>omega
 |succ n=>
  unfold fH at h;unfold fL at Y;cases l with
  |nil=>
   grind
  |cons x l=>
   simp only at h Y;obtain⟨x1,x2⟩:=C.cons;rw[bF]at hz;rw[eV]at hl;by_cases c0:m.a4=0
   .rw[ah ac]at Y;obtain⟨q,j,O⟩:=aC.1 h;obtain⟨J,bt,m2⟩:=aC.1 Y;obtain⟨o1,o2,o3,o4⟩:=zkz hP z x1 ac hg hp ac j;have I:=(jl (bu p f) n).2.1 _ _ _ O;obtain⟨a,b⟩:=I1 f z e A n x s q vs m J hw x1 ac hg hp ac hA j (I.1.l.trans L) c0 hs V bt;exact I2 f z e A n l q r J.1 J.2 rm hw x2 ac o1 o2 ac (fun t ht=>cU) O L a b m2
   .rw[ai c0,am]at Y;subst Y;obtain⟨a,b⟩:=(IP hP.wg hw c0 (n+1)).2.1 (x::l) s r C (by unfold fH;exact h) L V.len hs V.d;have Z:=(jl (bu p f) (n+1)).2.1 (x::l) s r (by unfold fH;exact h);refine⟨a,by rw[Z.2];exact V.len,fun i y nm j O=>?_⟩;obtain⟨q,hq⟩:=b y (cV j);exact⟨q.v,⟨q,hq,rfl⟩,fun e=>absurd e c0⟩
theorem zkD(I2:Bv p U n')(I3:NL p U n')(I4:NJ p U N n'):NK p U (n'+1):=by
 intro f hf e A n x s r vs m rm hw C hz hg hp hl hA h L hm0 hs hv Y;have hU:=hP.wg;have hc:=hP.eK.cx hf;have hnn:(bu p f).aO.Nodup:=hP.val.fnNames hf;have hkd:=C.kd;cases n with
 |zero=>omega
 |succ n=>
  have hsz:=x.a9;have hw1:=xH x;unfold lL at h;unfold jS at Y;by_cases k1:x.az=1
  .rw[ai k1]at h Y;obtain⟨aq,V,h⟩:=aC.1 h;obtain⟨q,g1,Y⟩:=aC.1 Y;rw[am]at Y;subst Y;split at h
   .rw[am]at h;subst h;have l1:=cD _ n _ _ _ V;obtain⟨⟨v,aI,a6⟩,b1⟩:=vd hU hw hc n n' x.value s aq vs m q (C.value (.inl k1)) V L hs hv g1;refine⟨b1,?_⟩;show VaR U e (bu p f) (aq.2.vars.set _ _) _ _;rw[l1.v];exact(hv.step fun _=>hm0).set hnn (C.ez (.inl k1)) aI a6
   .cases h
  rw[ah k1]at h Y;by_cases k2:x.az=2
  .rw[ai k2]at h Y;obtain⟨i,V,h⟩:=aC.1 h;obtain⟨v,h2,h⟩:=aC.1 h;obtain⟨a,h3,h⟩:=aC.1 h;rw[am]at h;subst h;obtain⟨q1,g1,Y⟩:=aC.1 Y;obtain⟨q2,g2,Y⟩:=aC.1 Y;rw[am]at Y;subst Y;have hlt:=jg h3;have hat:=zM (C.f8 k2);have l1:=cD _ n _ _ _ V;have l2:=cD _ n _ _ _ h2;have lp:=b9 ⟨28,bS ((bu p f).ab.map (·.name)) x.name,[(dS a.len i.1 v.2).aa,i.1,v.1]⟩ (dS a.len i.1 v.2);have hpp:(aj ⟨28,bS ((bu p f).ab.map (·.name)) x.name,[(dS a.len i.1 v.2).aa,i.1,v.1]⟩ (dS a.len i.1 v.2)).2.l<+:e.x.g.af:=L;have pc:=lp.le.l.trans hpp;have p2:=(pX a.len i.1 v.2).le.l.trans pc;obtain⟨⟨v1,aI,a1'⟩,b1⟩:=vd hU hw hc n n' x.bz s i vs m q1 (C.bz k2) V (l2.le.l.trans p2) hs hv g1
   obtain⟨⟨v2,a6,a2'⟩,b2⟩:=vd hU hw hc n n' x.value i.2 v vs q1.2 q2 (C.value (.inr (.inl k2))) h2 p2 b1 (by rw[l1.v];exact hv.step fun _=>hm0) g2;have f2:q2.2.a4=0->q1.2.a4=0:=fun c1=>by
    by_cases c0:q1.2.a4=0
    .exact c0
    .rw[wy g2 c0]at c1;exact c1
   have hal:=hc.a _ (cV h3);have hg2:=VT hU hw (ar:=p.ab) (len:=a.len) (i:=i.1) (x:=v1) (m:=q2.2) pc b2 (fun c0=>⟨aI,(a1' (f2 c0)).2⟩) ac ac;have hnm:a.name=x.name:=by
    simp_all
   have hvars:VaR U e (bu p f) (aj ⟨28,bS ((bu p f).ab.map (·.name)) x.name,[(dS a.len i.1 v.2).aa,i.1,v.1]⟩ (dS a.len i.1 v.2)).2.vars vs (kG x.name q1.1 q2.1 q2.2):=by
    rw[lp.v,(pX a.len i.1 v.2).v,l2.v,l1.v];exact hv.step fun _=>hm0
   refine⟨?_,hvars⟩;obtain⟨st,u1,O⟩:=hg2;have hal2:p.ab[bS ((bu p f).ab.map (·.name)) x.name]?=some a:=h3;obtain⟨st2,h4,e1,e2,e3,e4,e5⟩:=VQ (s:=st) (k:=bS ((bu p f).ab.map (·.name)) x.name) (by rw[O.cl];exact hlt) v1 v2;have hso:=VN hU hw (fI hpp) u1 aI a6 h4;refine⟨st2,hso,?_⟩;by_cases c2:q2.2.a4=0
   .obtain⟨ev1,aq⟩:=a1' (f2 c2);obtain⟨ev2,r2⟩:=a2' c2;obtain⟨st1,_,t2⟩:=b2;obtain⟨_,hln,hrg2⟩:=t2.cells c2 _ a h3;rw[hnm]at hln hrg2;have hbad:sB q1.1 (iZ q2.2.cells x.name)=true↔(v1<0\/a.len<=v1):=by
     unfold sB;simp_all
    by_cases cb:sB q1.1 (iZ q2.2.cells x.name)=true
    .have es:kG x.name q1.1 q2.1 q2.2=fo 2 q2.2:=by
      unfold kG;simp only[ai cb];rw[ah];unfold fo;simp_all
     rw[ai ⟨c2,hbad.1 cb⟩]at O;rw[es];have hft:(fo 2 q2.2).a4≠0:=by unfold fo;simp_all
     exact⟨by rw[e1];exact O.ed,by rw[e2];exact O.out,fun c=>by rw[e3];exact O.aT c,by rw[e5];exact O.cl,fun c=>absurd c hft,fun c=>absurd c hft⟩
    .have hnb:¬(v1<0\/a.len<=v1):=fun h=>cb (hbad.2 h);have es:kG x.name q1.1 q2.1 q2.2={q2.2 with cells:=vM q2.2.cells x.name q1.1.toNat q2.1}:=by
      unfold kG;simp_all
     rw[ah (fun h=>hnb h.2)]at O;rw[es];obtain⟨g3,_,_⟩:=O.cells c2 _ a h3;rw[hnm]at g3;have hst2:st2={st with cells:=st.cells.set (bS ((bu p f).ab.map (·.name)) x.name) ((iZ q2.2.cells x.name).set v1.toNat v2) }:=by
      unfold yQ at h4
      grind
     refine⟨by rw[e1];exact O.ed,by rw[e2];exact O.out,fun c=>aU,by rw[e5];exact O.cl,fun c=>by rw[e4];exact O.a2 c,fun _ j a' hj=>?_⟩;obtain⟨d1,d2,d3⟩:=O.cells c2 j a' hj;rw[hst2];show(st.cells.set _ _)[j]?=some (iZ (vM q2.2.cells x.name q1.1.toNat q2.1) a'.name)/\((iZ (vM q2.2.cells x.name q1.1.toNat q2.1) a'.name).length:Int)=a'.len/\∀y∈iZ (vM q2.2.cells x.name q1.1.toNat q2.1) a'.name,cX y;rw[V4,oG];by_cases cj:bS ((bu p f).ab.map (·.name)) x.name=j
     .grind
     .rw[ah cj];have hat':(p.ab.map (·.name))[bS ((bu p f).ab.map (·.name)) x.name]?=some x.name:=hat;have hne:¬a'.name=x.name:=fun en=>cj (IQ hP.val.fq hat' (by rw[fd,hj,lB,en]));simp_all
   .have es:kG x.name q1.1 q2.1 q2.2=q2.2:=by
     have ht:fo 2 q2.2=q2.2:=by unfold fo;rw[ah c2]
     unfold kG;simp_all
    rw[ah (fun h=>c2 h.1)]at O;rw[es];exact⟨by rw[e1];exact O.ed,by rw[e2];exact O.out,fun c=>by rw[e3];exact O.aT c,by rw[e5];exact O.cl,fun c=>absurd c c2,fun c=>absurd c c2⟩
  rw[ah k2]at h Y;by_cases ee:x.az=3
  .rw[ai ee]at h Y;rw[ah ac]at hw1;obtain⟨au,h0,h⟩:=aC.1 h;obtain⟨a,V,h⟩:=aC.1 h;obtain⟨b,h2,h⟩:=aC.1 h;obtain⟨mm,h3,h⟩:=aC.1 h;simp only[am]at h;subst h;obtain⟨q,g0,Y⟩:=aC.1 Y;have l0:=cD _ n _ _ _ h0;have la:=(jl (bu p f) n).2.1 _ _ _ V;have lb:=(jl (bu p f) n).2.1 _ _ _ h2;have lm:=uT _ _ _ _ _ _ h3;have lt:=eB au.1 a.aa mm.aa mm;have pt:(a5 au.1 a.aa mm.aa mm).2.l<+:e.x.g.af:=L;have pm:=lt.le.l.trans pt;have pb:=lm.1.l.trans pm;have pa:a.l<+:e.x.g.af:=lb.1.l.trans pb;have p0:=la.1.l.trans pa;obtain⟨⟨v0,fD,a0'⟩,b0⟩:=vd hU hw hc n n' x.value s au vs m q (C.value (.inr (.inr (.inl ee)))) h0 p0 hs hv g0;have vv0:VaR U e (bu p f) au.2.vars vs q.2:=by rw[l0.v];exact hv.step fun _=>hm0
   obtain⟨o1,o2,o3⟩:=zkB hP hf (C.value (.inr (.inr (.inl ee)))) ac hg hp h0;obtain⟨oa1,oa2,oa3,oa4⟩:=zkA hP hf C.bD.1 ac o1 o2 ac V;have hms:mm.aa=b.aa:=by
    rw[lm.2.1]
   have hml:=IM _ _ _ _ h3;have hbl:b.vars.length=(bu p f).aO.length:=by rw[lb.2];exact vv0.len
   -- which branch is taken,and what it gives
   have main:(v0≠0->fR U e p.ab a.aa rm.2/\VaR U e (bu p f) a.vars rm.1 rm.2)->(v0=0->fR U e p.ab b.aa rm.2/\VaR U e (bu p f) b.vars rm.1 rm.2)->fR U e p.ab (a5 au.1 a.aa mm.aa mm).1 rm.2/\VaR U e (bu p f) (a5 au.1 a.aa mm.aa mm).2.vars rm.1 rm.2:=fun ha hb=>by
    refine⟨?_,?_⟩
    .by_cases cv:v0=0
     .obtain⟨⟨sb,⟨qb,tb,ub⟩,wb⟩,_⟩:=hb cv;exact⟨sb,⟨qb,mQ hU hw pt fD (fun e=>absurd cv e) fun _=>aU,ub⟩,wb⟩
     .obtain⟨⟨sa,⟨qa,ta,ua⟩,wa⟩,_⟩:=ha cv;exact⟨sa,⟨qa,mQ hU hw pt fD (fun _=>ta) fun e=>absurd e cv,ua⟩,wa⟩
    .rw[lt.v];refine⟨ac,fun i y nm hi hn=>?_⟩;have hil:=gR.1 hi;have hil:=hil.1;rw[hml.1]at hil;obtain⟨xx,z,y',s',p1,p2,p3,p4,p5⟩:=ND _ _ _ _ h3 pm i (eR _) ac;rw[hi,am]at p3;subst p3;by_cases cv:v0=0
     .obtain⟨_,vb⟩:=hb cv;obtain⟨w,⟨qz,dz,ez⟩,hw2⟩:=vb.v i z nm p2 hn;exact⟨w,⟨qz,by rw[p4];exact mQ hU hw p5 fD (fun e=>absurd cv e) fun _=>dz,ez⟩,hw2⟩
     .obtain⟨_,va⟩:=ha cv;obtain⟨w,⟨qx,dx,ex⟩,hw2⟩:=va.v i xx nm p1 hn;exact⟨w,⟨qx,by rw[p4];exact mQ hU hw p5 fD (fun _=>dx) fun e=>absurd e cv,ex⟩,hw2⟩
   have obS:LG (bu p f) f.params.length A {a with aa:=au.2.aa,vars:=au.2.vars}:=(oa1.setS (o1.st.le la.1.l)).setV (fun y hy=>(o1.v y hy).le la.1.l) vv0.len;have obP:LP {a with aa:=au.2.aa,vars:=au.2.vars}:=⟨oa2.l1,oa2.l2,oa2.l3,oa2.l4⟩;by_cases c0:q.2.a4=0
   .obtain⟨e0,_⟩:=a0' c0;refine main (fun cv=>?_) fun cv=>?_
    .rw[ai ac]at Y;exact I2 f hf e A n x.bm au.2 a vs q.2 rm hw C.bD.1 ac o1 o2 ac (fun t ht=>aU) V pa b0 vv0 Y
    .rw[ah ac]at Y;exact I2 f hf e A n x.bO {a with aa:=au.2.aa,vars:=au.2.vars} b vs q.2 rm hw C.bD.2 ac obS obP cU (fun t ht=>cU) h2 pb b0 vv0 Y
   .have hrm:rm=(vs,q.2):=by
     split at Y
     .exact V8 Y c0
     .exact V8 Y c0
    subst hrm;refine main (fun cv=>?_) fun cv=>?_
    .obtain⟨s1,d1⟩:=(IP hU hw c0 n).2.1 x.bm au.2 a C.bD.1 V pa vv0.len b0 vv0.d;refine⟨s1,aU,fun i y nm V h2=>?_⟩;obtain⟨q',hq⟩:=d1 y (cV V);exact⟨q'.v,⟨q',hq,rfl⟩,fun e=>absurd e c0⟩
    .obtain⟨s1,d1⟩:=(IP hU hw c0 n).2.1 x.bO {a with aa:=au.2.aa,vars:=au.2.vars} b C.bD.2 h2 pb vv0.len b0 vv0.d;refine⟨s1,hbl,fun i y nm V h2=>?_⟩;obtain⟨q',hq⟩:=d1 y (cV V);exact⟨q'.v,⟨q',hq,rfl⟩,fun e=>absurd e c0⟩
  rw[ah ee]at h Y;by_cases fm:x.az=4
  .rw[ai fm]at h Y;exact I3 f hf e A n x s r vs m rm hw C fm ac hg hp hl hA h L hm0 hs hv Y
  rw[ah fm]at h Y;by_cases dF:x.az=5
  .rw[ai dF]at h Y;obtain⟨v,V,h⟩:=aC.1 h;simp only[am]at h;subst h;obtain⟨q,g1,Y⟩:=aC.1 Y;rw[am]at Y;subst Y;have l1:=cD _ n _ _ _ V;have lp:=b9 ⟨29,0,[v.2.aa,v.1]⟩ v.2;have hpp:(aj ⟨29,0,[v.2.aa,v.1]⟩ v.2).2.l<+:e.x.g.af:=L;obtain⟨⟨w,aI,a1'⟩,st,u1,O⟩:=vd hU hw hc n n' x.value s v vs m q (C.value (.inr (.inr (.inr (.inr dF))))) V (lp.le.l.trans hpp) hs hv g1;have hvv:VaR U e (bu p f) v.2.vars vs (nu q.1 q.2):=by rw[l1.v];exact hv.step fun _=>hm0
   refine⟨?_,hvv⟩;by_cases c0:q.2.a4=0
   .refine⟨_,zjQ hU hw (fI hpp) u1 Et aI,?_⟩;rw[(a1' c0).1];exact O.put c0 _
   .refine⟨st,Eo hU hw (fI hpp) (.inr (.inl rfl)) rfl u1 Et,?_⟩;unfold nu;rw[ah c0];exact O
  rw[ah dF]at h Y;by_cases k6:x.az=6
  .rw[ai k6]at h Y;obtain⟨Z,V,h⟩:=aC.1 h;obtain⟨q,g1,Y⟩:=aC.1 Y;split at h
   .rename_i hfn;simp only[am]at h;subst h;obtain⟨hc0,hal⟩:=C.call k6;have hc0':0<=bW p.funcs x.to 0:=hc0;have l1:=(r3 _ n _ _ _ V).1;have ll:=(r3 _ n _ _ _ V).2;have hq:(aj ⟨24,0,[(aj ⟨30,bW (bu p f).funcs x.to 0,Z.2.aa::Z.1⟩ Z.2).1]⟩ { (aj ⟨30,bW (bu p f).funcs x.to 0,Z.2.aa::Z.1⟩ Z.2).2 with aa:=(aj ⟨30,bW (bu p f).funcs x.to 0,Z.2.aa::Z.1⟩ Z.2).1}).2.l<+:e.x.g.af:=L;have lq:=b9 ⟨24,0,[(aj ⟨30,bW (bu p f).funcs x.to 0,Z.2.aa::Z.1⟩ Z.2).1]⟩ { (aj ⟨30,bW (bu p f).funcs x.to 0,Z.2.aa::Z.1⟩ Z.2).2 with aa:=(aj ⟨30,bW (bu p f).funcs x.to 0,Z.2.aa::Z.1⟩ Z.2).1};have lp:=b9 ⟨30,bW (bu p f).funcs x.to 0,Z.2.aa::Z.1⟩ Z.2;have hpp:(aj ⟨30,bW (bu p f).funcs x.to 0,Z.2.aa::Z.1⟩ Z.2).2.l<+:e.x.g.af:=lq.le.l.trans hq;obtain⟨⟨st,u1,O⟩,b3,b4,b5⟩:=Ww hU hw hc x.args s Z vs m q C.args V (lp.le.l.trans hpp) hs hv g1;have hat:=fI hpp;have hvv:∀{m':MS},VaR U e (bu p f) Z.2.vars vs m':=by
     rw[l1.v];exact hv.step fun _=>hm0
    have hfix:di (ny p.funcs 0 []) x.to=bW p.funcs x.to 0:=hP.val.ok.fn x.to hc0';obtain⟨k,hk1,hk2⟩:∃k:Nat,k<p.funcs.length/\bW p.funcs x.to 0=(k:Int):=by
     have:=A4 p.funcs x.to 0 hc0';simpa using this
    have hfk:p.funcs[k]?=some p.funcs[k]:=aX hk1;have hall:∀t v,q.1[t]?=some v->∃y,Z.1[t]?=some y/\∃w,fk U e y w/\(q.2.a4=0->w=v/\cX w):=fun t v ht=>by
     have htl:=jg ht;have hy:Z.1[t]?=some (Z.1[t]' ac):=aX ac;obtain⟨w,V,h2⟩:=b5 t _ v hy ht;exact⟨_,hy,w,V,h2⟩
    have hdo:∀y∈Z.2.aa::Z.1,ja U e y:=fun y hy=>by
     rcases eJ.1 hy with rfl|hy
     .exact u1.d
     .obtain⟨t,ht⟩:=kT hy;have htl:=jg ht;obtain⟨w,V,_⟩:=b5 t y (q.1[t]' ac) ht (aX ac);exact V.d
    -- the state behind the call
    have big:∃I,jM U e (aj ⟨30,bW (bu p f).funcs x.to 0,Z.2.aa::Z.1⟩ Z.2).1 I/\StR p.ab I rm.2/\VaR U e (bu p f) (Z.2.vars.set (bS (bu p f).aO x.name) (aj ⟨24,0,[(aj ⟨30,bW (bu p f).funcs x.to 0,Z.2.aa::Z.1⟩ Z.2).1]⟩ { (aj ⟨30,bW (bu p f).funcs x.to 0,Z.2.aa::Z.1⟩ Z.2).2 with aa:=(aj ⟨30,bW (bu p f).funcs x.to 0,Z.2.aa::Z.1⟩ Z.2).1}).1) rm.1 rm.2:=by
     by_cases c0:q.2.a4=0
     .have ht:=O.eb c0;by_cases c1:(dw q.2).a4=0
      .rw[ai c1,hfix,hk2]at Y;obtain⟨q2,g2,Y⟩:=aC.1 Y;rw[am]at Y;subst Y;obtain⟨G,hG1,hG2⟩:=hP.dj k _ hfk;have hpar:q.1.length=(p.funcs[k]).params.length:=by
        rw[<-b3,ll,hal];unfold tQ;show((p.funcs[(bW p.funcs x.to 0).toNat]?).map fun f=>f.params.length).getD 0=_;rw[hk2,eM,hfk];rfl
       obtain⟨I,v,d1,d2,d3⟩:=I4 k _ G q.1 (dw q.2) q2 ((ct st).bb 0) hfk hG1 hG2 hpar (fun v hv'=>by
        obtain⟨t,ht⟩:=kT hv';obtain⟨y,_,w,_,h2⟩:=hall t v ht;obtain⟨e1,e2⟩:=h2 c0;rw[<-e1];exact e2) g2 c1 (ht.bI 0)
       have hcall:=zjS hU hw (n:=⟨30,bW (bu p f).funcs x.to 0,Z.2.aa::Z.1⟩) (a:=Z.2.aa) (s:=st) (st:=I) (args:=q.1) (G:=G) (v:=v) hat rfl rfl u1 Et (by rw[ht.ed];exact c1) (by simp[b3];omega) (fun t v ht=>by
        obtain⟨y,V,w,h2,h3⟩:=hall t v ht;rw[(h3 c0).1]at h2;exact⟨y,by rw[show 1+t=t+1 by omega];exact V,h2⟩) hc0 (by
        show U.funcs[(bW p.funcs x.to 0).toNat]?=some G;rw[hk2,eM];exact hG1) (by show Dn U (.fn ⟨(bW p.funcs x.to 0).toNat,G,(ct st).bb 0,q.1⟩ I v);rw[hk2,eM];exact d1)
       refine⟨_,hcall,d2.bI _,?_⟩;have J:=II hU hw (fI hq) hcall;refine hvv.set hnn (C.ez (.inr k6)) J fun c2=>?_;have hed:I.ed=0:=by rw[d2.ed];exact c2
       show(if I.ed=0 then v else st.bI)=q2.1/\cX (if I.ed=0 then v else st.bI)
       grind
      .rw[ah c1,am]at Y;subst Y;have hso:=zjR hU hw hat rfl rfl u1 Et (by rw[ht.ed];exact c1) hdo;refine⟨_,hso,ht,?_⟩;have J:=II hU hw (fI hq) hso;have:=(hvv (m':=dw q.2)).set hnn (C.ez (.inr k6)) (x:=0) J fun c2=>absurd c2 c1;exact⟨this.len,fun i y nm V h2=>by
        obtain⟨v,h3,_⟩:=this.v i y nm V h2
        grind⟩
     .have htm:dw q.2=q.2:=by unfold dw;rw[ai c0]
      rw[htm,ah c0,am]at Y;subst Y;have hso:=Eo hU hw hat (.inr (.inr rfl)) rfl u1 Et;refine⟨st,hso,O,?_⟩;have J:=II hU hw (fI hq) hso;have:=(hvv (m':=q.2)).set hnn (C.ez (.inr k6)) (x:=0) J fun c2=>absurd c2 c0;exact⟨this.len,fun i y nm V h2=>by
       obtain⟨v,h3,_⟩:=this.v i y nm V h2
       grind⟩
    obtain⟨I,z1,z2,z3⟩:=big;exact⟨⟨I,z1,z2⟩,z3⟩
   .cases h
  rw[ah k6]at h Y;have iU:x.az=7:=ac;rw[ai iU]at h Y;simp only[am]at h Y;subst h;subst Y;have p1:=(r1 (cy (16+x.n)) (aj ⟨1,0,[]⟩ s).1 (aj ⟨1,0,[]⟩ s).2).le.l.trans L;have hz0:=Bq hU hw (fI p1);have hg0:=Bt hU hw (ar:=p.ab) (m:=m) (x:=0) L (show fR U e p.ab (aj ⟨1,0,[]⟩ s).2.aa m from hs) fun _=>hz0;rw[ai ⟨hm0,rfl⟩]at hg0;refine⟨hg0,?_⟩;rw[(r1 (cy (16+x.n)) (aj ⟨1,0,[]⟩ s).1 (aj ⟨1,0,[]⟩ s).2).v];exact hv.step fun _=>hm0
end
theorem NM{P:Nat->Int->Prop}:∀(O:qG),(∀w∈O,∃v,P w v)->∃vs:qA,vs.length=O.length/\∀(t w:Nat),O[t]?=some w->∃v,vs[t]?=some v/\P w v
 |[],_=>⟨[],rfl,fun t w h=>rD⟩
 |a::O,h=>by
  obtain⟨v,j⟩:=h a dM;obtain⟨vs,Z,m⟩:=NM O fun w hw=>h w (dh _ hw)
  refine⟨v::vs,by simp[Z],fun t w hw=>?_⟩;cases t with
  |zero=>
   simp only[nH]at hw;subst hw;exact⟨v,rfl,j⟩
  |succ t=>exact m t w (by simpa using hw)
def Ev(c:Cx)(ws:qG)(I:qA)(vs:List (aY×Int))(m:MS):Prop:=I.length=ws.length/\∀(t w:Nat),ws[t]?=some w->∃v L,I[t]?=some v/\c.aO[w]?=some L/\(m.a4=0->v=di vs L/\cX v)
section
variable {p:Pr} {U:Un} {N:Nat} (hP:Pg p U N)
include hP
theorem zkE(IS:∀k,k<=n'->Bv p U k):NL p U (n'+1):=by
 intro f hf e A n x s r vs m rm hw hx hk hz hg hp hl hA h hpre hm0 hs hv hm;have hU:=hP.wg;have hc:=hP.eK.cx hf;have hnn:(bu p f).aO.Nodup:=hP.val.fnNames hf;have hnl:=hc.nl;cases n with
 |zero=>simp[mn]at h
 |succ n=>
  have hsz:=x.a9;have hw1:=xH x;rw[ai hk]at hw1;obtain⟨r0',b',h0',hb',gl0,glu,gpu,gun⟩:=zj3 (n:=n) hc hx hk hz hg hp hl;unfold mn at h;obtain⟨au,h0,h⟩:=aC.1 h;obtain⟨b,hb,h⟩:=aC.1 h;obtain⟨t,h1,h⟩:=aC.1 h;obtain⟨d,h2,h⟩:=aC.1 h;simp only[am]at h;subst h;rw[h0,am]at h0';subst h0';rw[hb,am]at hb';subst hb';have hxv:=hx.value (.inr (.inr (.inr (.inl hk))));have l0:=cD _ n _ _ _ h0;have lu:=r4 (16*(s.loops:Int)+1) (bD b) 0 { (aj ⟨3,16*(s.loops:Int),[]⟩ au.2).2 with aa:=(aj ⟨3,16*(s.loops:Int),[]⟩ au.2).1};have lt:=(jl (bu p f) n).2.1 _ _ _ h1;have ld:=cD _ n _ _ _ h2;have lq:=b9 ⟨3,16*(s.loops:Int),[]⟩ au.2;have hkk:(au.2.aa::((bD b).map fun i=>au.2.vars.getD i 0)++[d.1,d.2.aa]++((bD b).map fun i=>d.2.vars.getD i 0))=gO au.2.aa au.2.vars (bD b) d.1 d.2.aa d.2.vars:=rfl;rw[hkk]at hpre⊢;have lk:=b9 ⟨31,s.loops,gO au.2.aa au.2.vars (bD b) d.1 d.2.aa d.2.vars⟩ d.2;generalize hkn:aj ⟨31,s.loops,gO au.2.aa au.2.vars (bD b) d.1 d.2.aa d.2.vars⟩ d.2=k at *;have hbl:=wt (bu p f).aO n _ _ _ hb;rw[j9]at hbl;have e0:au.2.vars.length=(bu p f).aO.length:=by rw[l0.v];exact hv.len
  have hwl:∀w∈bD b,w<au.2.vars.length:=fun w hw=>by
   have h1:=Bf hw;omega
  have hwn:(bD b).length<=14:=by
   have:=Eb b;omega
  have hnot:∀i,i∉bD b->uV (bu p f).aO x.bm i:=fun i hi=>⟨n,_,_,hb,zis hi⟩;have pz:=(IL k.1 au.1 au.2.vars (bD b) 1 _).trans hpre;have pkk:k.2.l<+:e.x.g.af:=((b9 ⟨25,0,[k.1]⟩ {k.2 with vars:=au.2.vars}).le.l.trans (eB au.1 (aj ⟨25,0,[k.1]⟩ {k.2 with vars:=au.2.vars}).1 au.2.aa (aj ⟨25,0,[k.1]⟩ {k.2 with vars:=au.2.vars}).2).le.l).trans pz;have pd:d.2.l<+:e.x.g.af:=lk.le.l.trans pkk;have ptt:t.l<+:e.x.g.af:=ld.le.l.trans pd;have pu:=lt.1.l.trans ptt;have pq:(aj ⟨3,16*(s.loops:Int),[]⟩ au.2).2.l<+:e.x.g.af:=lu.1.l.trans pu;have p0:au.2.l<+:e.x.g.af:=lq.le.l.trans pq;have hkat:e.x.g.af[fG d.2.l ⟨31,s.loops,gO au.2.aa au.2.vars (bD b) d.1 d.2.aa d.2.vars⟩]?=some ⟨31,s.loops,gO au.2.aa au.2.vars (bD b) d.1 d.2.aa d.2.vars⟩:=fI (s:=d.2) (by rw[hkn];exact pkk);have hk1:k.1=(fG d.2.l ⟨31,s.loops,gO au.2.aa au.2.vars (bD b) d.1 d.2.aa d.2.vars⟩:Nat):=by rw[<-hkn];rfl
  have hlo:=(hw.ok _ _ hkat).lp rfl;simp only at hlo;rw[fE]at hm;obtain⟨q,g0,hm⟩:=aC.1 hm;obtain⟨⟨v0,fD,a0'⟩,st0,u1,u2⟩:=vd hU hw hc n n' x.value {s with loops:=s.loops+1} au vs m q hxv h0 p0 hs hv g0;have vv0:VaR U e (bu p f) au.2.vars vs q.2:=by rw[l0.v];exact hv.step fun _=>hm0
  have hold:∀w,w<au.2.vars.length->∃y Z v,au.2.vars[w]?=some y/\au.2.vars.getD w 0=y/\(bu p f).aO[w]?=some Z/\fk U e y v/\(q.2.a4=0->v=di vs Z/\cX v):=fun w hwl'=>by
   have hy:au.2.vars[w]?=some (au.2.vars[w]):=aX hwl';have hn:(bu p f).aO[w]?=some ((bu p f).aO[w]' ac):=aX ac;obtain⟨v,h3,h4⟩:=vv0.v w _ _ hy hn;exact⟨_,_,v,hy,by rw[dC,hy];rfl,hn,h3,h4⟩
  obtain⟨ol,hol1,hol2⟩:=NM (P:=fun w v=>∃Z,(bu p f).aO[w]?=some Z/\fk U e (au.2.vars.getD w 0) v/\(q.2.a4=0->v=di vs Z/\cX v)) (bD b) fun w hww=>by
   obtain⟨y,Z,v,h1,h2,h3,h4,h5⟩:=hold w (hwl w hww);exact⟨v,Z,h3,by rw[h2];exact h4,h5⟩
  -- the loop's node,from its rounds
  have hnode:∀fin,Dn U (.lp e ⟨31,s.loops,gO au.2.aa au.2.vars (bD b) d.1 d.2.aa d.2.vars⟩ ⟨st0,0::ol⟩ fin)->∃qq,Dn U (.nd e k.1 qq)/\qq.l=some fin:=fun fin hfin=>by
   have hloop:=VO hU hw (i:=fG d.2.l ⟨31,s.loops,gO au.2.aa au.2.vars (bD b) d.1 d.2.aa d.2.vars⟩) (a:=au.2.aa) (s:=st0) (vs:=ol) (fin:=fin) hkat rfl ⟨by show 0<=(s.loops:Int);omega,by show(s.loops:Int)<16;omega,Ek⟩ rfl u1 Ek (fun t v hv=>by
    have htl:=jg hv;have hwt:(bD b)[t]?=some ((bD b)[t]' ac):=aX ac;obtain⟨v',I,Z,z,p3,_⟩:=hol2 t _ hwt;rw[hv,am]at I;subst I;exact⟨_,VX hwt,p3⟩) hfin
   rw[<-hk1]at hloop;exact⟨_,hloop,rfl⟩
  -- what follows from a final state of the loop
  have endg:∀fin:L9,(v0≠0->Dn U (.lp e ⟨31,s.loops,gO au.2.aa au.2.vars (bD b) d.1 d.2.aa d.2.vars⟩ ⟨st0,0::ol⟩ fin))->(v0≠0->StR p.ab fin.s rm.2)->(v0=0->StR p.ab st0 rm.2)->(v0≠0->∃vl,fin.v=0::vl/\Ev (bu p f) (bD b) vl rm.1 rm.2)->(v0=0->rm.2.a4=0->q.2.a4=0/\rm.1=vs)->(rm.2.a4=0->q.2.a4=0/\∀i Z,i∉bD b->(bu p f).aO[i]?=some Z->di rm.1 Z=di vs Z)->fR U e p.ab (fj k.1 au.1 au.2.vars (bD b) 1 { (a5 au.1 (aj ⟨25,0,[k.1]⟩ {k.2 with vars:=au.2.vars}).1 au.2.aa (aj ⟨25,0,[k.1]⟩ {k.2 with vars:=au.2.vars}).2).2 with aa:=(a5 au.1 (aj ⟨25,0,[k.1]⟩ {k.2 with vars:=au.2.vars}).1 au.2.aa (aj ⟨25,0,[k.1]⟩ {k.2 with vars:=au.2.vars}).2).1}).aa rm.2/\VaR U e (bu p f) (fj k.1 au.1 au.2.vars (bD b) 1 { (a5 au.1 (aj ⟨25,0,[k.1]⟩ {k.2 with vars:=au.2.vars}).1 au.2.aa (aj ⟨25,0,[k.1]⟩ {k.2 with vars:=au.2.vars}).2).2 with aa:=(a5 au.1 (aj ⟨25,0,[k.1]⟩ {k.2 with vars:=au.2.vars}).1 au.2.aa (aj ⟨25,0,[k.1]⟩ {k.2 with vars:=au.2.vars}).2).1}).vars rm.1 rm.2:=fun fin f1 f2 f3 f4 f5 f6=>by
   obtain⟨e1,e2⟩:=VY hU hw (s:={k.2 with vars:=au.2.vars}) (lp:=k.1) (cv:=au.1) (v:=v0) (old:=au.2.vars) (ws:=bD b) (st0:=st0) (y0:=au.2.aa) (fin:=fin) rfl hpre fD (fun h=>hnode fin (f1 h)) u1 (NE b) hwl;have hlen:=(uU k.1 au.1 au.2.vars (bD b) 1 { (a5 au.1 (aj ⟨25,0,[k.1]⟩ {k.2 with vars:=au.2.vars}).1 au.2.aa (aj ⟨25,0,[k.1]⟩ {k.2 with vars:=au.2.vars}).2).2 with aa:=(a5 au.1 (aj ⟨25,0,[k.1]⟩ {k.2 with vars:=au.2.vars}).1 au.2.aa (aj ⟨25,0,[k.1]⟩ {k.2 with vars:=au.2.vars}).2).1}).2.2.1;have hlen2:(a5 au.1 (aj ⟨25,0,[k.1]⟩ {k.2 with vars:=au.2.vars}).1 au.2.aa (aj ⟨25,0,[k.1]⟩ {k.2 with vars:=au.2.vars}).2).2.vars.length=au.2.vars.length:=by rw[(eB _ _ _ _).v];rfl
   refine⟨⟨_,e1,?_⟩,by rw[hlen];show(a5 au.1 (aj ⟨25,0,[k.1]⟩ {k.2 with vars:=au.2.vars}).1 au.2.aa (aj ⟨25,0,[k.1]⟩ {k.2 with vars:=au.2.vars}).2).2.vars.length=_;rw[hlen2,e0],fun i y Z hi J=>?_⟩
   .by_cases cv:v0=0
    .rw[ah ac];exact f3 cv
    .rw[ai cv];exact f2 cv
   .obtain⟨g1,g2⟩:=e2 i y hi;by_cases ci:i∈bD b
    .obtain⟨t,V⟩:=kT ci;obtain⟨z1,z2⟩:=g2 t V;by_cases cv:v0=0
     .obtain⟨v,_,nm',z,⟨qv,p3,p3'⟩,p4⟩:=hol2 t i V;rw[J,am]at z;subst z;refine⟨v,⟨qv,z2 cv qv p3,p3'⟩,fun c0=>?_⟩;obtain⟨c1,c2⟩:=f5 cv c0;rw[c2];exact p4 c1
     .obtain⟨vl,dI,w2,w3⟩:=f4 cv;obtain⟨v,nm',I,z,p3⟩:=w3 t i V;rw[J,am]at z;subst z;exact⟨v,z1 cv v (by rw[dI];simpa using I),p3⟩
    .have hy:=g1 ci;obtain⟨y',nm',v,I,z,p3,p4,p5⟩:=hold i (by have:=gR.1 hy;exact this.1);rw[hy,am]at I;subst I;rw[J,am]at p3;subst p3;refine⟨v,p4,fun c0=>?_⟩;obtain⟨c1,c2⟩:=f6 c0;rw[c2 i Z ci J];exact p5 c1
  -- the rounds
  have loopP:∀j,j<=n'->∀(O:L9) (vl:qA) (C:List (aY×Int)) (bt:MS),bt.a4=0->StR p.ab O.s bt->O.v=0::vl->Ev (bu p f) (bD b) vl C bt->(∀i Z,i∉bD b->(bu p f).aO[i]?=some Z->di C Z=di vs Z)->q.2.a4=0->(if (dw bt).a4=0 then (fL p (ny p.funcs 0 []) j x.bm C (dw bt)).bind fun r2=>fE p (ny p.funcs 0 []) j x r2.1 r2.2 else fE p (ny p.funcs 0 []) j x C (dw bt))=some rm->∃fin,Dn U (.lp e ⟨31,s.loops,gO au.2.aa au.2.vars (bD b) d.1 d.2.aa d.2.vars⟩ O fin)/\StR p.ab fin.s rm.2/\(∃vl',fin.v=0::vl'/\Ev (bu p f) (bD b) vl' rm.1 rm.2)/\∀i Z,i∉bD b->(bu p f).aO[i]?=some Z->di rm.1 Z=di vs Z:=by
   intro j;induction j with
   |zero=>
    intro hj O vl C bt hm1 hst hnv hlv hout hq0 Y;split at Y
    .obtain⟨r2,_,h3⟩:=aC.1 Y;simp[fE]at h3
    .simp[fE]at Y
   |succ j ihj=>
    intro hj O vl C bt hm1 hst hnv hlv hout hq0 Y;have htk:=hst.eb hm1;by_cases c1:(dw bt).a4=0
    .rw[ai c1]at Y;obtain⟨qb,hqb,Y⟩:=aC.1 Y;have hend:tF O=none:=by
      unfold tF;rw[ah (by rw[hst.ed];omega),ah (by rw[htk.ed];omega)]
     have hv':(e.it ⟨31,s.loops,gO au.2.aa au.2.vars (bD b) d.1 d.2.aa d.2.vars⟩ O).var s.loops=some ⟨ct O.s,O.v⟩:=by
      show(if s.loops=((s.loops:Int)).toNat then _ else _)=_;rw[ai ac]
     have hw':Wg (e.it ⟨31,s.loops,gO au.2.aa au.2.vars (bD b) d.1 d.2.aa d.2.vars⟩ O).x.g.af:=hw;have hagr:∀t,t≠s.loops->(e.it ⟨31,s.loops,gO au.2.aa au.2.vars (bD b) d.1 d.2.aa d.2.vars⟩ O).var t=e.var t:=fun t V=>by
      show(if t=((s.loops:Int)).toNat then _ else _)=_;rw[ah ac]
     have hex:(e.it ⟨31,s.loops,gO au.2.aa au.2.vars (bD b) d.1 d.2.aa d.2.vars⟩ O).x=e.x:=rfl;obtain⟨e',he'⟩:∃e',e'=e.it ⟨31,s.loops,gO au.2.aa au.2.vars (bD b) d.1 d.2.aa d.2.vars⟩ O:=⟨_,rfl⟩;rw[<-he']at hv' hw' hagr hex;have hnd:e'.x.g.af=e.x.g.af:=by rw[hex]
     -- the variables at the start of the round
     have hvr:VaR U e' (bu p f) (fX (16*(s.loops:Int)+1) (bD b) 0 { (aj ⟨3,16*(s.loops:Int),[]⟩ au.2).2 with aa:=(aj ⟨3,16*(s.loops:Int),[]⟩ au.2).1}).vars C (dw bt):=by
      refine⟨by rw[lu.2.2.1];exact e0,fun i y Z hi J=>?_⟩;by_cases ci:i∈bD b
      .obtain⟨t1,V⟩:=kT ci;obtain⟨k1,z1,z2⟩:=VV (L:=e.x.g.af) (bD b) 0 _ pu (NE b) hwl t1 i V;rw[hi,am]at z1;subst z1;obtain⟨v,nm',I,z,p3⟩:=hlv.2 t1 i V;rw[J,am]at z;subst z;have htl:=jg V;have hvo:=zjU hU hw' (j:=t1) (l:=⟨ct O.s,O.v⟩) (v:=v) (by rw[hnd,z2,bR]) ac hv' (by show O.v[t1+1]?=_;rw[hnv];simpa using I);exact⟨v,hvo,fun _=>p3 hm1⟩
      .have hi2:au.2.vars[i]?=some y:=by
        have h3:=M2 (16*(s.loops:Int)+1) (bD b) 0 { (aj ⟨3,16*(s.loops:Int),[]⟩ au.2).2 with aa:=(aj ⟨3,16*(s.loops:Int),[]⟩ au.2).1} i ci;rw[h3]at hi;exact hi
       obtain⟨y',nm',v,I,z,p3,⟨qv,p4,p4'⟩,p5⟩:=hold i (jg hi2);rw[hi2,am]at I;subst I;rw[J,am]at p3;subst p3;have hy:=gl0.v y (cV hi2);have hmk:=hy.m.le hy.i.lo hy.i.hi p0;refine⟨v,⟨qv,p4.fA hw hex fun t V=>hagr t fun et=>?_,p4'⟩,fun _=>?_⟩
       .have:=hA t (hmk t V);omega
       .rw[hout i Z ci J];exact p5 hq0
     have hsr:fR U e' p.ab (fX (16*(s.loops:Int)+1) (bD b) 0 { (aj ⟨3,16*(s.loops:Int),[]⟩ au.2).2 with aa:=(aj ⟨3,16*(s.loops:Int),[]⟩ au.2).1}).aa (dw bt):=by
      rw[lu.2.1];exact⟨_,zjT hU hw' (l:=⟨ct O.s,O.v⟩) (by rw[hnd];exact fI (s:=au.2) pq) hv',htk⟩
     obtain⟨hsb,hvb⟩:=IS (j+1) hj f hf e' (fun t=>A t\/t=s.loops) n x.bm _ t C (dw bt) qb hw' hx.bD.1 ac glu gpu ac (fun t V=>by
      rcases V with V|V
      .have:=hA t V;omega
      .omega) h1 (by rw[hnd];exact ptt) hsr hvr hqb
     rw[fE]at Y;obtain⟨q2,hq2,Y⟩:=aC.1 Y;obtain⟨⟨cv,cv1,cv2⟩,st2,w1',w2'⟩:=vd hU hw' hc n j x.value t d qb.1 qb.2 q2 hxv h2 (by rw[hnd];exact pd) hsb hvb hq2;have ff:q2.2.a4=0->qb.2.a4=0:=fun c1=>by
      by_cases c0:qb.2.a4=0
      .exact c0
      .rw[wy hq2 c0]at c1;exact c1
     have hvd:VaR U e' (bu p f) d.2.vars qb.1 q2.2:=by rw[ld.v];exact hvb.step ff
     obtain⟨vl2,hl1,hl2⟩:=NM (P:=fun w v=>∃Z,(bu p f).aO[w]?=some Z/\fk U e' (d.2.vars.getD w 0) v/\(q2.2.a4=0->v=di qb.1 Z/\cX v)) (bD b) fun w hww=>by
      have hwl':w<(bu p f).aO.length:=by have:=hwl w hww;omega
      have hy:d.2.vars[w]?=some (d.2.vars[w]'(by rw[hvd.len];exact hwl')):=aX _;have hn:(bu p f).aO[w]?=some ((bu p f).aO[w]'hwl'):=aX _;obtain⟨v,h3,h4⟩:=hvd.v w _ _ hy hn;exact⟨v,_,hn,by rw[dC,hy];exact h3,h4⟩
     have hlv2:Ev (bu p f) (bD b) vl2 qb.1 q2.2:=⟨hl1,fun t w V=>by
      obtain⟨v,I,Z,z,p3,p4⟩:=hl2 t w V;exact⟨v,Z,I,z,p4⟩⟩
     have hout2:∀i Z,i∉bD b->(bu p f).aO[i]?=some Z->di qb.1 Z=di vs Z:=fun i Z hi J=>by
      rw[(V7 hnn (j+1)).2.1 x.bm C _ qb hx.bD.1 hqb i Z J (hnot i hi)];exact hout i Z hi J
     obtain⟨kc1,kc2⟩:=zj1 au.2.aa au.2.vars (bD b) d.1 d.2.aa d.2.vars;have round:∀fin:L9,(cv=0->fin=⟨st2,0::vl2⟩)->(cv≠0->Dn U (.lp e ⟨31,s.loops,gO au.2.aa au.2.vars (bD b) d.1 d.2.aa d.2.vars⟩ ⟨st2,0::vl2⟩ fin))->Dn U (.lp e ⟨31,s.loops,gO au.2.aa au.2.vars (bD b) d.1 d.2.aa d.2.vars⟩ O fin):=fun fin k6 iU=>by
      subst he';exact zj5 hU hw (s:=st2) (vs:=vl2) (si:=d.2.aa) (ci:=d.1) (cv:=cv) hend (by simp only[IN];exact kc2) w1' Ek (fun t1 v hv1=>by
       have htl:=jg hv1;have hwt:(bD b)[t1]?=some ((bD b)[t1]' ac):=aX ac;obtain⟨v',I,Z,z,p3,_⟩:=hl2 t1 _ hwt;rw[hv1,am]at I;subst I;exact⟨_,by simp only[IN];exact zj2 hwt,p3⟩) (by simp only[IN];exact kc1) cv1 k6 iU
     by_cases cc:q2.1≠0/\q2.2.a4=0
     .rw[ai cc]at Y;obtain⟨fin,f1,f2,f3,f4⟩:=ihj ac ⟨st2,0::vl2⟩ vl2 qb.1 q2.2 cc.2 w2' rfl hlv2 hout2 hq0 Y;exact⟨fin,round fin (fun h=>absurd ((cv2 cc.2).1.symm.trans h) cc.1) fun _=>f1,f2,f3,f4⟩
     .rw[ah cc,am]at Y;subst Y;refine⟨⟨st2,0::vl2⟩,round _ (fun _=>rfl) fun hz=>.f4 ?_,w2',⟨vl2,rfl,hlv2⟩,hout2⟩;unfold tF;rw[ai];show st2.ed≠0;rw[w2'.ed];intro c0;exact cc ⟨by rw[<-(cv2 c0).1];exact hz,c0⟩
    .rw[ah c1]at Y;have hrm:=zj4 Y c1;subst hrm;refine⟨⟨ct O.s,O.v⟩,.f4 ?_,htk,⟨vl,hnv,hlv.1,fun t w V=>?_⟩,hout⟩
     .unfold tF;rw[ah (by rw[hst.ed];omega),ai (by rw[htk.ed];exact c1)]
     .obtain⟨v,Z,I,z,p3⟩:=hlv.2 t w V;exact⟨v,Z,I,z,fun c=>absurd c c1⟩
  have hlv0:Ev (bu p f) (bD b) ol vs q.2:=⟨hol1,fun t w V=>by
   obtain⟨v,I,Z,z,p3,p4⟩:=hol2 t w V;exact⟨v,Z,I,z,p4⟩⟩
  by_cases cc:q.1≠0/\q.2.a4=0
  .rw[ai cc]at hm;have hv0:=(a0' cc.2).1;obtain⟨fin,f1,f2,f3,f4⟩:=loopP n' (aG _) ⟨st0,0::ol⟩ ol vs q.2 cc.2 u2 rfl hlv0 (fun _ _ _ _=>rfl) cc.2 hm;exact endg fin (fun _=>f1) (fun _=>f2) (fun h=>absurd (hv0.symm.trans h) cc.1) (fun _=>f3) (fun h=>absurd (hv0.symm.trans h) cc.1) fun _=>⟨cc.2,f4⟩
  .rw[ah cc,am]at hm;subst hm;exact endg ⟨st0,0::ol⟩ (fun hz=>.f4 (by
    unfold tF;rw[ai];show st0.ed≠0;rw[u2.ed];intro c0;exact cc ⟨by rw[<-(a0' c0).1];exact hz,c0⟩)) (fun _=>u2) (fun _=>u2) (fun _=>⟨ol,rfl,hlv0⟩) (fun _ h=>⟨h,rfl⟩) fun h=>⟨h,fun _ _ _ _=>rfl⟩
end
theorem NN{l C:qF}(h:l<+:C){i:Nat}{n:Nd}(k:l[i]?=some n):C[i]?=some n:=by
 obtain⟨t,rfl⟩:=h
 grind
theorem Wx:∀(m k:Nat) (s:Bd),∃Y:qA,(gH m k s).vars=s.vars++Y/\Y.length=m/\(gH m k s).aa=s.aa/\s.l<+:(gH m k s).l/\∀(t:Nat) y,Y[t]?=some y->∃i:Nat,y=i/\(gH m k s).l[i]?=some ⟨2,(k+t:Nat),[]⟩
 |0,k,s=>⟨[],by simp[gH],rfl,rfl,tO _,fun t y h=>rD⟩
 |m+1,k,s=>by
  obtain⟨Y,j,V,C,Z,z⟩:=Wx m (k+1) { (aj ⟨2,k,[]⟩ s).2 with vars:=(aj ⟨2,k,[]⟩ s).2.vars++[(aj ⟨2,k,[]⟩ s).1] };have e:gH (m+1) k s=gH m (k+1) { (aj ⟨2,k,[]⟩ s).2 with vars:=(aj ⟨2,k,[]⟩ s).2.vars++[(aj ⟨2,k,[]⟩ s).1] }:=rfl;rw[e];refine⟨(aj ⟨2,k,[]⟩ s).1::Y,?_,by simp[V],C,(wn _ _).trans Z,fun t y h=>?_⟩
  .rw[j];show(s.vars++[_])++Y=_;simp_all
  .cases t with
   |zero=>
    simp only[nH]at h;subst h;exact⟨_,rfl,fI (s:=s) Z⟩
   |succ t=>
    grind
theorem Wy:∀(m:Nat) (s:Bd),∃Y:qA,(iS m s).vars=s.vars++Y/\Y.length=m/\(iS m s).aa=s.aa/\s.l<+:(iS m s).l/\∀(t:Nat) y,Y[t]?=some y->∃i:Nat,y=i/\(iS m s).l[i]?=some ⟨1,0,[]⟩
 |0,s=>⟨[],by simp[iS],rfl,rfl,tO _,fun t y h=>rD⟩
 |m+1,s=>by
  obtain⟨Y,j,V,C,Z,z⟩:=Wy m { (aj ⟨1,0,[]⟩ s).2 with vars:=(aj ⟨1,0,[]⟩ s).2.vars++[(aj ⟨1,0,[]⟩ s).1] };have e:iS (m+1) s=iS m { (aj ⟨1,0,[]⟩ s).2 with vars:=(aj ⟨1,0,[]⟩ s).2.vars++[(aj ⟨1,0,[]⟩ s).1] }:=rfl;rw[e];refine⟨(aj ⟨1,0,[]⟩ s).1::Y,?_,by simp[V],C,(wn _ _).trans Z,fun t y h=>?_⟩
  .rw[j];show(s.vars++[_])++Y=_;simp_all
  .cases t with
   |zero=>
    simp only[nH]at h;subst h;exact⟨_,rfl,fI (s:=s) Z⟩
   |succ t=>grind
theorem Wz:∀(z:List aY) (al:qA) (O vs:List (aY×Int)),yM z al O=some vs->z.Nodup->(∀L,L∉z->di vs L=di O L)/\∀(t:Nat) L,z[t]?=some L->∃a,al[t]?=some a/\di vs L=a
 |[],al,O,vs,h,hn=>by
  rw[yM,am]at h;simp_all
 |p::z,[],O,vs,h,hn=>by simp[yM]at h
 |p::z,a::al,O,vs,h,hn=>by
  rw[yM]at h;rw[zw]at hn;obtain⟨j,V⟩:=Wz z al _ vs h hn.2;refine⟨fun L Y=>?_,fun t L m=>?_⟩
  .rw[j L fun Z=>Y (dh _ Z),Bu,ah fun e=>Y aU]
  .cases t with
   |zero=>
    simp only[nH]at m;subst m;exact⟨a,rfl,by rw[j _ hn.1,Bu,ai rfl]⟩
   |succ t=>simp_all
section
variable {p:Pr} {U:Un} {N:Nat} (hP:Pg p U N)
include hP
theorem zkF(I2:Bv p U n'):NJ p U N (n'+1):=by
 intro k f G I m r st hk hG Z hal har h hm0 hst;have hU:=hP.wg;have z:=cV hk;have hc:=hP.eK.cx z;have hnn:(bu p f).aO.Nodup:=hP.val.fnNames z;obtain⟨hb,hv⟩:=hP.eK.body z;obtain⟨_,_,_,h4⟩:=hP.eK.e9;obtain⟨l1,l2,l3⟩:=h4 f z;have hfz:=uy z;have hpz:p.sz=1+jt p.ab+iA p.funcs:=rfl;have hfs:f.sz=1+f.name.length+gl f.params+gl f.aK+bF f.body+f.value.sz:=rfl;have hnz:=hP.nz;obtain⟨g1,g2,g3⟩:=Wb hP.eK z fun _=>False
 unfold jk at Z;obtain⟨s,q1,Z⟩:=aC.1 Z;obtain⟨v,q2,Z⟩:=aC.1 Z;rw[am]at Z;rw[fM,ah ac,eM,hk,aN]at h;obtain⟨vs,h1,h⟩:=aC.1 h;obtain⟨rb,h2,h3⟩:=aC.1 h;have lv:=cD _ N _ _ _ q2;have ls:=(jl (bu p f) N).2.1 _ _ _ q1;have hgn:G.af=v.2.l:=by rw[<-Z]
 have hgv:G.value=v.1:=by rw[<-Z]
 have hgs:G.aa=v.2.aa:=by rw[<-Z]
 have hGm:=cV hG;have hw:Wg (E9.mk ⟨k,G,st,I⟩ fun _=>none).x.g.af:=hU G hGm;have pv:v.2.l<+:(E9.mk ⟨k,G,st,I⟩ fun _=>none).x.g.af:=aU;have ps:s.l<+:(E9.mk ⟨k,G,st,I⟩ fun _=>none).x.g.af:=lv.le.l.trans pv;have p0:(i9 f).l<+:(E9.mk ⟨k,G,st,I⟩ fun _=>none).x.g.af:=ls.1.l.trans ps
 -- the start
 obtain⟨Y1,aI,a6,cp,dO,cI⟩:=Wx f.params.length 0 { (aj ⟨26,0,[]⟩ ⟨[],[],0,0⟩).2 with aa:=(aj ⟨26,0,[]⟩ ⟨[],[],0,0⟩).1};obtain⟨Y2,b1,b2,b3,b4,b5⟩:=Wy f.aK.length (gH f.params.length 0 { (aj ⟨26,0,[]⟩ ⟨[],[],0,0⟩).2 with aa:=(aj ⟨26,0,[]⟩ ⟨[],[],0,0⟩).1});have C:(i9 f).vars=Y1++Y2:=by
  show(iS _ _).vars=_;rw[b1,aI];rfl
 have hst0:fR U (E9.mk ⟨k,G,st,I⟩ fun _=>none) p.ab (i9 f).aa m:=by
  have e1:(i9 f).aa=(fG [] ⟨26,0,[]⟩:Nat):=by
   show(iS _ _).aa=_;rw[b3,cp];rfl
  rw[e1];exact⟨st,zjN hU hw (e:=E9.mk ⟨k,G,st,I⟩ fun _=>none) (fI (s:=⟨[],[],0,0⟩) ((dO.trans b4).trans p0)),hst⟩
 obtain⟨d1,d2⟩:=Wz f.params I [] vs h1 (List.Nodup.sublist (List.sublist_append_left _ _) hnn);have hvr0:VaR U (E9.mk ⟨k,G,st,I⟩ fun _=>none) (bu p f) (i9 f).vars vs m:=by
  rw[C];refine⟨by show _=(f.params++f.aK).length;simp[a6,b2],fun i y L hi J=>?_⟩;have V:(f.params++f.aK)[i]?=some L:=J;by_cases ci:i<f.params.length
  .rw[nQ ac]at hi V;obtain⟨j,rfl,hj⟩:=cI i y hi;obtain⟨a,e1,e2⟩:=d2 i L V;have hj2:(iS f.aK.length (gH f.params.length 0 { (aj ⟨26,0,[]⟩ ⟨[],[],0,0⟩).2 with aa:=(aj ⟨26,0,[]⟩ ⟨[],[],0,0⟩).1})).l[j]?=some ⟨2,(0+i:Nat),[]⟩:=NN b4 hj;have Y:(E9.mk ⟨k,G,st,I⟩ fun _=>none).x.g.af[j]?=some ⟨2,(i:Nat),[]⟩:=by
    rw[NN p0 hj2,bR]
   exact⟨a,zjM hU hw Y e1,fun _=>⟨e2.symm,har a (cV e1)⟩⟩
  .have hnp:L∉f.params:=fun O=>by
    obtain⟨t,ht⟩:=kT O;have htl:=jg ht;have:t=i:=IQ hnn (s:=L) (by show(f.params++f.aK)[t]?=_;grind) J;omega
   rw[tf ac]at hi;obtain⟨j,rfl,hj⟩:=b5 _ y hi;have Y:(E9.mk ⟨k,G,st,I⟩ fun _=>none).x.g.af[j]?=some ⟨1,0,[]⟩:=NN p0 hj;exact⟨0,Bq hU hw Y,fun _=>⟨by rw[d1 L hnp];rfl,Bn⟩⟩
 obtain⟨x1,x2⟩:=I2 f z _ (fun _=>False) N f.body (i9 f) s vs m rb hw hb ac g1 g2 ac (fun t ht=>ht.elim) q1 ps hst0 hvr0 h2;obtain⟨⟨w,⟨qv,dI,w1'⟩,w2⟩,st',⟨qs,w3,w3'⟩,w4⟩:=vd hU hw hc N n' f.value s v rb.1 rb.2 r hv q2 pv x1 x2 h3;refine⟨st',if st'.ed=0 then qv.v else 0,.fn (q:=qs) (q2:=qv) aU w3' (fun _=>aU) rfl,w4,fun c0=>?_⟩;rw[ai (by rw[w4.ed];exact c0),w1'];exact w2 c0
def zkG:∀C:Nat,NJ p U N C/\Bv p U C/\NK p U C/\NL p U C:=by
 intro C;induction C using Nat.strongRecOn with
 |ind C ih=>
  cases C with
  |zero=>
   refine⟨fun k f G I m r st _ _ _ _ _ h=>DJ,fun f _ e A n l s r vs m J _ _ _ _ _ _ _ _ _ _ _ h=>A1,fun f _ e A n l s r vs m J _ _ _ _ _ _ _ _ _ _ _ _ h=>A0,fun f _ e A n l s r vs m J _ _ _ _ _ _ _ _ _ _ _ _ _ h=>A2⟩
  |succ n=>
   obtain⟨c1,c2,c3,c4⟩:=ih n ac;exact⟨zkF hP c2,zkC hP c3 c2,zkD hP c2 c4 c1,zkE hP fun k z=>(ih k ac).2.1⟩
end
end Go.Proofs.YtbflaciihaijgaaGreat
namespace Go.Ab
set_option maxRecDepth 20000
open Go
variable{J:Type}{c:Prop}{p:Pr}{n:Nat}{k:Int}{s t:MS}{r:Int×MS}
def kO(a b:Option J):Prop:=∀r,a=some r->b=some r
def kO.refl(a:Option J):kO a a:=fun _ h=>h
def x8:=@kO.refl
def kO.none(b:Option J):kO (Option.none:Option J) b:=fun _ h=>by cases h
def kO.bind{J β:Type}{a C:Option J}{f g:J->Option β}(j:kO a C)(m:∀x,kO (f x) (g x)):kO (a.bind f) (C.bind g):=fun r h=>by
 obtain⟨x,I,z⟩:=aC.1 h;rw[j x I];exact m x r z
def Bw:=@kO.bind
theorem kO.ite{Z:Type}[Decidable c]{a C b J:Option Z}(j:kO a C)(m:kO b J):kO (if c then a else b) (if c then C else J):=by
 grind
def Ew:=@kO.ite
theorem Ey:∀(n:Nat) (x:Ex) (vs:List (aY×Int)) (s:MS),kO (eL n x vs s) (eL (n+1) x vs s)
 |0,x,vs,s=>kO.none _
 |n+1,x,vs,s=>by
  have Z:=Ey n;unfold eL;repeat' (first|exact x8 _|exact Z _ _ _|apply Ew|apply Bw|intro _)
theorem WA(n:Nat):∀(l:qM) (vs:List (aY×Int)) (s:MS),kO (j8 n l vs s) (j8 (n+1) l vs s)
 |[],vs,s=>x8 _
 |x::l,vs,s=>by
  have Z:=WA n l;unfold j8;repeat' (first|exact x8 _|exact Z _ _|exact Ey _ _ _ _|apply Bw|intro _)
theorem WB(p:Pr)(fi:List (aY×Int)):∀n:Nat,
 (∀x vs s,kO (jS p fi n x vs s) (jS p fi (n+1) x vs s))/\(∀l vs s,kO (fL p fi n l vs s) (fL p fi (n+1) l vs s)) /\
 (∀x vs s,kO (fE p fi n x vs s) (fE p fi (n+1) x vs s))/\(∀k al s,kO (fM p fi n k al s) (fM p fi (n+1) k al s))
 |0=>⟨fun x vs s r h=>A0,fun l vs s r h=>A1,fun x vs s r h=>A2,fun k al s r h=>DJ⟩
 |n+1=>by
  obtain⟨O,V,L,Y⟩:=WB p fi n;refine⟨fun x vs s=>?_,fun l vs s=>?_,fun x vs s=>?_,fun k al s=>?_⟩
  .unfold jS;repeat' (first|exact x8 _|exact Ey _ _ _ _|exact WA _ _ _ _|exact V _ _ _|exact L _ _ _|exact Y _ _ _|apply Ew|apply Bw|intro _)
  .unfold fL;cases l with
   |nil=>exact x8 _
   |cons x l=>
    simp only;repeat' (first|exact x8 _|exact O _ _ _|exact V _ _ _|apply Ew|apply Bw|intro _)
  .unfold fE;repeat' (first|exact x8 _|exact Ey _ _ _ _|exact V _ _ _|exact L _ _ _|apply Ew|apply Bw|intro _)
  .unfold fM;repeat' (first|exact x8 _|exact Ey _ _ _ _|exact V _ _ _|apply Ew|apply Bw|intro _)
theorem Ez{p:Pr}{fi:List (aY×Int)}{n:Nat}{k:Int}{al:qA}{s:MS}{r:Int×MS}(h:fM p fi n k al s=some r):∀d,fM p fi (n+d) k al s=some r
 |0=>h
 |d+1=>(WB p fi (n+d)).2.2.2 _ _ _ _ (Ez h d)
theorem zkH{fi:List (aY×Int)}{m:Nat}{al:qA}{z:Int×MS}(h:fM p fi n k al s=some r)(C:fM p fi m k al s=some z):r=z:=by
 have a:=Ez h m;have b:=Ez C n
 grind
def ea(s:MS):Prop:=s.a4=0\/s.a4=2\/s.a4=3
def hZ(s:MS)(A:Option (J×MS)):Prop:=ea s->∀q,A=some q->ea q.2
def hZ.none(s:MS):hZ s (Option.none:Option (J×MS)):=fun _ _ h=>by cases h
def hZ.pure(s:MS)(v:J):hZ s (some (v,s)):=fun V q h=>by cases h;exact V
def zO:=@hZ.pure
def hZ.cz(v:J)(h:ea s->ea t):hZ s (some (v,t)):=fun V q e=>cU
def ED:=@hZ.cz
def hZ.trans{J:Type}{A:Option (J×MS)}(h:ea s->ea t)(k:hZ t A):hZ s A:=fun V q e=>k (h V) q e
def NO:=@hZ.trans
def hZ.bind{J β:Type}{A:Option (J×MS)}{f:J×MS->Option (β×MS)}(h:hZ s A)(k:∀r,hZ r.2 (f r)):hZ s (A.bind f):=fun V q e=>by
 obtain⟨x,I,z⟩:=aC.1 e;exact k x (h V x I) q z
def Bx:=@hZ.bind
def hZ.dP{β:Type}{A:Option Ex}{f:Ex->Option (β×MS)}(k:∀r,hZ s (f r)):hZ s (A.bind f):=fun V q e=>by
 obtain⟨x,I,z⟩:=aC.1 e;exact k x V q z
theorem hZ.ite{J:Type}[Decidable c]{A B:Option (J×MS)}(h:hZ s A)(k:hZ s B):hZ s (if c then A else B):=by
 grind
def EE:=@hZ.ite
def NP(c:Int)(s:MS)(h:ea s):ea (fo c s):=by
 unfold fo;split
 .exact .inr (.inl rfl)
 .exact h
def IX(s:MS)(h:ea s):ea (dw s):=by
 unfold dw;split
 .exact h
 .split
  .exact .inr (.inr rfl)
  .exact h
def zkI(v:Int)(s:MS)(h:ea s):ea (nu v s):=by
 unfold nu;split
 .exact h
 .exact h
def zkJ(nm:aY)(a v:Int)(s:MS)(V:ea s):ea (kG nm a v s):=by
 unfold kG;simp only;have h:ea (if sB a (iZ s.cells nm)=true then fo 2 s else s):=by
  split
  .exact NP _ _ V
  .exact V
 generalize (if sB a (iZ s.cells nm)=true then fo 2 s else s)=t at h;split
 .exact h
 .exact h
theorem EF:∀(n:Nat) (x:Ex) (vs:List (aY×Int)) (s:MS),hZ s (eL n x vs s)
 |0,x,vs,s=>.none s
 |n+1,x,vs,s=>by
  have Z:=EF n;unfold eL;repeat' (first|exact zO _ _|exact Z _ _ _|exact ED _ (NP _ _)|apply EE|apply Bx|apply hZ.dP|intro _)
theorem WC(n:Nat):∀(l:qM) (vs:List (aY×Int)) (s:MS),hZ s (j8 n l vs s)
 |[],vs,s=>zO _ _
 |x::l,vs,s=>by
  have Z:=WC n l;unfold j8;repeat' (first|exact zO _ _|exact Z _ _|exact EF _ _ _ _|apply Bx|intro _)
theorem WD(p:Pr)(fi:List (aY×Int)):∀n:Nat,
 (∀x vs s,hZ s (jS p fi n x vs s))/\(∀l vs s,hZ s (fL p fi n l vs s))/\(∀x vs s,hZ s (fE p fi n x vs s))/\(∀k al s,hZ s (fM p fi n k al s))
 |0=>⟨fun x vs s _ r h=>A0,fun l vs s _ r h=>A1,fun x vs s _ r h=>A2,fun k al s _ r h=>DJ⟩
 |n+1=>by
  obtain⟨O,V,L,Y⟩:=WD p fi n;refine⟨fun x vs s=>?_,fun l vs s=>?_,fun x vs s=>?_,fun k al s=>?_⟩
  .unfold jS;repeat' (first|exact zO _ _|exact ED _ (NP _ _)|exact ED _ (IX _)|exact ED _ (zkI _ _)|exact ED _ (zkJ _ _ _ _)|exact EF _ _ _ _|exact WC _ _ _ _|exact V _ _ _|exact L _ _ _|exact NO (IX _) (Y _ _ _)|apply EE|apply Bx|intro _)
  .unfold fL;cases l with
   |nil=>exact zO _ _
   |cons x l=>
    simp only;repeat' (first|exact zO _ _|exact O _ _ _|exact V _ _ _|apply EE|apply Bx|intro _)
  .unfold fE;repeat' (first|exact zO _ _|exact EF _ _ _ _|exact NO (IX _) (V _ _ _)|exact NO (IX _) (L _ _ _)|exact L _ _ _|apply EE|apply Bx|intro _)
  .unfold fM;refine EE (.none _) fun Z q e=>?_;obtain⟨f,z,e⟩:=aC.1 e;obtain⟨vs,j,e⟩:=aC.1 e;exact Bx (V _ _ _) (fun r=>EF _ _ _ _) Z q e
def zkK{fi:List (aY×Int)}{al:qA}(h:fM p fi n k al s=some r)(L:s.a4=0):ea r.2:=(WD p fi n).2.2.2 k al s (.inl L) r h
end Go.Ab
namespace Go.Proofs.YtbflaciihaijgaaGreat
set_option maxRecDepth 20000
open Go Go.Ab Proofs.Tryz
variable(ρ:Nat->Int)
variable{a:A9}{b c H H' Z:Hp}{l:qA}{p n q j t:Nat}{s:S9}{tb:qH}{i:Int}{vs:qB}{P:Program}
section
structure zd2 (S:Nat->Prop) (H H':Hp):Prop where
 next:H.next<=H'.next
 get:∀q,S q->q<H.next->H'.get q=H.get q
def zd2.refl(S:Nat->Prop)(H:Hp):zd2 S H H:=⟨aG _,fun _ _ _=>rfl⟩
def zd2.trans{S:Nat->Prop}{a:Hp}(h:zd2 S a b)(k:zd2 S b c):zd2 S a c:=⟨dt h.next k.next,fun q j m=>(k.get q j (iy m h.next)).trans (h.get q j m)⟩
def zd2.sub{S T:Nat->Prop}{a:Hp}(h:zd2 T a b)(V:∀q,q<a.next->S q->T q):zd2 S a b:=⟨h.next,fun q j m=>h.get q (V q m j) m⟩
def vk(S:Nat->Prop)(H:Hp)(v:AV)(l:qA):Prop:=∃q Y,v=.sl q 0 l.length 1/\S q/\q<H.next/\H.get q=some (.cells (cM l) Y true)/\l.length<2^30
def sX(S:Nat->Prop)(H:Hp)(v:AV)(cs:List qA):Prop:=(cs=[]/\v=.ao)\/∃q Y vs,v=.sl q 0 vs.length 1/\S q/\q<H.next/\H.get q=some (.cells vs Y true)/\vs.length<2^30/\bN (vk S H) vs cs
def mr(S:Nat->Prop)(H:Hp):AV->qA->Prop
 |v,[]=>v=.aF
 |v,n::l=>∃q w,v=.ptr q 0/\S q/\q<H.next/\H.get q=some (.cells [.int .i64 n,w] 0 true)/\mr S H w l
structure St9 (S:Nat->Prop) (H:Hp) (p:Nat) (cv ov:AV) (s:S9):Prop where
 own:S p
 lt:p<H.next
 get:H.get p=some (.cells [cv,ov,.int .i64 s.a2,.int .i64 s.ed,.int .i64 s.aT,.int .i64 s.bI] 0 true)
 cells:sX S H cv s.cells
 out:mr S H ov s.out
def eI(S:Nat->Prop)(H:Hp)(v:AV)(s:S9):Prop:=∃p cv O,v=.ptr p 0/\St9 S H p cv O s
def lh(S:Nat->Prop)(H:Hp)(v:AV):Option S9->Prop
 |none=>v=.aF
 |some s=>eI S H v s
def IY(S:Nat->Prop)(H:Hp)(row:qB)(r:R9):Prop:=∃z,row=[.bool r.k,.int .i64 r.v,z,.aF]/\lh S H z r.s
def vk.keep{S:Nat->Prop}{v:AV}(h:vk S H v l)(k:zd2 S H H'):vk S H' v l:=by
 obtain⟨q,Y,e,j,m,C,Z⟩:=h;exact⟨q,Y,e,j,iy m k.next,IU,Z⟩
def sX.keep{S:Nat->Prop}{v:AV}{l:List qA}(h:sX S H v l)(k:zd2 S H H'):sX S H' v l:=by
 rcases h with h|⟨q,Y,vs,e,j,m,C,Z,z⟩
 .exact .inl h
 .exact .inr ⟨q,Y,vs,e,j,iy m k.next,IU,Z,z.mono fun a b h=>h.keep k⟩
theorem mr.keep{S:Nat->Prop}{H H':Hp}(k:zd2 S H H'):∀{l:qA}{v:AV},mr S H v l->mr S H' v l
 |[],_,h=>h
 |n::l,_,⟨q,w,e,h1,h2,h3,h4⟩=>⟨q,w,e,h1,iy h2 k.next,by rw[k.get q h1 h2];exact h3,mr.keep k h4⟩
def St9.keep{S:Nat->Prop}{cv ov:AV}(h:St9 S H p cv ov s)(k:zd2 S H H'):St9 S H' p cv ov s:=
 ⟨h.own,iy h.lt k.next,by rw[k.get p h.own h.lt];exact h.get,h.cells.keep k,h.out.keep k⟩
def eI.keep{S:Nat->Prop}{v:AV}(h:eI S H v s)(k:zd2 S H H'):eI S H' v s:=by
 obtain⟨p,cv,O,e,h⟩:=h;exact⟨p,cv,O,e,h.keep k⟩
def x9:=@eI.keep
def lh.keep{S:Nat->Prop}{v:AV}:∀{s:Option S9},lh S H v s->zd2 S H H'->lh S H' v s
 |none,h,_=>h
 |some _,h,k=>x9 h k
def mr.one{S:Nat->Prop}{H:Hp}{v:AV}:∀{l:qA},mr S H v l->AV.one v=true/\v.cells=[v]
 |[],h=>by rw[show v=.aF from h];exact⟨rfl,rfl⟩
 |n::l,h=>by obtain⟨q,w,rfl,_⟩:=h;exact⟨rfl,rfl⟩
def sX.one{S:Nat->Prop}{H:Hp}{v:AV}{l:List qA}(h:sX S H v l):AV.one v=true/\v.cells=[v]:=by
 rcases h with⟨_,rfl⟩|⟨q,Y,vs,rfl,_⟩<;>exact⟨rfl,rfl⟩
theorem eI.one{S:Nat->Prop}{H:Hp}{v:AV}{s:S9}(h:eI S H v s):AV.one v=true:=by
 obtain⟨p,cv,O,rfl,_⟩:=h;rfl
def lh.one{S:Nat->Prop}{H:Hp}{v:AV}:∀{s:Option S9},lh S H v s->AV.one v=true
 |none,h=>by rw[show v=.aF from h];rfl
 |some _,h=>eI.one h
def lh.dA{S:Nat->Prop}{v:AV}:∀{s:Option S9},lh S H v s->AV.one v=true/\v.cells=[v]
 |none,h=>by rw[show v=.aF from h];exact⟨rfl,rfl⟩
 |some _,h=>by obtain⟨p,cv,O,rfl,_⟩:=(h:eI S H v _);exact⟨rfl,rfl⟩
theorem IY.len{S:Nat->Prop}{row:qB}{r:R9}(h:IY S H row r):row.length=4:=by
 obtain⟨z,rfl,_⟩:=h;rfl
theorem Rows9.len{S:Nat->Prop}{H:Hp}:∀{rows:List qB}{res:List R9},bN (IY S H) rows res->∀x∈rows,x.length=4
 |[],[],_,x,I=>by cases I
 |r::rows,t::res,h,x,I=>by
  rcases eJ.1 I with rfl|I
  .exact h.1.len
  .exact Rows9.len h.2 x I
def vk.sub{S T:Nat->Prop}{v:AV}(h:vk S H v l)(hS:∀q,q<H.next->S q->T q):vk T H v l:=by
 obtain⟨q,Y,e,j,m,C⟩:=h;exact⟨q,Y,e,hS q m j,m,C⟩
def sX.sub{S T:Nat->Prop}{v:AV}{l:List qA}(h:sX S H v l)(hS:∀q,q<H.next->S q->T q):sX T H v l:=by
 rcases h with h|⟨q,Y,vs,e,j,m,C,Z,z⟩
 .exact .inl h
 .exact .inr ⟨q,Y,vs,e,hS q m j,m,C,Z,z.mono fun a b h=>h.sub hS⟩
theorem mr.sub{S T:Nat->Prop}{H:Hp}(hS:∀q,q<H.next->S q->T q):∀{l:qA}{v:AV},mr S H v l->mr T H v l
 |[],_,h=>h
 |n::l,_,⟨q,w,e,h1,h2,h3,h4⟩=>⟨q,w,e,hS q h2 h1,h2,h3,mr.sub hS h4⟩
def eI.sub{S T:Nat->Prop}{v:AV}(h:eI S H v s)(hS:∀q,q<H.next->S q->T q):eI T H v s:=by
 obtain⟨p,cv,O,e,h⟩:=h;exact⟨p,cv,O,e,hS p h.lt h.own,h.lt,h.get,h.cells.sub hS,mr.sub hS h.out⟩
def lh.sub{S T:Nat->Prop}{H:Hp}{v:AV}(hS:∀q,q<H.next->S q->T q):∀{s:Option S9},lh S H v s->lh T H v s
 |none,h=>h
 |some _,h=>eI.sub h hS
def zP(u:Un)(j:AV)(f:Int)(sv:AV)(args:qA)(O n:Nat):qB:=[.aE (u.ab.map Ar.cells),.aE (u.funcs.map Gr.cells),j,.int .i64 f,sv,hY args,.sl O 0 n 4,.aF,.aF,.aF,.aF,.aF,.aF,.aF,.aF,.aF,.aF,.aF,.aF,.aF,.aF,.aF,.aF]
structure Cx9 where
 S:Nat->Prop
 xp:Nat
 rp:Nat
 u:Un
 hv:AV
 f:Nat
 g:Gr
 sv:AV
 start:S9
 args:qA
structure Fr9 (c:Cx9) (H:Hp) (rows:List qB) (res:List R9):Prop where
 x:H.get c.xp=some (.cells (zP c.u c.hv c.f c.sv c.args c.rp res.length) 0 true)
 r:H.get c.rp=some (.cells rows.flatten 0 true)
 lx:c.xp<H.next
 lr:c.rp<H.next
 st:eI c.S H c.sv c.start
 rows:bN (IY c.S H) rows res
 up:∀q,H.next<=q->c.S q
 len:res.length=c.g.af.length
def Fr9.get{c:Cx9}{H:Hp}{rows:List qB}{Y:List R9}(h:Fr9 c H rows Y){k:Int}{r:R9}(z:GG Y k=some r):∃Z,0<=k/\k<Y.length/\rows[k.toNat]?=some [.bool r.k,.int .i64 r.v,Z,.aF]/\lh c.S H Z r.s/\rows.flatten.drop (k.toNat*4)=[.bool r.k,.int .i64 r.v,Z,.aF]++(rows.drop (k.toNat+1)).flatten:=by
 unfold GG at z;split at z
 .rename_i L;have J:=bN.len h.rows;have C:k.toNat<Y.length:=by
   by_cases c:k.toNat<Y.length
   .exact c
   .rw[ng ac]at z;cases z
  have hr:rows[k.toNat]?=some (rows[k.toNat]' ac):=aX ac;obtain⟨Z,e,V⟩:=bN.get h.rows hr z;refine⟨Z,L,ac,by rw[hr,e],V,?_⟩;have:=aX (l:=rows) (i:=k.toNat) ac;have O:=Rows9.len h.rows;have j:∀(rows:List qB) (i:Nat) (r:qB),(∀x∈rows,x.length=4)->rows[i]?=some r->rows.flatten.drop (i*4)=r++(rows.drop (i+1)).flatten:=by
   intro rows;induction rows with
   |nil=>intro i r _ e;simp at e
   |cons a rows ih=>
    intro i r h e;have m:=h a dM;cases i with
    |zero=>simp only[nH]at e;subst e;simp
    |succ i=>
     rw[pF,show(i+1)*4=a.length+i*4 by omega,IV,ih i r (fun x I=>h x (dh _ I)) yY];rfl
  exact j rows _ _ O (by rw[hr,e])
 .cases z
def tyEvA.tyF:=ad @dm (ad @cG (ad @l7 (ad @kJ (ad @jJ (ad @nF (ad @oR (ad @oS (ad @pM (ad @oT (ad @oU (ad @oV (ad @ey (ad @ik (ad @rQ (ad @pL (@rR))))))))))))))))
open tyEvA
noncomputable def IZ:=qd (M:=14) f177.eq_1
noncomputable def I0:=qd (M:=25) f178.eq_1
noncomputable def By:=qd (M:=27) f179.eq_1
def I5(f:FuncId):Bool:=Nat.beq f 177||Nat.beq f 178||Nat.beq f 136||Nat.beq f 138||Nat.beq f 179||Nat.beq f 204||Nat.beq f 181||Nat.beq f 137||Nat.beq f 90||Nat.beq f 50||Nat.beq f 48||Nat.beq f 47||Nat.beq f 49
def Bz(x:Int×Int):qB:=[.int .i64 x.1,.int .i64 x.2]
def zkL(x y:Int×Int)(h:Bz x=Bz y):x=y:=by
 simp only[Bz,eX,AV.int.injEq,aV,j6]at h;exact sK h.1 h.2
def BA(x:Int×Int×Int):qB:=[.int .i64 x.1,.int .i64 x.2.1,.int .i64 x.2.2]
def zkM(x y:Int×Int×Int)(h:BA x=BA y):x=y:=by
 simp only[BA,eX,AV.int.injEq,aV,j6]at h;exact sK h.1 (sK h.2.1 h.2.2)
theorem WE:Std (aA pls []) where
 plain f _:=gY (fun _=>rfl) rfl
 keep _:=rfl
 cD:=rfl
def zkN(x:Int×Int):bA prog ρ 141 (Bz x) (.int .i64 (sA x.1 x.2)):=fF fit (pls:=pls) (l:=[]) trivial (.cons (.int _ _) (.cons (.int _ _) .nil)) (.int _ _) (a8 (fun v H' h=>h.1) (zkq WE x.1 x.2 bZ))
def zkO(x:Int×Int×Int):bA prog ρ 142 (BA x) (.int .i64 (lZ x.1 x.2.1 x.2.2)):=fF fit (pls:=pls) (l:=[]) trivial (.cons (.int _ _) (.cons (.int _ _) (.cons (.int _ _) .nil))) (.int _ _) (a8 (fun v H' h=>h.1) (zks WE x.1 x.2.1 x.2.2 bZ))
noncomputable def NQ:En:=⟨141,false,co (fun _=>True) Bz fun x=>.int .i64 (sA x.1 x.2)⟩
def zkP:de prog ρ NQ:=dA fun x _=>zkN ρ x
noncomputable def NR:En:=⟨142,false,co (fun _=>True) BA fun x=>.int .i64 (lZ x.1 x.2.1 x.2.2)⟩
def zkQ:de prog ρ NR:=dA fun x _=>zkO ρ x
structure EvT (tb:qH):Prop where
 pl:∀f,I5 f=true->(∀ar,dU tb f ar=none)/\mc tb f=false
 un:∀ar,dU tb 141 ar=NQ.sp ar
 bi:∀ar,dU tb 142 ar=NR.sp ar
def EvT.plain(h:EvT tb){f:FuncId}(z:I5 f=true):zd0 (aA pls tb) f:=gY (h.pl f z).1 (h.pl f z).2
def EvT.kUn(h:EvT tb)(op a:Int)(H:Hp):aR prog (aA pls tb) 141 [.int .i64 op,.int .i64 a] H fun v H'=>v=.int .i64 (sA op a)/\H'=H:=cQ (enc:=Bz) (ok:=fun _=>True) (out:=fun x=>.int .i64 (sA x.1 x.2)) zkL (x:=(op,a)) (h.un _) trivial
def EvT.kBi(h:EvT tb)(op a b:Int)(H:Hp):aR prog (aA pls tb) 142 [.int .i64 op,.int .i64 a,.int .i64 b] H fun v H'=>v=.int .i64 (lZ op a b)/\H'=H:=cQ (enc:=BA) (ok:=fun _=>True) (out:=fun x=>.int .i64 (lZ x.1 x.2.1 x.2.2)) zkM (x:=(op,a,b)) (h.bi _) trivial
structure At9 (c:Cx9) (n:Nat) (r:R9) (sv:AV) (H:Hp):Prop where
 l0:eP prog H 4 (.ptr c.rp (n*4))=some (.bool r.k)
 l1:eP prog H 2 (.ptr c.rp (n*4+1))=some (.int .i64 r.v)
 l2:eP prog H 106 (.ptr c.rp (n*4+2))=some sv
 lr:eP prog H 162 (.ptr c.rp (n*4))=some (.agg [.bool r.k,.int .i64 r.v,sv,.aF])
theorem Fr9.at{c:Cx9}{rows:List qB}{Y:List R9}(Z:Fr9 c H rows Y){r:R9}(V:GG Y n=some r):∃z,n<Y.length/\lh c.S H z r.s/\dK prog 155 (.sl c.rp 0 Y.length 4) (.int .i64 (n:Int))=some (.ptr c.rp (n*4))/\∀H',Fr9 c H' rows Y->At9 c n r z H':=by
 obtain⟨z,h0,h1,hr,I,hd⟩:=Z.get V;rw[eM]at hr hd;refine⟨z,ac,I,Wv,fun H' C=>?_⟩;have J:=C.r;obtain⟨rk,L,rs⟩:=r;have m:=I.one;have j:rows.flatten.drop (n*4+1)=[.int .i64 L,z,.aF]++(rows.drop (n+1)).flatten:=Eu;have d2:rows.flatten.drop (n*4+2)=[z,.aF]++(rows.drop (n+1)).flatten:=Eu;have p0:∀(O:qB) (o:Nat),sy prog 4 o (some (.cells O 0 true))=O[o]?:=fun _ _=>ax;have p1:∀(O:qB) (o:Nat),sy prog 2 o (some (.cells O 0 true))=O[o]?:=fun _ _=>ax;have p2:∀(O:qB) (o:Nat),sy prog 106 o (some (.cells O 0 true))=O[o]?:=fun _ _=>ax;have p3:∀(O:qB) (o:Nat),sy prog 162 o (some (.cells O 0 true))=cr 4 (O.drop o):=fun _ _=>ax;have e:∀(o:Nat),rows.flatten[o]?=(rows.flatten.drop o)[0]?:=fun o=>by rw[wW,wY]
 refine⟨?_,?_,?_,?_⟩
 .rw[nr,J,p0,e,hd];rfl
 .rw[nr,J,p1,e,j];rfl
 .rw[nr,J,p2,e,d2];rfl
 .rw[nr,J,p3,hd];rfl
def WF{S:Nat->Prop}{cv:AV}{cs:List qA}(h:sX S H cv cs){m:Nat}(L:cs[m]?=some l):∃q Y vs q2 Z,cv=.sl q 0 vs.length 1/\m<vs.length/\vs.length=cs.length/\S q/\q<H.next/\H.get q=some (.cells vs Y true)/\vs.length<2^30/\bN (vk S H) vs cs/\vs[m]?=some (.sl q2 0 l.length 1)/\S q2/\q2<H.next/\H.get q2=some (.cells (cM l) Z true)/\l.length<2^30:=by
 rcases h with⟨rfl,_⟩|⟨q,Y,vs,rfl,h1,h2,h3,h4,z⟩
 .simp at L
 .have e:=bN.len z;have hm:m<cs.length:=by
   by_cases c:m<cs.length
   .exact c
   .rw[ng ac]at L;cases L
  have j:vs[m]?=some vs[m]:=aX ac;obtain⟨q2,Z,V,O,J,I,C⟩:=bN.get z j L;exact⟨q,Y,vs,q2,Z,rfl,ac,e,h1,h2,h3,h4,z,by rw[j,V],O,J,I,C⟩
def NS{m:Nat}(h:m<n):dK prog 107 (.sl q 0 n 1) (.int .i64 (m:Int))=some (.ptr q m):=by rw[pG underlying107 CZ h];simp
def ya{m:Nat}(h:m<n):dK prog 27 (.sl q 0 n 1) (.int .i64 (m:Int))=some (.ptr q m):=by rw[pG underlying27 AB h];simp
theorem zkR(h:j<l.length):(cM l)[j]?=some (.int .i64 (l.getD j 0)):=by
 unfold cM;rw[fd,dC,aX h];rfl
section
variable {tb:qH} (hT:EvT tb) {c:Cx9} {H:Hp} {rows:List qB} {res:List R9}
include hT
def znH(Z:Fr9 c H rows res){k:Int}{r:R9}(z:GG res k=some r):aR prog (aA pls tb) 177 [.ptr c.xp 0,.int .i64 k] H fun v H'=>v=.int .i64 (if r.k=true then -1 else k)/\H'=H:=by
 have hw:zd0 (aA pls tb) 177:=hT.plain cN;obtain⟨n,rfl⟩:∃n:Nat,k=n:=⟨k.toNat,by obtain⟨_,V,_⟩:=Z.get z;omega⟩;obtain⟨O,J,I,C,Y⟩:=Z.at z;have L:=Z.x;unfold zP at L;have fD:=(Y H Z).l0;obtain⟨j,m,rs⟩:=r;cases j<;>
 .refine qe hw func177 IZ ?_;dsimp only[IZ,qd,a1,Nat.reduceAdd];repeat' (first
   |(apply ay ?_;clear hK K)|apply a9 ?_|(apply bU ?_ ?_<;>(intro hb hbp;try(cases hb;done)))|(apply az fun K hK=>?_)|fail)
  all_goals refine qi ?_
  exact⟨rfl,trivial⟩
def zkS{S:Nat->Prop}{v:AV}(hS:eI S H v s){a x:Int}(h:yP s a i=some x):aR prog (aA pls tb) 179 [v,.int .i64 a,.int .i64 i] H fun w H'=>w=.int .i64 x/\H'=H:=by
 have hw:zd0 (aA pls tb) 179:=hT.plain cN;obtain⟨p,cv,ov,rfl,hp⟩:=hS;unfold yP at h;split at h
 .rename_i z;obtain⟨m,rfl⟩:∃m:Nat,a=m:=⟨a.toNat,ac⟩;rw[eM]at h;obtain⟨l,L,I⟩:=aC.1 h;simp only[am]at I;obtain⟨q,Y,vs,q2,Z,rfl,V,O,_,_,gq,_,_,gv,_,_,g2,_⟩:=WF hp.cells L;clear O;have gp:=hp.get;have x1:=NS (q:=q) V;clear h L;by_cases J:i<0
  .rw[ai (.inl J)]at I;subst I;refine qe hw func179 By ?_;dsimp only[By,qd,a1,Nat.reduceAdd];repeat' (first
    |(apply ay ?_;clear hK K)|apply aT ?_|(apply cR ?_ ?_<;>(intro hg hgp;try(cases hg;done)))|(apply a2 ?_ ?_<;>(intro hb hbp;try(cases hb;done)))|(apply az fun K hK=>?_)|fail)
   all_goals refine qi ?_
   first|exact⟨trivial,trivial⟩|exact⟨rfl,trivial⟩
  obtain⟨j,rfl⟩:∃j:Nat,i=j:=⟨i.toNat,ac⟩;by_cases C:(l.length:Int)<=j
  .rw[ai (.inr C)]at I;subst I;refine qe hw func179 By ?_;dsimp only[By,qd,a1,Nat.reduceAdd];repeat' (first
    |(apply ay ?_;clear hK K)|apply aT ?_|(apply cR ?_ ?_<;>(intro hg hgp;try(cases hg;done)))|(apply a2 ?_ ?_<;>(intro hb hbp;try(cases hb;done)))|(apply az fun K hK=>?_)|fail)
   all_goals refine qi ?_
   first|exact⟨trivial,trivial⟩|exact⟨rfl,trivial⟩
  .rw[ah ac,eM]at I;subst I;have x2:=ya (q:=q2) (n:=l.length) (m:=j) ac;have gj:=zkR (l:=l) (j:=j) ac;refine qe hw func179 By ?_;dsimp only[By,qd,a1,Nat.reduceAdd];repeat' (first
    |(apply ay ?_;clear hK K)|apply aT ?_|(apply cR ?_ ?_<;>(intro hg hgp;try(cases hg;done)))|(apply a2 ?_ ?_<;>(intro hb hbp;try(cases hb;done)))|(apply az fun K hK=>?_)|fail)
   all_goals refine qi ?_
   first|exact⟨trivial,trivial⟩|exact⟨rfl,trivial⟩
 .cases h
end
end
section
def tyEvB.tyF:=ad @dm (ad @cG (ad @kJ (ad @rQ (ad @pL (@rR)))))
open tyEvB
noncomputable def BB:=qd (M:=47) f204.eq_1
theorem zkT(l:qA):(cM l).all AV.one=true:=by
 rw[js];intro x I;obtain⟨n,_,rfl⟩:=so.1 I;rfl
theorem WG{S:Nat->Prop}{H:Hp}:∀{vs:qB}{O:List qA},bN (vk S H) vs O->vs.all AV.one=true
 |[],[],_=>rfl
 |v::vs,c::O,h=>by
  obtain⟨q,Y,rfl,_⟩:=h.1;rw[oX,WG h.2];rfl
def zkU{imm:Nat}(h:H.get q=some (.cells (cM l) imm true))(L:0<l.length)(j:l.length<2^30):dr prog false H 27 27 .ao (.sl q 0 l.length 1)=some (.sl H.next 0 l.length 1,H.alloc (.cells (cM l) 0 true)):=by
 obtain⟨n,J⟩:∃n,l.length=n+1:=⟨l.length-1,ac⟩;have I:gg H 1 (.sl q 0 l.length 1)=some (n+1,cM l):=by
  have:=uC (H:=H) (r:=q) (o:=0) (n:=l.length) (z:=1) (s:=1) h (by rw[gm,oE,vN];omega);rw[this,gm,je (by rw[vN];omega),J]
 have:=append_nil (P:=prog) (keep:=false) (H:=H) (t:=27) (u:=27) underlying27 AB GT GU ax I (zkT l) rfl ve ve;rw[this,<-J]
def zkV{imm:Nat}(h:H.get q=some (.cells vs imm true))(I:vs.all AV.one=true)(L:0<vs.length)(j:vs.length<2^30):dr prog false H 107 107 .ao (.sl q 0 vs.length 1)=some (.sl H.next 0 vs.length 1,H.alloc (.cells vs 0 true)):=by
 obtain⟨n,J⟩:∃n,vs.length=n+1:=⟨vs.length-1,ac⟩;have Z:gg H 1 (.sl q 0 vs.length 1)=some (n+1,vs):=by
  have:=uC (H:=H) (r:=q) (o:=0) (n:=vs.length) (z:=1) (s:=1) h M6;rw[this,gm,je ac,J]
 have:=append_nil (P:=prog) (keep:=false) (H:=H) (t:=107) (u:=107) underlying107 CZ Lw Ly ax Z I rfl ve ve;rw[this,<-J]
def NT{cs:qB}{v:AV}(h:j<cs.length):splice cs j [v]=cs.set j v:=by
 rw[RV,ai h];simp[splice]
def I6(x:Int)(hg:H.get q=some (.cells (cM l) 0 true))(I:j<l.length):jY prog H 2 (.ptr q j) (.int .i64 x)=some (H.set q (.cells (cM (l.set j x)) 0 true)):=by
 rw[yJ,hg,AB];show(if 1=1/\0<=j/\j+1<=(cM l).length/\[AV.int .i64 x].all AV.one=true then some (H.set q (.cells (splice (cM l) j [.int .i64 x]) 0 true))else none)=_;refine(ai ⟨rfl,eR _,by rw[vN];omega,rfl⟩).trans ?_;rw[NT (by rw[vN];exact I)];simp only[cM,xD]
def zkW(a b c d:Nat)(hg:H.get q=some (.cells vs 0 true))(I:j<vs.length):jY prog H 27 (.ptr q j) (.sl a b c d)=some (H.set q (.cells (vs.set j (.sl a b c d)) 0 true)):=by
 rw[yJ,hg,CZ];show(if 1=1/\0<=j/\j+1<=vs.length/\[AV.sl a b c d].all AV.one=true then some (H.set q (.cells (splice vs j [.sl a b c d]) 0 true))else none)=_;refine(ai ⟨rfl,eR _,ac,rfl⟩).trans ?_;rw[NT I]
theorem EG(a b c d e f:AV):cr 6 [a,b,c,d,e,f]=some (.agg [a,b,c,d,e,f]):=rfl
section
variable {tb:qH} (hT:EvT tb) {H:Hp}
include hT
theorem zkX{S:Nat->Prop}{v:AV}{s2:S9}(hS:eI S H v s)(J:∀q,H.next<=q->S q){a x:Int}(h:yQ s a i x=some s2):aR prog (aA pls tb) 204 [v,.int .i64 a,.int .i64 i,.int .i64 x] H fun w H'=>eI S H' w s2/\zd2 (fun _=>True) H H':=by
 have hw:zd0 (aA pls tb) 204:=hT.plain cN;have hkeep:(aA pls tb).keep 204=false:=rfl;have O:=hS;have np:∀E:aw,aM E (.const (.pointer none))=some .aF:=fun _=>rfl;obtain⟨p,cv,ov,rfl,hp⟩:=hS;unfold yQ at h;split at h
 .rename_i ha;obtain⟨m,rfl⟩:∃m:Nat,a=m:=⟨a.toNat,ac⟩;rw[eM]at h;obtain⟨l,hl,Y⟩:=aC.1 h;simp only[am]at Y;obtain⟨q,imm,vs,q2,imm2,rfl,C,he,s1,s2',gq,z1,al,gv,s3,s4,g2,z2⟩:=WF hp.cells hl;have gp:=hp.get;have x1:=NS (q:=q) C;clear h;by_cases h0:i<0
  .rw[ai (.inl h0)]at Y;subst Y;clear he;refine qe hw func204 BB ?_;dsimp only[BB,qd,a1,Nat.reduceAdd];repeat' (first
    |(apply ay ?_;clear hK K)|apply aT ?_|(apply cR ?_ ?_<;>(intro hg hgp;try(cases hg;done)))|(apply a2 ?_ ?_<;>(intro hb hbp;try(cases hb;done)))|(apply az fun K hK=>?_)|fail)
   all_goals refine qi ?_
   exact⟨O,zd2.refl _ _⟩
  obtain⟨j,rfl⟩:∃j:Nat,i=j:=⟨i.toNat,ac⟩;by_cases h1:(l.length:Int)<=j
  .rw[ai (.inr h1)]at Y;subst Y;clear he;refine qe hw func204 BB ?_;dsimp only[BB,qd,a1,Nat.reduceAdd];repeat' (first
    |(apply ay ?_;clear hK K)|apply aT ?_|(apply cR ?_ ?_<;>(intro hg hgp;try(cases hg;done)))|(apply a2 ?_ ?_<;>(intro hb hbp;try(cases hb;done)))|(apply az fun K hK=>?_)|fail)
   all_goals refine qi ?_
   exact⟨O,zd2.refl _ _⟩
  .rw[ah ac]at Y;have x2:=ya (q:=H.next) (n:=l.length) (m:=j) ac;have ap1:=zkU g2 ac z2;have st1:=I6 (H:=H.alloc (.cells (cM l) 0 true)) (q:=H.next) (j:=j) x fw ac;have y1:(p == H.next)=false:=aZ (by have:=hp.lt;omega);have y2:(p == H.next+1)=false:=aZ (by have:=hp.lt;omega);obtain⟨o1,o2⟩:=hp.out.one;clear he;refine qe hw func204 BB ?_;dsimp only[BB,qd,a1,Nat.reduceAdd];have gh0:=@EG;repeat' (first
    |(apply ay ?_;clear hK K)|apply aT ?_|(apply cR ?_ ?_<;>(intro hg hgp;try(cases hg;done)))|(apply a2 ?_ ?_<;>(intro hb hbp;try(cases hb;done)))|(apply az fun K hK=>?_)|fail)
   generalize z:Hp.set (Hp.alloc (Hp.set (H.alloc _) _ _) _) _ _=I;have nb:H.next+2<=I.next:=NH
   have kb:∀r,r<H.next->I.get r=H.get r:=fun r hr=>by
    rw[<-z];simp only[aQ,aL,bK,aS,ah (show ¬r=H.next by omega),ah (show ¬r=H.next+1 by omega)]
   have gb0:I.get H.next=some (.cells (cM (l.set j x)) 0 true):=by
    rw[<-z];simp only[aQ,aL,bK,aS,ah (show ¬H.next=H.next+1 by omega),dG]
   have gb1:I.get (H.next+1)=some (.cells [.sl q 0 vs.length 1,ov,.int .i64 s.a2,.int .i64 s.ed,.int .i64 s.aT,.int .i64 s.bI] 0 true):=by rw[<-z,aQ,ai cN]
   clear z st1 ap1;have ap2:=zkV (H:=I) ((kb q s2').trans gq) (WG al) ac z1;have x3:=NS (q:=I.next) C;have st2:∀L:Hp,L.get I.next=some (.cells vs 0 true)->jY prog L 27 (.ptr I.next m) (.sl H.next 0 l.length 1)=some (L.set I.next (.cells (vs.set m (.sl H.next 0 l.length 1)) 0 true)):=fun L hg=>zkW _ _ _ _ hg C
   have y3:(H.next+1 == I.next)=false:=aZ ac;have y4:(I.next == H.next+1)=false:=aZ ac;refine ru ?_;all_goals refine qi ?_
   generalize Z:Hp.set _ I.next _=V
   have nc:I.next+1<=V.next:=by rw[<-Z];exact aG _
   have kc:∀r,r<I.next->r≠H.next+1->V.get r=I.get r:=fun r hr h2=>by
    rw[<-Z];simp only[aQ,aL,ah (show ¬r=I.next by omega),ah h2]
   have gc1:V.get (H.next+1)=some (.cells [.sl I.next 0 vs.length 1,ov,.int .i64 s.a2,.int .i64 s.ed,.int .i64 s.aT,.int .i64 s.bI] 0 true):=by
    rw[<-Z];simp only[aQ,aL,ah (show ¬H.next+1=I.next by omega),dG]
   have gc2:V.get I.next=some (.cells (vs.set m (.sl H.next 0 l.length 1)) 0 true):=by rw[<-Z,aQ,ai rfl]
   clear Z;subst Y;have E:zd2 (fun _=>True) H V:=⟨ac,fun r _ h=>by rw[kc r ac ac];exact kb r h⟩;have ES:zd2 S H V:=E.sub fun _ _ _=>trivial;refine⟨⟨H.next+1,_,_,rfl,⟨J _ ac,ac,gc1,.inr ⟨I.next,0,_,by rw[iB],J _ ac,ac,gc2,by rw[iB];exact z1,?_⟩,hp.out.keep ES⟩⟩,E⟩;exact bN.set (al.mono fun a b h=>h.keep ES) ⟨H.next,0,by rw[iB],J _ (aG _),ac,by rw[kc _ ac ac];exact gb0,by rw[iB];exact z2⟩
 .cases h
end
end
section
def tyEvC.tyF:=ad @dm (ad @cG (ad @l7 (ad @ey (ad @kJ (ad @jJ (ad @ik (ad @nF (ad @oR (ad @rQ (ad @pL (ad @rR (ad @oS (ad @pM (ad @oT (ad @oU (ad @oV (ad @LK (@EG))))))))))))))))))
open tyEvC
noncomputable def oz:=qd (M:=112) f181.eq_1
def zkY{S:Nat->Prop}{v:AV}(h:mr S H v l)(a:Int):eg prog 164 [(0,.int .i64 a),(1,v)]=some (.agg [.int .i64 a,v]):=by
 cases l with
 |nil=>rw[show v=.aF from h];kernel_rfl
 |cons n l=>obtain⟨q,w,rfl,_⟩:=h;kernel_rfl
section
variable {tb:qH} (hT:EvT tb) {c:Cx9} {H:Hp} {rows:List qB} {res:List R9}
include hT
end
end
section
def tyEvD.tyF:=ad @dm (ad @cG (ad @l7 (ad @ey (ad @kJ (ad @jJ (ad @ik (ad @nF (ad @oR (ad @rQ (ad @pL (ad @rR (ad @oS (ad @pM (ad @oT (ad @oU (@oV))))))))))))))))
open tyEvD
noncomputable def WH:=qd (M:=82) f136.eq_1
def zkZ{cfg:Cfg}{f N:Nat}{a:SC}{E:aw}{Q:AX->aw->Hp->Prop}(F:aw->Hp->Prop)(j:bX P cfg f N a E H (oJ Q F))(m:∀E' H',F E' H'->Q .normal E' H'):bX P cfg f N a E H Q:=
 Ao (fun x E' H' h=>by cases x<;>first|exact m _ _ h|exact h) j
theorem I7(a b c:AV):cr 3 [a,b,c]=some (.agg [a,b,c]):=rfl
theorem EH(a b c d:AV):cr 4 [a,b,c,d]=some (.agg [a,b,c,d]):=rfl
def WI(H:Hp)(j z Y:HB):zd2 (fun _=>True) H (((H.alloc j).alloc z).set (H.next+1) Y):=⟨by rw[bK,aS,aS];omega,fun r _ hr=>by
 simp only[aQ,aL,aS,ah (show ¬r=H.next+1 by omega),ah (show ¬r=H.next by omega)]⟩
section
variable {tb:qH} (hT:EvT tb) {c:Cx9} {H:Hp} {rows:List qB} {res:List R9}
include hT
end
end
section
def tyEvE.tyF:=ad @cG (ad @eG (ad @ij (ad @kJ (ad @oQ (ad @jJ (ad @gC (ad @rO (ad @ik (ad @nF (ad @oR (ad @oS (ad @oT (ad @oU (ad @dm (ad @l7 (ad @ey (ad @rQ (ad @pL (ad @rR (ad @pM (ad @oV (ad @LM (ad @I7 (@EH))))))))))))))))))))))))
open tyEvE
noncomputable def WJ:=qd (M:=15) f137.eq_1
noncomputable def iJ:=qd (M:=200) f138.eq_1
def zk0(a:Int):eg prog 162 [(1,.int .i64 a)]=some (.agg [.bool false,.int .i64 a,.aF,.aF]):=ax
def zk1(p:Nat):eg prog 162 [(2,.ptr p 0)]=some (.agg [.bool false,.int .i64 0,.ptr p 0,.aF]):=ax
def pw(z:Hp)(q:Nat)(a b c d:AV):eP prog (z.set q (.cells [a,b,c,d] 0 true)) 162 (.ptr q 0)=some (.agg [a,b,c,d]):=by
 rw[nr,aQ,ai rfl];kernel_rfl
section
variable {tb:qH} (hT:EvT tb) {c:Cx9} {H:Hp} {rows:List qB} {res:List R9}
include hT
end
end
section
def tyEvF.tyF:=ad @dm (ad @cG (ad @l7 (ad @ey (ad @kJ (ad @jJ (ad @gC (ad @ik (ad @nF (ad @oR (ad @oS (ad @pM (ad @oT (ad @oU (ad @oV (@EH)))))))))))))))
open tyEvF
noncomputable def WK:=qd (M:=59) f90.eq_1
theorem WL{z:Nat}{w:qB}(j:w.length=z):∀{rows:List qB}{i:Nat},(∀x∈rows,x.length=z)->i<rows.length->splice rows.flatten (i*z) w=(rows.set i w).flatten
 |[],i,_,e=>by simp at e
 |a::rows,0,h,e=>by
  have m:=h a dM;simp only[splice,Nat.zero_mul,AP,tg,bR,pF,KV];rw[FV ac,FF ac,tg]
 |a::rows,i+1,h,e=>by
  have m:=h a dM;have ih:=WL j (rows:=rows) (i:=i) (fun x I=>h x (dh _ I)) yY;simp only[splice,pF,List.set_cons_succ]at ih⊢;have C:(i+1)*z=a.length+i*z:=by rw[Ai,m];omega
  rw[C,List.take_length_add_append,lS,IV,kI,kI];rw[kI]at ih;rw[ih]
def zk2{z i:Nat}{tip:Bool}{rows:List qB}{w:qB}(V:bp P t=some z)(hg:H.get q=some (.cells rows.flatten 0 tip))(j:∀x∈rows,x.length=z)(O:i<rows.length)(Z:w.length=z)(Y:w.all AV.one=true):jY P H t (.ptr q (i*z)) (.agg w)=some (H.set q (.cells (rows.set i w).flatten 0 tip)):=by
 have L:=Dv j;have hb:i*z+z<=rows.flatten.length:=by
  rw[L];have:(i+1)*z<=rows.length*z:=Ch z O;rw[Ai]at this;exact this
 simp only[jY,hg,V];show(if w.length=z/\0<=i*z/\i*z+z<=rows.flatten.length/\w.all AV.one=true then some (H.set q (.cells (splice rows.flatten (i*z) w) 0 tip))else none)=_;rw[ai ⟨Z,eR _,hb,Y⟩,WL Z j O]
theorem zk3{r:Nat}{k:Int}{st:qA}{junk:qB}(hg:H.get q=some (.cells (cM st.reverse++junk) 0 true))(hr:H.get r=some (.cells [.int .i64 k] 0 true))(J:q≠r)(hl:st.length<2^30)(hq:q<H.next):
 ∃Y,dr prog false H 26 26 (.sl q 0 st.length 1) (.sl r 0 1 1)=some (.sl H.next 0 (st.length+1) 1,Y)/\H.next+1<=Y.next/\Y.get H.next=some (.cells (cM (k::st).reverse) 0 true)/\∀p,p<H.next->p≠q->Y.get p=H.get p:=by
 have hx:gg H 1 (.sl r 0 1 1)=some (0+1,[.int .i64 k]):=by
  have:=uC (H:=H) (r:=r) (o:=0) (n:=1) (z:=1) (s:=1) hr aB;rw[this];rfl
 have L:(cM st.reverse).length=st.length:=by rw[vN,zN]
 obtain⟨O,m,V,I,C⟩:∃O,iM false H 1 (.sl q 0 st.length 1)=O/\O.next=H.next/\O.get q=some (.cells (cM st.reverse) 0 true)/\∀p,p≠q->O.get p=H.get p:=by
  cases junk with
  |nil=>
   rw[bq]at hg;refine⟨H,?_,rfl,hg,fun _ _=>rfl⟩;unfold iM;simp only[hg,bR,lW,L];have:Nat.blt st.length st.length=false:=by
    cases hb:Nat.blt st.length st.length with
    |false=>rfl
    |true=>rw[ur]at hb;omega
   simp only[mJ,gW,this,nh]
  |cons a j=>
   refine⟨H.set q (.cells ((cM st.reverse++a::j).take (0+st.length*1)) 0 true),?_,rfl,?_,fun p hp=>by rw[aQ,ah hp]⟩
   .unfold iM;simp only[hg];have:Nat.blt (0+st.length*1) (cM st.reverse++a::j).length=true:=by rw[ur,fx,L,fc];omega
    simp only[mJ,gW,this];rfl
   .rw[aQ,ai rfl,bR,lW,FE ac,je ac]
 refine⟨(O.bh q).alloc (.cells ((cM st.reverse).drop 0++[.int .i64 k]) (0-0) true),?_,by rw[aS,rB];omega,?_,fun p hp Z=>?_⟩
 .simp only[dr,underlying26,jI,rM,rN,show jF prog 26=true by kernel_rfl,hx,oX,pO,m,oD,I];simp only[Qh,Dm,pD,sC,dG,dV,fK,bR,lW,L,eR,V,rz];rw[ai ⟨ve,ve,trivial⟩]
 .rw[<-V];show((O.bh q).alloc _).get (O.bh q).next=_
  rw[aL,ai rfl,NI,cM,cM,rF];rfl
 .rw[aL,ah (by rw[rB];omega),jH,ah Z,C p Z]
structure Stk9 (H:Hp) (q:Nat) (v:AV) (st:qA):Prop where
 lt:q<H.next
 v:(st=[]/\v=.aE [])\/(st≠[]/\v=.sl q 0 st.length 1/\∃junk,H.get q=some (.cells (cM st.reverse++junk) 0 true))
def zk4(q n:Nat):jZ prog 26 (.sl q 0 (n+1) 1) none (some (.int .i64 (n:Int)))=some (if 0=n then .aE []else .sl q 0 n 1):=by
 show jZ prog 26 (.sl q 0 (n+1) 1) none (some (.int .i64 (Int.ofNat n)))=_;simp only[jZ,underlying26,jI,jc];by_cases h:0=n
 .subst h;simp
 .simp[h]
section
variable {tb:qH} (hT:EvT tb) {c:Cx9} {H:Hp} {rows:List qB} {res:List R9}
include hT
end
end
variable{v:AV}
section
def tyEvG.tyF:=ad @dm (ad @cG (ad @ey (ad @gC (ad @ik (ad @xq (ad @C2 (ad @AF (@Da))))))))
open tyEvG
noncomputable def WM:=qd (M:=69) f46.eq_1
end
section
def tyEvH.tyF:=ad @cG (ad @eG (ad @ij (ad @kJ (ad @oQ (ad @jJ (ad @gC (ad @rO (ad @ik (ad @nF (ad @oR (ad @oS (ad @oT (ad @oU (ad @oV (ad @dm (ad @pL (@LK)))))))))))))))))
open tyEvH
noncomputable def WN:=qd (M:=35) f49.eq_1
noncomputable def WO:=qd (M:=26) f47.eq_1
theorem NU(n:Nat)(L:n<2^40):jq prog H 27 (.int .i64 n) (.int .i64 n)=some (.sl H.next 0 n 1,H.alloc (.cells (cM (List.replicate n 0)) 0 true)):=by
 have Y:ej=70368744177664:=rfl;show jq prog H 27 (.int .i64 (Int.ofNat n)) (.int .i64 (Int.ofNat n))=_;simp only[jq,underlying27,AB,GT,GU];rw[ai ⟨aG _,uJ,uJ,rfl⟩];have:∀n:Nat,jO [AV.int .i64 0] n=cM (List.replicate n 0):=by
  intro n;induction n with
  |zero=>rfl
  |succ n ih=>simp only[jO,ih,vY];rfl
 rw[this]
theorem zk5(k:Nat)(l1:qA)(n:Int):(List.replicate (k+1) (0:Int)++l1.reverse).set k n=List.replicate k 0++(l1++[n]).reverse:=by
 rw[LX,kI,List.set_append,ah (by rw[j9];omega),j9,rz,List.reverse_append];rfl
theorem zk6(n:Nat):jO [AV.bool false,.int .i64 0,.aF,.aF] n=(List.replicate n [AV.bool false,.int .i64 0,.aF,.aF]).flatten:=by
 induction n with
 |zero=>rfl
 |succ n ih=>simp only[jO,ih,vY,pF]
theorem zk7(n:Nat)(L:n<2^30):jq prog H 155 (.int .i64 n) (.int .i64 n)=some (.sl H.next 0 n 4,H.alloc (.cells (List.replicate n [AV.bool false,.int .i64 0,.aF,.aF]).flatten 0 true)):=by
 have Y:ej=70368744177664:=rfl;show jq prog H 155 (.int .i64 (Int.ofNat n)) (.int .i64 (Int.ofNat n))=_;simp only[jq,underlying155,AG,RC,RD];rw[ai ⟨aG _,uJ,uJ,rfl⟩,zk6]
def zk8(x y w:List qB)(a b Z d p q n:Nat)(f:Int):eg prog 159 [(0,.agg [.aE x,.aE y]),(1,.sl a b Z d),(2,.int .i64 f),(3,.ptr p 0),(4,.aE w),(5,.sl q 0 n 4)]=some (.agg [.aE x,.aE y,.sl a b Z d,.int .i64 f,.ptr p 0,.aE w,.sl q 0 n 4,.aF,.aF,.aF,.aF,.aF,.aF,.aF,.aF,.aF,.aF,.aF,.aF,.aF,.aF,.aF,.aF]):=ax
section
variable {tb:qH} (hT:EvT tb) {H:Hp}
include hT
def zk9{S:Nat->Prop}(hO:mr S H v l)(hlen:l.length<2^30):aR prog (aA pls tb) 49 [v] H fun w H'=>w=.sl H.next 0 l.length 1/\H.next+1<=H'.next/\H'.get H.next=some (.cells (cM l.reverse) 0 true)/\∀r,r<H.next->H'.get r=H.get r:=by
 have hw:zd0 (aA pls tb) 49:=hT.plain cN;have np:∀E:aw,aM E (.const (.pointer none))=some .aF:=fun _=>rfl;have nq:∀(D:BinOp->Sx->Sx->qK),dQ prog D .neq 108 .aF .aF=some (.bool false):=fun D=>ax;have pq:∀(D:BinOp->Sx->Sx->qK) (q:Nat),dQ prog D .neq 108 (.ptr q 0) .aF=some (.bool true):=fun D q=>ax;have hmk:=NU (H:=H) l.length ac;refine qe hw func49 WN ?_;dsimp only[WN,qd,a1,Nat.reduceAdd];refine dX ?_;refine CG (fun m E Z=>∃(l1 l2:qA) (Y:AV),m=l2.length/\l1++l2=l/\mr S H Y l2/\E.at 0=v/\E.at 3=.int .i64 l1.length/\E.at 4=Y/\Z=H) ?_ (n:=l.length) ?_
 .rintro m E Z ⟨l1,l2,Y,C,L,V,k0,ee,fm,rfl⟩;cases l2 with
  |nil=>
   rw[show Y=.aF from V]at fm;rw[bq]at L;rw[L]at ee;clear L;refine BT (fun hb hbp=>?_);refine CG (fun m E I=>∃(l1 l2:qA) (Y:AV),m=l2.length/\l1++l2=l/\mr S Z Y l2/\E.at 3=.int .i64 l2.length/\E.at 5=.sl Z.next 0 l.length 1/\E.at 6=Y/\I.get Z.next=some (.cells (cM (List.replicate l2.length 0++l1.reverse)) 0 true)/\Z.next+1<=I.next/\∀r,r<Z.next->I.get r=Z.get r) ?_ (n:=l.length) ?_
   .rintro m E I ⟨l1,l2,Y,C,L,V,ee,dF,k6,g,n3,O⟩;cases l2 with
    |nil=>
     rw[show Y=.aF from V]at k6;rw[bq]at L;rw[L]at g;clear L;refine BT (fun hb hbp=>?_);all_goals refine qi ?_
     exact⟨su,n3,by simpa using g,O⟩
    |cons n l2=>
     obtain⟨q,w,rfl,_,hq,gq,J⟩:=V;have hll:l1.length+(l2.length+1)=l.length:=by rw[<-L,fx,fc]
     have gq3:=(O q hq).trans gq;rw[fc]at g ee;have e1:IntKind.wrap .i64 (((l2.length+1:Nat):Int)-1)=(l2.length:Int):=by rw[show((l2.length+1:Nat):Int)-1=(l2.length:Int) by omega];exact fN ac ac
     have x1:dK prog 27 (.sl Z.next 0 l.length 1) (.int .i64 (l2.length:Int))=some (.ptr Z.next l2.length):=ya ac;have s1:=I6 (H:=I) (q:=Z.next) (j:=l2.length) n g (by rw[fx,j9];omega);rw[zk5]at s1;clear g;have y1:(q == Z.next)=false:=aZ ac;refine BT (fun hb hbp=>?_);refine⟨l2.length,by rw[C];exact cn _,l1++[n],l2,w,rfl,by rw[<-L,kI];rfl,J,eE,eE,eE,iW,n3,fun r hr=>by rw[aQ,ah ac];exact O r hr⟩
   .exact⟨[],l,v,rfl,rfl,hO,eE,eE,eE,M7,aG _,fun r hr=>dT⟩
  |cons n l2=>
   obtain⟨q,w,rfl,_,hq,gq,J⟩:=V;have hll:l1.length+(l2.length+1)=l.length:=by rw[<-L,fx,fc]
   have e1:IntKind.wrap .i64 ((l1.length:Int)+1)=((l1.length+1:Nat):Int):=by
    have:=fN (z:=((l1.length+1:Nat):Int)) ac ac;rw[<-this];rfl
   refine dX ?_;exact⟨l2.length,by rw[C];exact cn _,l1++[n],l2,w,rfl,by rw[<-L,kI];rfl,J,eE,by rw[fx,zg];exact eE,eE,rfl⟩
 .exact⟨[],l,v,rfl,rfl,hO,eE,eE,eE,rfl⟩
end
end
section
def tyEvI.tyF:=ad @dm (ad @cG (ad @l7 (ad @kJ (ad @jJ (ad @nF (ad @oR (ad @oS (ad @pM (ad @oT (ad @oU (@oV)))))))))))
open tyEvI
noncomputable def WP:=qd (M:=16) f50.eq_1
noncomputable def WQ:=qd (M:=16) f48.eq_1
section
variable {tb:qH} (hT:EvT tb) {c:Cx9} {H:Hp} {rows:List qB} {res:List R9}
include hT
end
end
section
def tyEvJ.tyF:=ad @dm (ad @cG (ad @eG (ad @ij (ad @kJ (ad @oQ (ad @jJ (ad @gC (ad @rO (ad @GW (ad @ik (ad @nZ (ad @nF (ad @xq (ad @rQ (ad @pL (ad @rR (@wA)))))))))))))))))
open tyEvJ
noncomputable def WR:=qd (M:=131) f22.eq_1
def zla{f:FuncId}(h:I5 f=true):f=177\/f=178\/f=136\/f=138\/f=179\/f=204\/f=181\/f=137\/f=90\/f=50\/f=48\/f=47\/f=49:=by
 simp only[I5,nU]at h;rcases h with(((((((((((h|h)|h)|h)|h)|h)|h)|h)|h)|h)|h)|h)|h<;>have e:=tm h<;>subst e<;>simp
def mw(H:Hp)(v:AV)(vs:qB):Prop:=(vs=[]/\v=.ao)\/∃q,v=.sl q 0 vs.length 1/\q<H.next/\H.get q=some (.cells vs 0 true)
def mw.one{H:Hp}{v:AV}{vs:qB}(h:mw H v vs):AV.one v=true/\v.cells=[v]:=by
 rcases h with⟨_,rfl⟩|⟨q,rfl,_⟩<;>exact⟨rfl,rfl⟩
def mw.not(h:mw H v vs)(Z:H.next<=p):∀o m z,v≠.sl p o m z:=fun o m z e=>by
 rcases h with⟨_,rfl⟩|⟨q,rfl,Y,_⟩
 .cases e
 .simp only[AV.sl.injEq]at e;omega
def mw.keep(h:mw H v vs)(J:H.next<=H'.next)(hg:∀p,p<H.next->(∃o m z,v=.sl p o m z)->H'.get p=H.get p):mw H' v vs:=by
 rcases h with h|⟨q,rfl,Z,C⟩
 .exact .inl h
 .exact .inr ⟨q,rfl,ac,by rw[hg q Z ⟨_,_,_,rfl⟩];exact C⟩
def mw.push{e b:Nat}{C:qB}(j:P.underlying t=some (.slice e))(hs:bp P e=some 1)(hb:cT P e=some b)(hz:cC P e=some C)(Z:C.length=1)(Y:jF P t=true)(h:mw H v vs){r:Nat}{x:AV}(hr:H.get r=some (.cells [x] 0 true))(I:AV.one x=true)(V:(vs.length+1)*b<=ej)(O:vs.length+1<=ej):
 ∃L,dr P false H t t v (.sl r 0 1 1)=some (.sl H.next 0 (vs.length+1) 1,L)/\mw L (.sl H.next 0 (vs.length+1) 1) (vs++[x])/\H.next+1<=L.next/\∀p,p<H.next->(∀o m z,v≠.sl p o m z)->L.get p=H.get p:=by
 have hx:gg H 1 (.sl r 0 1 1)=some (0+1,[x]):=by
  have:=uC (H:=H) (r:=r) (o:=0) (n:=1) (z:=1) (s:=1) hr aB;rw[this];rfl
 have h1:[x].all AV.one=true:=by rw[oX,I];rfl
 rcases h with⟨rfl,rfl⟩|⟨q,rfl,h2,h3⟩
 .refine⟨H.alloc (.cells [x] 0 true),append_nil j hs hb hz Y hx h1 Z (by simpa using V) yB,.inr ⟨H.next,rfl,cn _,iE⟩,aG _,fun p hp _=>dT⟩
 .refine⟨(H.bh q).alloc (.cells (vs++[x]) 0 true),zbP j hs hb hz Y hx h1 Z h3 ac (by simpa using V) yB,.inr ⟨H.next,by rw[fx];rfl,by rw[aS,rB];omega,?_⟩,by rw[aS,rB];omega,fun p hp J=>?_⟩
  .show((H.bh q).alloc _).get (H.bh q).next=_
   rw[aL,ai rfl]
  .rw[aL,ah (by rw[rB];omega),jH,ah (fun e=>J 0 vs.length 1 oF)]
structure znI where
 u:Un
 name:qD
 args:qA
 a2:Int
def wB(x:znI):qB:=[.agg x.u.cells,.ay x.name,hY x.args,.int .i64 x.a2]
def zlb(f:Int):eg prog 110 [(2,.int .i64 f)]=some (.agg [.ao,.aF,.int .i64 f,.int .i64 0,.int .i64 0,.int .i64 0]):=ax
def NV(k:Int)(q n:Nat):eg prog 51 [(0,.int .i64 k),(2,.sl q 0 n 1)]=some (.agg [.int .i64 k,.int .i64 0,.sl q 0 n 1,.int .i64 0]):=ax
def zlc(H:Hp)(xs:List qB):eW prog H 103 1 [(0,.aE xs)]=some (.sl H.next 0 1 1,H.alloc (.cells [.aE xs] 0 true)):=ax
def zld(H:Hp)(q n:Nat):eW prog H 107 1 [(0,.sl q 0 n 1)]=some (.sl H.next 0 1 1,H.alloc (.cells [.sl q 0 n 1] 0 true)):=ax
theorem WS(s:S9)(v:Int):(pJ s v).out=s.out.reverse:=by
 unfold pJ;split
 .rfl
 .split<;>rfl
theorem NW(k c v:Int)(l:qA)(J:q<H.next)(hg:H.get q=some (.cells (cM l) 0 true)):∃m u,iceV H m (.agg [.int .i64 k,.int .i64 c,.sl q 0 l.length 1,.int .i64 v])=some u/\cW 60 u=ky ⟨k,c,l,v⟩:=by
 have h:cY (fun _=>True) 2 H [.int .i64 k,.int .i64 c,.sl q 0 l.length 1,.int .i64 v] [.int .i64 k,.int .i64 c,hY l,.int .i64 v]:=.cons (.int _ _) (.cons (.int _ _) (.cons (U0 l trivial J hg (eR _)) (.cons (.int _ _) .nil)));obtain⟨Z,j,Y⟩:=h;have C:dc (fun _=>True) 100 H (.agg [.int .i64 k,.int .i64 c,.sl q 0 l.length 1,.int .i64 v]) (.agg Z):=dc.up (n:=2+1) ⟨Z,j,rfl⟩ ac;obtain⟨L,V⟩:=dc.iceV C;refine⟨L,.agg Z,V L (aG _),?_⟩;show AV.agg (Z.map (cW 59))=_;rw[Y 59 ac];rfl
end
section
structure Kp9 (n:Nat) (H H':Hp):Prop where
 k:∀r,r<n->H'.get r=H.get r
def Kp9.trans{m:Nat}{a:Hp}(h:Kp9 n a b)(k:Kp9 m b c)(Y:n<=m):Kp9 n a c:=⟨fun r hr=>(k.k r (iy hr Y)).trans (h.k r hr)⟩
def oA(S:Nat->Prop)(H:Hp)(v:AV)(l:L9):Prop:=∃p q z,v=.ptr p 0/\S p/\p<H.next/\H.get p=some (.cells [z,.sl q 0 l.v.length 1] 0 true)/\eI S H z l.s/\S q/\q<H.next/\H.get q=some (.cells (cM l.v) 0 true)/\l.v.length<2^30
def my(S:Nat->Prop)(H:Hp)(v:AV):Option L9->Prop
 |none=>v=.aF
 |some l=>oA S H v l
def tV(S:Nat->Prop)(H:Hp)(row:qB)(r:Q9):Prop:=∃z lv,row=[.bool r.k,.int .i64 r.v,z,lv]/\lh S H z r.s/\my S H lv r.l
def re(S:Nat->Prop)(H:Hp)(v:AV)(l:qA):Prop:=v=hY l\/(v=.ao/\l=[])\/∃q V Y z,v=.sl q 0 l.length 1/\S q/\q<H.next/\H.get q=some (.cells (cM l++V) Y z)
def wC(S:Nat->Prop)(H:Hp)(v:AV)(M:List qG):Prop:=∃q Y z,v=.sl q 0 M.length 1/\S q/\q<H.next/\H.get q=some (.cells (M.map tK) Y z)
section
variable {S T:Nat -> Prop} {H H':Hp} {v:AV}
def oA.keep{l:L9}(h:oA S H v l)(k:zd2 S H H'):oA S H' v l:=by
 obtain⟨p,q,Z,e,j,m,C,Y,z,O,V,L⟩:=h;exact⟨p,q,Z,e,j,iy m k.next,by rw[k.get p j m];exact C,Y.keep k,z,iy O k.next,by rw[k.get q z O];exact V,L⟩
def oA.sub{l:L9}(h:oA S H v l)(hS:∀q,q<H.next->S q->T q):oA T H v l:=by
 obtain⟨p,q,z,e,j,m,C,Z,Y,O,V⟩:=h;exact⟨p,q,z,e,hS p m j,m,C,Z.sub hS,hS q O Y,O,V⟩
def my.keep:∀{l:Option L9},my S H v l->zd2 S H H'->my S H' v l
 |none,h,_=>h
 |some _,h,k=>oA.keep h k
def my.sub(hS:∀q,q<H.next->S q->T q):∀{l:Option L9},my S H v l->my T H v l
 |none,h=>h
 |some _,h=>oA.sub h hS
def BC:=@my.sub
def my.dA:∀{l:Option L9},my S H v l->AV.one v=true/\v.cells=[v]
 |none,h=>by rw[show v=.aF from h];exact⟨rfl,rfl⟩
 |some _,h=>by obtain⟨p,q,z,rfl,_⟩:=(h:oA S H v _);exact⟨rfl,rfl⟩
def tV.keep{row:qB}{r:Q9}(h:tV S H row r)(k:zd2 S H H'):tV S H' row r:=by
 obtain⟨z,lv,e,j,m⟩:=h;exact⟨z,lv,e,j.keep k,m.keep k⟩
def tV.sub{row:qB}{r:Q9}(h:tV S H row r)(hS:∀q,q<H.next->S q->T q):tV T H row r:=by
 obtain⟨z,lv,e,j,m⟩:=h;exact⟨z,lv,e,lh.sub hS j,BC hS m⟩
theorem tV.len{row:qB}{r:Q9}(h:tV S H row r):row.length=4:=by
 obtain⟨z,lv,rfl,_⟩:=h;rfl
theorem RowsQ.len:∀{rows:List qB}{res:List Q9},bN (tV S H) rows res->∀x∈rows,x.length=4
 |[],[],_,x,I=>by cases I
 |r::rows,t::res,h,x,I=>by
  rcases eJ.1 I with rfl|I
  .exact h.1.len
  .exact RowsQ.len h.2 x I
def re.keep(h:re S H v l)(k:zd2 S H H'):re S H' v l:=by
 rcases h with h|h|⟨q,V,Y,z,e,j,m,C⟩
 .exact .inl h
 .exact .inr (.inl h)
 .exact .inr (.inr ⟨q,V,Y,z,e,j,iy m k.next,IU⟩)
def re.sub(h:re S H v l)(hS:∀q,q<H.next->S q->T q):re T H v l:=by
 rcases h with h|h|⟨q,V,Y,z,e,j,m,C⟩
 .exact .inl h
 .exact .inr (.inl h)
 .exact .inr (.inr ⟨q,V,Y,z,e,hS q m j,m,C⟩)
def re.one{l:qA}(h:re S H v l):AV.one v=true/\v.cells=[v]:=by
 rcases h with rfl|⟨rfl,_⟩|⟨q,V,Y,z,rfl,_⟩<;>exact⟨rfl,rfl⟩
def wC.keep{M:List qG}(h:wC S H v M)(k:zd2 S H H'):wC S H' v M:=by
 obtain⟨q,Y,z,e,j,m,C⟩:=h;exact⟨q,Y,z,e,j,iy m k.next,IU⟩
def wC.sub{M:List qG}(h:wC S H v M)(hS:∀q,q<H.next->S q->T q):wC T H v M:=by
 obtain⟨q,Y,z,e,j,m,C⟩:=h;exact⟨q,Y,z,e,hS q m j,m,C⟩
end
structure Cq where
 S:Nat->Prop
 xp:Nat
 rp:Nat
 u:Un
 M:List qG
 hv:AV
 sv:AV
 av:AV
 x:X9
structure UmOk (u:Un) (M:List qG):Prop where
 m:∀f G,u.funcs[f]?=some G->M[f]?=some (M.getD f [])/\(M.getD f []).length=G.af.length/\(∀h∈M.getD f [],h<2^16)/\G.af.length<2^30/\∀nd∈G.af,nd.ak.length<2^30
structure Cq.Ok (c:Cq):Prop where
 g:c.u.funcs[c.x.f]?=some c.x.g
 um:UmOk c.u c.M
 ne:c.xp≠c.rp
 sx:¬c.S c.xp
 sr:¬c.S c.rp
def Cq.Ok.m{c:Cq}(h:c.Ok):c.M[c.x.f]?=some (c.M.getD c.x.f []):=(h.um.m _ _ h.g).1
def Cq.Ok.ml{c:Cq}(h:c.Ok):(c.M.getD c.x.f []).length=c.x.g.af.length:=(h.um.m _ _ h.g).2.1
def Cq.Ok.mb{c:Cq}(h:c.Ok):∀h∈c.M.getD c.x.f [],h<2^16:=(h.um.m _ _ h.g).2.2.1
def Cq.Ok.len{c:Cq}(h:c.Ok):c.x.g.af.length<2^30:=(h.um.m _ _ h.g).2.2.2.1
def Cq.Ok.kl{c:Cq}(h:c.Ok):∀nd∈c.x.g.af,nd.ak.length<2^30:=(h.um.m _ _ h.g).2.2.2.2
def ib(c:Cq)(n:Nat)(m:qB):qB:=.aE (c.u.ab.map Ar.cells)::.aE (c.u.funcs.map Gr.cells)::c.hv::.int .i64 c.x.f::c.sv::c.av::.sl c.rp 0 n 4::m
structure Fq (c:Cq) (H:Hp) (rows:List qB) (vvs:qB) (a:A9):Prop where
 x:H.get c.xp=some (.cells (ib c a.bJ.length vvs) 0 true)
 r:H.get c.rp=some (.cells rows.flatten 0 true)
 lx:c.xp<H.next
 lr:c.rp<H.next
 st:eI c.S H c.sv c.x.start
 ag:re c.S H c.av c.x.args
 hd:wC c.S H c.hv c.M
 rows:bN (tV c.S H) rows a.bJ
 vars:bN (my c.S H) vvs a.vars
 eL:a.vars.length=16
 up:∀q,H.next<=q->c.S q
 len:a.bJ.length=c.x.g.af.length
def rh(c:Cq)(H:Hp)(a:A9):Prop:=∃rows vvs,Fq c H rows vvs a
def Fq.keep{c:Cq}{rows:List qB}{m:qB}(h:Fq c H rows m a)(J:H.next<=H'.next)(hg:∀q,q<H.next->H'.get q=H.get q):Fq c H' rows m a:=
 have k:zd2 c.S H H':=⟨J,fun q _ h=>hg q h⟩
 ⟨by rw[hg _ h.lx];exact h.x,by rw[hg _ h.lr];exact h.r,iy h.lx J,iy h.lr J,h.st.keep k,h.ag.keep k,h.hd.keep k,h.rows.mono fun a b h=>h.keep k,h.vars.mono fun a b h=>h.keep k,h.eL,fun q Z=>h.up q (dt J Z),h.len⟩
def Fq.alloc{c:Cq}{rows:List qB}{m:qB}(h:Fq c H rows m a)(b:HB):Fq c (H.alloc b) rows m a:=h.keep (dg _) fun q J=>dT
def Cq.aW(c:Cq)(q:Nat):Cq:={c with S:=fun k=>c.S k/\k≠q}
def Cq.Ok.aW{c:Cq}(h:c.Ok)(q:Nat):(c.aW q).Ok:=⟨h.g,h.um,h.ne,fun k=>h.sx k.1,fun k=>h.sr k.1⟩
def Fq.sub{c:Cq}{T:Nat->Prop}{rows:List qB}{m:qB}(h:Fq c H rows m a)(hS:∀k,k<H.next->c.S k->T k)(Z:∀k,H.next<=k->T k):Fq {c with S:=T} H rows m a:=
 ⟨h.x,h.r,h.lx,h.lr,h.st.sub hS,h.ag.sub hS,h.hd.sub hS,h.rows.mono fun _ _ hr=>hr.sub hS,h.vars.mono fun _ _ hr=>BC hS hr,h.eL,Z,h.len⟩
def Fq.ext{c:Cq}{rows:List qB}{m:qB}(h:Fq c H rows m a)(k:zd2 c.S H H')(I:H'.get c.xp=H.get c.xp)(hr:H'.get c.rp=H.get c.rp):Fq c H' rows m a:=
 ⟨by rw[I];exact h.x,by rw[hr];exact h.r,iy h.lx k.next,iy h.lr k.next,h.st.keep k,h.ag.keep k,h.hd.keep k,h.rows.mono fun _ _ h=>h.keep k,h.vars.mono fun _ _ h=>h.keep k,h.eL,fun q J=>h.up q (dt k.next J),h.len⟩
def Fq.aW{c:Cq}{rows:List qB}{m:qB}(h:Fq c H rows m a)(E:zd2 (fun _=>True) H Z)(J:H.next<=q)(Y:q<Z.next):Fq (c.aW q) Z rows m a:=by
 have V:Fq {c with S:=fun k=>c.S k/\k≠q} Z rows m a:=by
  have I:zd2 (fun k=>c.S k/\k≠q) H Z:=E.sub fun _ _ _=>trivial;exact⟨(E.get _ trivial h.lx).trans h.x,(E.get _ trivial h.lr).trans h.r,iy h.lx E.next,iy h.lr E.next,(h.st.sub fun k z hS=>⟨hS,ac⟩).keep I,(h.ag.sub fun k z hS=>⟨hS,ac⟩).keep I,(h.hd.sub fun k z hS=>⟨hS,ac⟩).keep I,h.rows.mono fun _ _ hr=>(hr.sub fun k z hS=>⟨hS,ac⟩).keep I,h.vars.mono fun _ _ hr=>(BC (fun k z hS=>⟨hS,ac⟩) hr).keep I,h.eL,fun k z=>⟨h.up k (dt E.next z),ac⟩,h.len⟩
 exact V
def Fq.to{c:Cq}{T:Nat->Prop}{rows:List qB}{m:qB}(h:Fq c H rows m a)(E:zd2 (fun _=>True) H Z)(hS:∀k,k<H.next->c.S k->T k)(Y:∀k,Z.next<=k->T k):Fq {c with S:=T} Z rows m a:=by
 have I:zd2 T H Z:=E.sub fun _ _ _=>trivial;exact⟨(E.get _ trivial h.lx).trans h.x,(E.get _ trivial h.lr).trans h.r,iy h.lx E.next,iy h.lr E.next,(h.st.sub hS).keep I,(h.ag.sub hS).keep I,(h.hd.sub hS).keep I,h.rows.mono fun _ _ hr=>(hr.sub hS).keep I,h.vars.mono fun _ _ hr=>(BC hS hr).keep I,h.eL,Y,h.len⟩
def Fq.more{c:Cq}{rows:List qB}{m:qB}(h:Fq (c.aW q) H rows m a):Fq c H rows m a:=by
 have:=h.sub (T:=c.S) (fun _ _ k=>k.1) fun k z=>(h.up k z).1;exact this
def Fq.move{c:Cq}{q2:Nat}{rows:List qB}{m:qB}(h:Fq (c.aW q) H rows m a)(J:H.next<=Z.next)(hg:∀r,r<H.next->r≠q->Z.get r=H.get r)(Y:q≠c.xp)(hr:q≠c.rp)(V:H.next<=q2)(C:q2<Z.next):Fq (c.aW q2) Z rows m a:=by
 have I:zd2 (fun k=>c.S k/\k≠q/\k≠q2) H Z:=⟨J,fun k z L=>hg k L z.2.1⟩;have a:∀k,k<H.next->(c.aW q).S k->c.S k/\k≠q/\k≠q2:=fun k z hS=>⟨hS.1,hS.2,ac⟩
 have b:∀k,k<Z.next->(c.S k/\k≠q/\k≠q2)->(c.aW q2).S k:=fun k _ z=>⟨z.1,z.2.2⟩
 exact⟨(hg _ h.lx (Ne.symm Y)).trans h.x,(hg _ h.lr (Ne.symm hr)).trans h.r,iy h.lx J,iy h.lr J,((h.st.sub a).keep I).sub b,((h.ag.sub a).keep I).sub b,((h.hd.sub a).keep I).sub b,h.rows.mono fun _ _ hr=>((hr.sub a).keep I).sub b,h.vars.mono fun _ _ hr=>BC b ((BC a hr).keep I),h.eL,fun k z=>⟨(h.up k (dt J z)).1,ac⟩,h.len⟩
def Fq.fh{c:Cq}{rows:List qB}{m:qB}(h:Fq (c.aW q) H rows m a)(I:q≠c.xp)(hr:q≠c.rp)(b:HB):Fq (c.aW q) (H.set q b) rows m a:=
 h.ext ⟨aG _,fun k z _=>by rw[aQ,ah z.2]⟩ Wt Wu
def Fq.wr{c:Cq}{rows:List qB}{m:qB}(h:Fq c H rows m a)(J:¬c.S q)(I:q≠c.xp)(hr:q≠c.rp)(b:HB):Fq c (H.set q b) rows m a:=
 h.ext ⟨aG _,fun k z _=>by rw[aQ,ah (fun e=>J (by rw[<-e];exact z))]⟩ Wt Wu
theorem zle:∀(rows:List qB) (i:Nat) (r:qB),(∀x∈rows,x.length=4)->rows[i]?=some r->rows.flatten.drop (i*4)=r++(rows.drop (i+1)).flatten:=by
 intro rows;induction rows with
 |nil=>intro i r _ e;simp at e
 |cons a rows ih=>
  intro i r h e;have m:=h a dM;cases i with
  |zero=>simp only[nH]at e;subst e;simp
  |succ i=>
   rw[pF,show(i+1)*4=a.length+i*4 by omega,IV,ih i r (fun x I=>h x (dh _ I)) yY];rfl
def Fq.get{c:Cq}{rows:List qB}{m:qB}(h:Fq c H rows m a){k:Int}{r:Q9}(z:a.get k=some r):∃Z lv,0<=k/\k<a.bJ.length/\rows[k.toNat]?=some [.bool r.k,.int .i64 r.v,Z,lv]/\lh c.S H Z r.s/\my c.S H lv r.l/\rows.flatten.drop (k.toNat*4)=[.bool r.k,.int .i64 r.v,Z,lv]++(rows.drop (k.toNat+1)).flatten:=by
 unfold A9.get at z;split at z
 .rename_i L;have V:=bN.len h.rows;have C:k.toNat<a.bJ.length:=by
   by_cases c:k.toNat<a.bJ.length
   .exact c
   .rw[ng ac]at z;cases z
  have hr:rows[k.toNat]?=some (rows[k.toNat]' ac):=aX ac;obtain⟨Z,lv,e,j,Y⟩:=bN.get h.rows hr z;exact⟨Z,lv,L,ac,by rw[hr,e],j,Y,zle rows _ _ (RowsQ.len h.rows) (by rw[hr,e])⟩
 .cases z
structure AtQ (c:Cq) (n:Nat) (r:Q9) (sv lv:AV) (H:Hp):Prop where
 l0:eP prog H 4 (.ptr c.rp (n*4))=some (.bool r.k)
 l1:eP prog H 2 (.ptr c.rp (n*4+1))=some (.int .i64 r.v)
 l2:eP prog H 106 (.ptr c.rp (n*4+2))=some sv
 l3:eP prog H 156 (.ptr c.rp (n*4+3))=some lv
 lr:eP prog H 162 (.ptr c.rp (n*4))=some (.agg [.bool r.k,.int .i64 r.v,sv,lv])
theorem Fq.at{c:Cq}{rows:List qB}{m:qB}(Y:Fq c H rows m a){r:Q9}(V:a.get n=some r):∃z lv,n<a.bJ.length/\lh c.S H z r.s/\my c.S H lv r.l/\dK prog 155 (.sl c.rp 0 a.bJ.length 4) (.int .i64 (n:Int))=some (.ptr c.rp (n*4))/\∀H',H'.get c.rp=some (.cells rows.flatten 0 true)->AtQ c n r z lv H':=by
 obtain⟨z,lv,h0,h1,hr,I,Z,hd⟩:=Y.get V;rw[eM]at hr hd;refine⟨z,lv,ac,I,Z,Wv,fun H' J=>?_⟩;obtain⟨rk,L,rs,rl⟩:=r;have C:rows.flatten.drop (n*4+1)=[.int .i64 L,z,lv]++(rows.drop (n+1)).flatten:=Eu;have j:rows.flatten.drop (n*4+2)=[z,lv]++(rows.drop (n+1)).flatten:=Eu;have d3:rows.flatten.drop (n*4+3)=[lv]++(rows.drop (n+1)).flatten:=Eu;have p0:∀(O:qB) (o:Nat),sy prog 4 o (some (.cells O 0 true))=O[o]?:=fun _ _=>ax;have p1:∀(O:qB) (o:Nat),sy prog 2 o (some (.cells O 0 true))=O[o]?:=fun _ _=>ax;have p2:∀(O:qB) (o:Nat),sy prog 106 o (some (.cells O 0 true))=O[o]?:=fun _ _=>ax;have p4:∀(O:qB) (o:Nat),sy prog 156 o (some (.cells O 0 true))=O[o]?:=fun _ _=>ax;have p3:∀(O:qB) (o:Nat),sy prog 162 o (some (.cells O 0 true))=cr 4 (O.drop o):=fun _ _=>ax;have e:∀(o:Nat),rows.flatten[o]?=(rows.flatten.drop o)[0]?:=fun o=>by rw[wW,wY]
 refine⟨?_,?_,?_,?_,?_⟩
 .rw[nr,J,p0,e,hd];rfl
 .rw[nr,J,p1,e,C];rfl
 .rw[nr,J,p2,e,j];rfl
 .rw[nr,J,p4,e,d3];rfl
 .rw[nr,J,p3,hd];rfl
def Fq.bM{c:Cq}{rows:List qB}{Z:qB}(V:Fq c H rows Z a){n:Nd}{r:Q9}(h:da a.get n j=some r):∃(m:Nat) (z lv:AV),n.ak[j]?=some (m:Int)/\a.get m=some r/\m<a.bJ.length/\lh c.S H z r.s/\my c.S H lv r.l/\dK prog 155 (.sl c.rp 0 a.bJ.length 4) (.int .i64 (m:Int))=some (.ptr c.rp (m*4))/\∀H',H'.get c.rp=some (.cells rows.flatten 0 true)->AtQ c m r z lv H':=by
 unfold da at h;obtain⟨k,O,Y⟩:=aC.1 h;obtain⟨m,rfl⟩:∃m:Nat,k=m:=⟨k.toNat,by obtain⟨_,_,J,_⟩:=V.get Y;omega⟩;obtain⟨z,lv,a,b,L,d,e⟩:=V.at Y;exact⟨m,z,lv,O,Y,a,b,L,d,e⟩
end
end Go.Proofs.YtbflaciihaijgaaGreat
