/- Lemmas for the last file. -/
import Derived.Test.YtpbcimfiofmoeaaGreatWEP
set_option linter.all false
set_option maxHeartbeats 32000000
namespace Go.Ab
set_option maxRecDepth 20000
open Go
variable{qe:Prop}
def J7(h:qe:=by rw[List.length_set];exact bZ.vl):=h
def SM(h:qe:=by rw[lu.2.2.2];show q.2.loops=_;rw[lq.n,hrn]):=h
def SN(h:qe:=by show s.loops<=(eO ar.len r.1 v.2).loops;omega):=h
def sm:=@List.mem_or_eq_of_mem_set
def J8:=@Int.tmod_eq_emod_of_nonneg
def SO:=@Int.tdiv_eq_ediv_of_nonneg
end Go.Ab
namespace Go.Proofs.YtpbcimfiofmoeaaGreat
set_option maxRecDepth 20000
open Go Go.Ab
variable{x:St}{c:Cx}{N M:List bG}{s r:Bd}{p:Pr}{l O:qF}{k t b:Int}{A B:Nat->Prop}{u:Un}
section
def uE(c:Cx):Sc:=⟨c.aF,some (c.aa.map (·.name)),⟨c.aa,c.funcs⟩⟩
structure SOk (c:Cx) (x:St):Prop where
 wf:mE x=true
 df:gm (uE c) false x=true
 ar:gm (uE c) true x=true
 rg:ey x
structure zil (c:Cx) (l:qD):Prop where
 wf:fx l=true
 df:dh (uE c) false l=true
 ar:dh (uE c) true l=true
 rg:cz l
section
variable {c:Cx}
def zil.cons{l:qD}(h:zil c (x::l)):SOk c x/\zil c l:=by
 obtain⟨m,j,C,V⟩:=h;rw[fx,da]at m;rw[dh,da]at j C;rw[cz]at V;exact⟨⟨m.1,j.1,C.1,V.1⟩,⟨m.2,j.2,C.2,V.2⟩⟩
def SOk.cY(h:SOk c x):zil c x.bl/\zil c x.bA:=by
 obtain⟨m,j,C,V⟩:=h;rw[xg]at m;rw[Ba]at j C;rw[EN]at V;simp only[da]at m j C;exact⟨⟨m.1.2,j.1.2,C.1.2,V.2.2.2.1⟩,⟨m.2,j.2,C.2,V.2.2.2.2⟩⟩
theorem SP:∀{l:qI}{x:Ex},dt l->x∈l->dA x
 |[],x,_,h=>by simp at h
 |e::l,x,hw,h=>by
  rw[dt]at hw;rcases gH.1 h with rfl|h
  .exact hw.1
  .exact SP hw.2 h
theorem SQ:∀{l:qI}{x:Ex},eB l=true->x∈l->eW x=true
 |[],x,_,h=>by simp at h
 |e::l,x,hw,h=>by
  rw[eB,da]at hw;rcases gH.1 h with rfl|h
  .exact hw.1
  .exact SQ hw.2 h
theorem SR{vs I:List bG}:∀{l:qI}{x:Ex},fg vs I l=true->x∈l->ev vs I x=true
 |[],x,_,h=>by simp at h
 |e::l,x,hw,h=>by
  rw[fg,da]at hw;rcases gH.1 h with rfl|h
  .exact hw.1
  .exact SR hw.2 h
def SOk.def(h:SOk c x):fg c.aF (c.aa.map (·.name)) x.args=true/\ev c.aF (c.aa.map (·.name)) x.a8=true/\ev c.aF (c.aa.map (·.name)) x.value=true/\kA (uE c) x=true:=by
 have j:=h.df;rw[Ba]at j;simp only[da,ui,jP]at j;exact⟨j.1.1.1.1.1,j.1.1.1.1.2,j.1.1.1.2,j.1.1.2⟩
def SOk.args(h:SOk c x):∀a∈x.args,XOk c a:=fun a O=>by
 have m:=h.wf;have V:=h.rg;rw[xg,je]at m;rw[EN]at V;simp only[da]at m;exact⟨SQ m.1.1.1 O,SR h.def.1 O,SP V.2.2.1 O⟩
def SOk.value(h:SOk c x)(z:x.am=1\/x.am=2\/x.am=3\/x.am=4\/x.am=5):XOk c x.value:=by
 have m:=h.wf;have V:=h.rg;rw[xg,je,mD]at m;rw[EN]at V;simp only[da]at m;refine⟨?_,h.def.2.2.1,V.2.1⟩
 grind
def SOk.a8(h:SOk c x)(z:x.am=2):XOk c x.a8:=by
 have m:=h.wf;have V:=h.rg;rw[xg,je,mD]at m;rw[EN]at V;simp only[da]at m;refine⟨?_,h.def.2.1,V.1⟩;simp_all
def SOk.fI(h:SOk c x)(z:x.am=7):0<=x.n/\x.n<=1000000:=by
 have m:=h.wf;rw[xg,je,mD]at m;simp_all
def SOk.kd(h:SOk c x):1<=x.am/\x.am<=7:=by
 have m:=h.wf;rw[xg,je,mD]at m
 grind
def SOk.name(h:SOk c x)(z:x.am=1\/x.am=6):bV c.aF x.name<c.aF.length:=by
 have:=h.def.2.2.2;rw[kA]at this;rcases z with e|e<;>simp[e,uE]at this
 .exact vR this
 .exact vR this.1
def SOk.arr(h:SOk c x)(z:x.am=2):bV (c.aa.map (·.name)) x.name<c.aa.length:=by
 have:=h.def.2.2.2;rw[kA]at this;simp[z,uE,Sc.an]at this;have:=vR this;simp_all
def SOk.call(h:SOk c x)(z:x.am=6):0<=cJ c.funcs x.to 0/\x.args.length=pe ⟨c.aa,c.funcs⟩ x.to:=by
 have m:=h.def.2.2.2;have C:=h.ar;rw[kA]at m;simp[z,uE]at m;rw[Ba]at C;simp only[da,iY,lB,z]at C;simp[uE]at C
 grind
end
theorem BL{c:Cx}:∀(n:Nat) (l:qD) (b:qM),zil c l->2*bi l<n->b.length=c.aF.length->∃b',fC c.aF n l b=some b'/\b'.length=c.aF.length
 |0,l,b,_,h,_=>by omega
 |n+1,[],b,_,_,hb=>⟨b,rfl,hb⟩
 |n+1,x::l,b,O,h,hb=>by
  obtain⟨hx,O⟩:=O.cons;rw[bi]at h;have z:=x.aV;unfold fC;simp only;rw[af (fun q=>by have:=hx.name q.1;omega)];have I:(if x.am=1\/x.am=6 then b.set (bV c.aF x.name) true else b).length=c.aF.length:=by split<;>simp[hb]
  obtain⟨m,M,Z⟩:=BL n x.bl _ hx.cY.1 ac I;obtain⟨Y,U,V⟩:=BL n x.bA m hx.cY.2 ac Z;obtain⟨j,J,C⟩:=BL n l Y O ac V;simp_all
theorem SS{c:Cx}{np:Nat}{k:Int}{a:qy}:∀(m i:Nat) (s:Bd),LI c np s->IsT s.l 1 k->(∀y∈a,IsT s.l 1 y)->a.length=c.aF.length->i+m=c.aF.length->∃r,lC k a m i s=some r/\LI c np r/\r.l.length<=s.l.length+m
 |0,i,s,h,_,_,_,_=>⟨s,rfl,h,ay _⟩
 |m+1,i,s,h,hk,ha,hl,hi=>by
  have Y:=h.vl;have Z:i<a.length:=ac;have j:i<s.vars.length:=ac;unfold lC;rw[bj Z,cN,bj j,cN];obtain⟨bZ,U,V⟩:=yW h hk (ha _ (dm Z)) (h.v _ (dm j)) (.inl rfl);have lv:=eZ k a[i] s.vars[i] s;obtain⟨r,e,I,M⟩:=SS m (i+1) { (bA k a[i] s.vars[i] s).2 with vars:=(bA k a[i] s.vars[i] s).2.vars.set i (bA k a[i] s.vars[i] s).1} (bZ.setV (fun y hy=>by
   rcases sm hy with hy|rfl
   .exact bZ.v y hy
   .exact U) J7) (hk.le lv.le.l) (fun y hy=>(ha y hy).le lv.le.l) hl ac
  grind
theorem SU{c:Cx}{np:Nat}{k:Nat}(z:k<=15):∀(M:qG) (j:Nat) (s:Bd),LI c np s->j+M.length<=15->LI c np (ik (16*(k:Int)+1) M j s)/\(ik (16*(k:Int)+1) M j s).l.length<=s.l.length+M.length
 |[],j,s,h,_=>⟨h,ay _⟩
 |w::M,j,s,h,hj=>by
  rw[gF]at hj;have Y:(16*(k:Int)+1+j).tmod 16=1+j:=by
   rw[J8 ac];omega
  obtain⟨bZ,U,Z⟩:=kG h (n:=⟨3,16*(k:Int)+1+j,[]⟩) (EK ac ac) (by split<;>decide) (i9 _ _ aH fF aw aH aH aH aH);rw[Y,af ac]at U;unfold ik;obtain⟨I,V⟩:=SU z M (j+1) { (ah ⟨3,16*(k:Int)+1+j,[]⟩ s).2 with vars:=(ah ⟨3,16*(k:Int)+1+j,[]⟩ s).2.vars.set w (ah ⟨3,16*(k:Int)+1+j,[]⟩ s).1} (bZ.setV (fun y hy=>by
   rcases sm hy with hy|rfl
   .exact bZ.v y hy
   .exact U) J7) ac
  grind
theorem SV{c:Cx}{np:Nat}{lp k:Int}{old:qy}{q:Nd}:∀(M:qG) (j:Nat) (s:Bd),LI c np s->IsT s.l 3 lp->s.l[lp.toNat]?=some q->IsT s.l 1 k->(∀y∈old,IsT s.l 1 y)->(∀w∈M,w<old.length)->1<=j->((j+M.length:Nat):Int)<=jo q.ao.length->j+M.length<=16 ->
 LI c np (fD lp k old M j s)/\(fD lp k old M j s).l.length<=s.l.length+2*M.length
 |[],j,s,h,_,_,_,_,_,_,_,_=>⟨h,ay _⟩
 |w::M,j,s,h,hlp,hq,hk,ho,hw,hj,hlv,h16=>by
  rw[gF]at hlv h16;obtain⟨bZ,O,m⟩:=kG h (n:=⟨25,j,[lp]⟩) (EM hlp hq ac ac) (by split<;>decide) (i9 _ _ aH fF aw aH aH aH aH);rw[af ac]at O;have V:=cC ⟨25,j,[lp]⟩ s;have I:=hw w eg;have Z:old.getD w 0∈old:=by rw[gU,bj I];exact dm I
  obtain⟨cS,J,n3⟩:=yW bZ (hk.le V.le.l) O ((ho _ Z).le V.le.l) (.inl rfl);have Y:=V.trans (eZ k (ah ⟨25,j,[lp]⟩ s).1 (old.getD w 0) (ah ⟨25,j,[lp]⟩ s).2);unfold fD;simp only[];generalize bA k (ah ⟨25,j,[lp]⟩ s).1 (old.getD w 0) (ah ⟨25,j,[lp]⟩ s).2=z at *;have U:z.2.l[lp.toNat]?=some q:=by
   obtain⟨t,C⟩:=Y.le.l;rw[<-C,rD,hq];have:=hlp.hi;have:=hlp.lo;omega
  obtain⟨r1,r2⟩:=SV (q:=q) (lp:=lp) (k:=k) (old:=old) M (j+1) {z.2 with vars:=z.2.vars.set w z.1} (cS.setV (fun y hy=>by
   rcases sm hy with hy|rfl
   .exact cS.v y hy
   .exact J) (by rw[jQ];exact cS.vl)) (hlp.le Y.le.l) U (hk.le Y.le.l) (fun y hy=>(ho y hy).le Y.le.l) (fun y hy=>hw y (en _ hy)) ac ac ac
  grind
def SW(b:qM):(eS b).length<=b.length:=by
 have:=List.length_filter_le (fun i=>b.getD i false) (List.range b.length)
 rwa [List.length_range]at this
def J9(c:Cx)(np n:Nat):Prop:=∀x s,SOk c x->2*x.sz<n->LI c np s->s.loops+cm x<=16->∃r,lU c n x s=some r/\LI c np r/\r.loops<=s.loops+cm x/\r.l.length<=s.l.length+64*x.sz
def BM(c:Cx)(np n:Nat):Prop:=∀l s,zil c l->2*bi l<n->LI c np s->s.loops+dg l<=16->∃r,eY c n l s=some r/\LI c np r/\r.loops<=s.loops+dg l/\r.l.length<=s.l.length+64*bi l
def Ka(c:Cx)(np n:Nat):Prop:=∀x s,SOk c x->x.am=4->2*x.sz<=n->LI c np s->s.loops+cm x<=16->∃r,nD c n x s=some r/\LI c np r/\r.loops<=s.loops+cm x/\r.l.length<=s.l.length+64*x.sz
def zfb(hc:zd6 c){np n:Nat}(IS:BM c np n):Ka c np (n+1):=fun x s hx hk hsz h hw=>by
 have hs:=x.aV;have hw1:=AS x;rw[ai hk]at hw1;have hv:=hx.value (.inr (.inr (.inr (.inl hk))));unfold nD;obtain⟨r,hr,V,p2,p3⟩:=tk hc n x.value {s with loops:=s.loops+1} hv ac (h.dP _);have lr:=dr c n _ _ _ hr;have hrn:r.2.loops=s.loops+1:=lr.n;obtain⟨b,hb,hbl⟩:=BL n x.bl (List.replicate r.2.vars.length false) hx.cY.1 ac (by rw[xm];exact V.vl);rw[hr,cN,hb,cN];simp only[];have hwl:=SW b;have hnl:=hc.nl;have U:∀i∈eS b,i<r.2.vars.length:=fun i I=>by have:=Fl I;have:=V.vl;omega
 generalize eS b=M at *;have hm:(16*(s.loops:Int)).tmod 16=0:=by rw[J8 ac];omega
 obtain⟨q1,q2,q3⟩:=kG V (n:=⟨3,16*(s.loops:Int),[]⟩) (EK ac ac) (by split<;>decide) (i9 _ _ aH fF aw aH aH aH aH);rw[hm,ai rfl]at q2;have lq:=cC ⟨3,16*(s.loops:Int),[]⟩ r.2;generalize ah ⟨3,16*(s.loops:Int),[]⟩ r.2=q at *;obtain⟨u1,u2⟩:=SU (k:=s.loops) ac M 0 {q.2 with ab:=q.1} (q1.setS q2) ac;have lu:=sd (16*(s.loops:Int)+1) M 0 {q.2 with ab:=q.1};generalize ik (16*(s.loops:Int)+1) M 0 {q.2 with ab:=q.1}=u at *;have hun:u.loops=s.loops+1:=SM;obtain⟨t,ht,t1,t2,t3⟩:=IS x.bl u hx.cY.1 ac u1 ac;have lt:=(jD c n).2.1 _ _ _ ht;rw[ht,cN];obtain⟨d,hd,d1,d2,d3⟩:=tk hc n x.value t hv ac t1;have ld:=dr c n _ _ _ hd;rw[hd,cN];have J:ea r.2 d.2:=(lq.le.setS q.1).trans (lu.1.trans (lt.1.trans ld.le));have Y:∀y∈r.2.vars,IsT d.2.l 1 y:=fun y hy=>(V.v y hy).le J.l;have ho:∀a∈M.map fun i=>r.2.vars.getD i 0,IsT d.2.l 1 a:=fun a ha=>by
  obtain⟨i,I,rfl⟩:=mh.1 ha;rw[gU,bj (U i I)];exact Y _ (dm _)
 have hn:∀a∈M.map fun i=>d.2.vars.getD i 0,IsT d.2.l 1 a:=fun a ha=>by
  obtain⟨i,I,rfl⟩:=mh.1 ha;have:=U i I;have e1:=d1.vl;have e2:=V.vl;rw[gU,bj (show i<d.2.vars.length by omega)];exact d1.v _ (dm _)
 have C:(r.2.ab::(M.map fun i=>r.2.vars.getD i 0)++[d.1,d.2.ab]++M.map fun i=>d.2.vars.getD i 0).length=2*M.length+3:=cb;obtain⟨k1,k2,k3⟩:=kG d1 (n:=⟨31,s.loops,r.2.ab::(M.map fun i=>r.2.vars.getD i 0)++[d.1,d.2.ab]++M.map fun i=>d.2.vars.getD i 0⟩) (P2 (V.st.le J.l) ho d2 d1.st hn aw cb ac ac) aH (i9 _ _ aH fF (by rw[C];omega) aH aH aH aH);have lk:=cC ⟨31,s.loops,r.2.ab::(M.map fun i=>r.2.vars.getD i 0)++[d.1,d.2.ab]++M.map fun i=>d.2.vars.getD i 0⟩ d.2;have hq:(ah ⟨31,s.loops,r.2.ab::(M.map fun i=>r.2.vars.getD i 0)++[d.1,d.2.ab]++M.map fun i=>d.2.vars.getD i 0⟩ d.2).2.l[(ah ⟨31,s.loops,r.2.ab::(M.map fun i=>r.2.vars.getD i 0)++[d.1,d.2.ab]++M.map fun i=>d.2.vars.getD i 0⟩ d.2).1.toNat]?=some ⟨31,s.loops,r.2.ab::(M.map fun i=>r.2.vars.getD i 0)++[d.1,d.2.ab]++M.map fun i=>d.2.vars.getD i 0⟩:=Jz _ _;generalize ah ⟨31,s.loops,r.2.ab::(M.map fun i=>r.2.vars.getD i 0)++[d.1,d.2.ab]++M.map fun i=>d.2.vars.getD i 0⟩ d.2=k at *;have O:jo (2*M.length+3:Nat)=((M.length+1:Nat):Int):=DW;have k1':=k1.setV (x:=r.2.vars) (fun y hy=>(Y y hy).le lk.le.l) V.vl;obtain⟨f1,f2,f3⟩:=kG k1' (n:=⟨25,0,[k.1]⟩) (EM (n:=0) k2 hq ac (by rw[C,O];omega)) aH (i9 _ _ aH fF aw aH aH aH aH);rw[ai rfl]at f2;have lf:=cC ⟨25,0,[k.1]⟩ {k.2 with vars:=r.2.vars};have Z:r.2.l<+:(ah ⟨25,0,[k.1]⟩ {k.2 with vars:=r.2.vars}).2.l:=(J.l.trans lk.le.l).trans lf.le.l;have hfv:(ah ⟨25,0,[k.1]⟩ {k.2 with vars:=r.2.vars}).2.vars=r.2.vars:=lf.v;obtain⟨bZ,m2,m3⟩:=yW f1 (p2.le Z) f2 (V.st.le Z) (.inr rfl);have lm:=eZ r.1 (ah ⟨25,0,[k.1]⟩ {k.2 with vars:=r.2.vars}).1 r.2.ab (ah ⟨25,0,[k.1]⟩ {k.2 with vars:=r.2.vars}).2;generalize ah ⟨25,0,[k.1]⟩ {k.2 with vars:=r.2.vars}=f at *;generalize bA r.1 f.1 r.2.ab f.2=m at *;have j:k.2.l<+:m.2.l:=lf.le.l.trans lm.le.l;have hqm:m.2.l[k.1.toNat]?=some ⟨31,s.loops,r.2.ab::(M.map fun i=>r.2.vars.getD i 0)++[d.1,d.2.ab]++M.map fun i=>d.2.vars.getD i 0⟩:=by
  obtain⟨z,hz⟩:=j;rw[<-hz,rD,hq];have:=k2.hi;have:=k2.lo;omega
 obtain⟨z1,z2⟩:=SV (lp:=k.1) (k:=r.1) (old:=r.2.vars) M 1 {m.2 with ab:=m.1} (bZ.setS m2) (k2.le j) hqm (p2.le (Z.trans lm.le.l)) (fun y hy=>(V.v y hy).le (Z.trans lm.le.l)) U (ay _) (by rw[C,O];omega) ac;have lz:=tc k.1 r.1 r.2.vars M 1 {m.2 with ab:=m.1};refine⟨_,rfl,z1,?_,?_⟩
 .rw[lz.2.2.2];show m.2.loops<=_;rw[lm.n,lf.n];show k.2.loops<=_;rw[lk.n,ld.n];omega
 grind
def zfc(M:zd6 c){np n:Nat}(IS:BM c np n)(IW:Ka c np n):J9 c np (n+1):=fun x s hx hsz h hw=>by
 have hs:=x.aV;have hw1:=AS x;have hkd:=hx.kd;unfold lU;by_cases k1:x.am=1
 .rw[ai k1];obtain⟨r,hr,V,Y,p3⟩:=tk M n x.value s (hx.value (.inl k1)) ac h;have U:=dr c n _ _ _ hr;have hn:=hx.name (.inl k1);have hvl:=V.vl;rw[hr,cN,ai ac];exact⟨_,rfl,V.setV (fun y hy=>by
   rcases sm hy with hy|rfl
   .exact V.v y hy
   .exact Y) bb,by show r.2.loops<=_;rw[U.n];omega,yT⟩
 rw[af k1];by_cases k2:x.am=2
 .rw[ai k2];obtain⟨r,hr,V,Y,p3⟩:=tk M n x.a8 s (hx.a8 k2) ac h
  obtain⟨v,hv,q1,q2,q3⟩:=tk M n x.value r.2 (hx.value (.inr (.inl k2))) ac V;have U:=dr c n _ _ _ hr;have lv:=dr c n _ _ _ hv;have I:=hx.arr k2;rw[hr,cN,hv,cN,bj I,cN];have ha:=M.a _ (dm I);generalize c.aa[bV (c.aa.map (·.name)) x.name]=ar at ha⊢;have p2':=Y.le lv.le.l;obtain⟨O,a2⟩:=SG q1 (n:=ar.len) fF p2';have bU:=r0 ar.len r.1 v.2;obtain⟨j,Z,b3⟩:=SI M O (p2'.le bU.le.l) (q2.le bU.le.l) I;exact⟨_,rfl,j.setS Z,by show(eO ar.len r.1 v.2).loops<=_;rw[bU.n,lv.n,U.n];omega,yT⟩
 rw[af k2];by_cases k3:x.am=3
 .rw[ai k3];rw[af ac]at hw1;obtain⟨r,hr,V,Y,p3⟩:=tk M n x.value s (hx.value (.inr (.inr (.inl k3)))) ac h;have U:=dr c n _ _ _ hr;have hrn:=U.n;obtain⟨a,ha,O,a2,a3⟩:=IS x.bl r.2 hx.cY.1 ac V ac;have la:=(jD c n).2.1 _ _ _ ha;have hal:a.vars.length=c.aF.length:=O.vl;obtain⟨b,hb,j,Z,b3⟩:=IS x.bA {a with ab:=r.2.ab,vars:=r.2.vars} hx.cY.2 ac ((O.setS (V.st.le la.1.l)).setV (fun y hy=>(V.v y hy).le la.1.l) V.vl) (by show a.loops+_<=_;omega);have lb:=(jD c n).2.1 _ _ _ hb;have C:a.l<+:b.l:=lb.1.l;have kb:IsT b.l 1 r.1:=(Y.le la.1.l).le C;have hbl:=j.vl;obtain⟨m,hm,bZ,m2⟩:=SS (k:=r.1) (a:=a.vars) b.vars.length 0 b j kb (fun y hy=>(O.v y hy).le C) hal ac;have lm:=ta _ _ _ _ _ _ hm;rw[hr,cN,ha,cN,hb,cN,hm,cN];obtain⟨t1,t2,t3⟩:=yW bZ (kb.le lm.1.l) ((O.st.le C).le lm.1.l) bZ.st (.inr rfl);have lt:=eZ r.1 a.ab m.ab m;have hnl:=M.nl;refine⟨_,rfl,t1.setS t2,?_,?_⟩
  .show(bA r.1 a.ab m.ab m).2.loops<=_;rw[lt.n,lm.2.2.2];simp only at Z;omega
  grind
 rw[af k3];by_cases k4:x.am=4
 .rw[ai k4];exact IW x s hx k4 ac h hw
 rw[af k4];by_cases k5:x.am=5
 .rw[ai k5];obtain⟨r,hr,V,Y,p3⟩:=tk M n x.value s (hx.value (.inr (.inr (.inr (.inr k5))))) ac h;have U:=dr c n _ _ _ hr;rw[hr,cN];obtain⟨j,Z,b3⟩:=ze7 V Y;exact⟨_,rfl,j.setS Z,by show r.2.loops<=_;rw[U.n];omega,yT⟩
 rw[af k5];by_cases k6:x.am=6
 .rw[ai k6];obtain⟨r,hr,V,Y,p3⟩:=SL M (n:=n) x.args s hx.args ac h;obtain⟨U,hlr⟩:=sc c n _ _ _ hr;obtain⟨c1,c2⟩:=hx.call k6;obtain⟨i,hi,hfe⟩:=Eo c.funcs x.to 0 c1;obtain⟨f,hfn⟩:=oA c.funcs hi;have J:cJ c.funcs x.to 0=(i:Int):=by simpa using hfe
  have hn:=hx.name (.inr k6);have hvl:=V.vl;have hpar:r.1.length=f.params.length:=by
   rw[hlr,c2,pe,J,tT,hfn];rfl
  rw[hr,cN,ai ⟨c1,ac⟩];simp only[];rw[J];obtain⟨j,Z,b3⟩:=SJ M V Y hfn hpar;have lb:=cC ⟨30,i,r.2.ab::r.1⟩ r.2;generalize ah ⟨30,i,r.2.ab::r.1⟩ r.2=z at *;obtain⟨d1,d2,d3⟩:=ze8 (j.setS Z) Z;have ld:=cC ⟨24,0,[z.1]⟩ {z.2 with ab:=z.1};generalize ah ⟨24,0,[z.1]⟩ {z.2 with ab:=z.1}=w at *;refine⟨_,rfl,d1.setV (fun y hy=>?_) (by rw[jQ];exact d1.vl),?_,?_⟩
  .rcases sm hy with hy|rfl
   .exact d1.v y hy
   .exact d2
  .show w.2.loops<=_;rw[ld.n];show z.2.loops<=_;rw[lb.n,U.n];omega
  grind
 rw[af k6];by_cases k7:x.am=7
 .rw[ai k7];have ht:=hx.fI k7;have hw:bB (16+x.n)=16+x.n:=kR ac ac;rw[hw];obtain⟨O,a2,a3⟩:=BJ h (n:=0) fF;obtain⟨j,Z⟩:=J5 O (t:=16+x.n) a2 ac ac;have lb:=rj (16+x.n) (ah ⟨1,0,[]⟩ s).1 (ah ⟨1,0,[]⟩ s).2;exact⟨_,rfl,j,by rw[lb.n];show s.loops<=_;omega,ac⟩
 .omega
def zfd{np n:Nat}(V:J9 c np n)(M:BM c np n):BM c np (n+1):=fun l s O U h Z=>by
 cases l with
 |nil=>exact⟨s,by unfold eY;rfl,h,ac,ac⟩
 |cons x l=>
  obtain⟨hx,O⟩:=O.cons;rw[bi]at U⊢;rw[dg]at Z⊢;unfold eY;simp only[];obtain⟨r,hr,Y,J,I⟩:=V x s hx ac h ac;obtain⟨t,j,q1,q2,C⟩:=M l r O ac Y ac
  grind
theorem SX{c:Cx}(M:zd6 c){np:Nat}:∀n:Nat,J9 c np n/\BM c np n/\Ka c np n
 |0=>⟨fun x s _ h=>ac,fun l s _ h=>ac,fun x s hx _ h=>by have:=x.aV;omega⟩
 |n+1=>by
  obtain⟨a,b,d⟩:=SX M (np:=np) n;exact⟨zfc M b d,zfd a b,zfb M b⟩
section
variable {A:List Ar} {F:qN} {np:Nat}
def NdP.aF{x:Nd}(h:NdP ⟨A,F,N⟩ np x):NdP ⟨A,F,M⟩ np x:=⟨h.op,h.aP,h.len,h.pa,h.ar,h.fn⟩
def LI.aF(h:LI ⟨A,F,N⟩ np s)(O:M.length=N.length):LI ⟨A,F,M⟩ np s:=⟨h.nd,h.wf,fun x hx=>(h.p x hx).aF,h.v,h.vl.trans O.symm,h.st⟩
def LI.push(h:LI ⟨A,F,N⟩ np s){x:Int}(C:IsT s.l 1 x)(O:M.length=N.length+1):LI ⟨A,F,M⟩ np {s with vars:=s.vars++[x] }:=
 ⟨h.nd,h.wf,fun y hy=>(h.p y hy).aF,fun y hy=>by
  rcases nT.1 hy with hy|hy
  .exact h.v y hy
  simp_all,by
  have:=h.vl;simp_all,h.st⟩
theorem Kb(Z:np<=6):∀(m k:Nat) (s:Bd) (N M:List bG),LI ⟨A,F,N⟩ np s->M.length=N.length+m->k+m<=np->LI ⟨A,F,M⟩ np (gC m k s)/\(gC m k s).loops=s.loops/\(gC m k s).l.length<=s.l.length+m
 |0,k,s,N,M,h,hl,_=>⟨h.aF hl,rfl,ay _⟩
 |m+1,k,s,N,M,h,hl,hk=>by
  obtain⟨O,Y,J⟩:=kG h (n:=⟨2,k,[]⟩) (PQ ac ac) aH ⟨bb,BB,bb,fun _=>aX,fun e=>bb,fun e=>absurd e bb⟩;obtain⟨j,V,U⟩:=Kb Z m (k+1) { (ah ⟨2,k,[]⟩ s).2 with vars:=(ah ⟨2,k,[]⟩ s).2.vars++[(ah ⟨2,k,[]⟩ s).1] } ([]::N) M (O.push Y rfl) aX ac;exact⟨j,V,by have I:(gC (m+1) k s).l.length<=(ah ⟨2,k,[]⟩ s).2.l.length+m:=U;omega⟩
theorem Kc:∀(m:Nat) (s:Bd) (N M:List bG),LI ⟨A,F,N⟩ np s->M.length=N.length+m->LI ⟨A,F,M⟩ np (jq m s)/\(jq m s).loops=s.loops/\(jq m s).l.length<=s.l.length+m
 |0,s,N,M,h,hl=>⟨h.aF hl,rfl,ay _⟩
 |m+1,s,N,M,h,hl=>by
  obtain⟨O,Y,J⟩:=BJ h (n:=0) fF;obtain⟨j,Z,V⟩:=Kc m { (ah ⟨1,0,[]⟩ s).2 with vars:=(ah ⟨1,0,[]⟩ s).2.vars++[(ah ⟨1,0,[]⟩ s).1] } ([]::N) M (O.push Y rfl) aX;exact⟨j,Z,by have U:(jq (m+1) s).l.length<=(ah ⟨1,0,[]⟩ s).2.l.length+m:=V;omega⟩
def Kd:LI ⟨A,F,[]⟩ np { (ah ⟨26,0,[]⟩ ⟨[],[],0,0⟩).2 with ab:=(ah ⟨26,0,[]⟩ ⟨[],[],0,0⟩).1}:=by
 obtain⟨a,b⟩:=JF (l:=[]) (n:=⟨26,0,[]⟩) (fun i I=>by simp at I) PR aH;refine⟨SF List.nodup_nil,b,fun x hx=>?_,(fun y hy=>by cases hy),rfl,a⟩;rcases(rZ (l:=[]) (n:=⟨26,0,[]⟩)).1 hx with hx|rfl
 .cases hx
 .exact i9 _ _ aH fF aw aH aH aH aH
end
structure zf9 (p:Pr):Prop where
 ck:eN p=0
 rg:∀f∈p.funcs,cz f.body/\dA f.value
def Ke(h:eN p=0):jp p=false/\ib p=true/\ky p=false/\p.funcs.any (i4 p)=false/\p.funcs.any (kB p)=false:=by
 unfold eN at h
 grind
def FF{I:Type}{l:List I}{p:I->Bool}(h:l.any p=false){x:I}(C:x∈l):p x=false:=by
 simp_all
def zf9.fE(h:zf9 p):(∀a∈p.aa,1<=a.len/\a.len<=16)/\p.aa.length<=4/\p.funcs.length<=8/\∀f∈p.funcs,f.params.length<=6/\f.ak.length<=8/\dg f.body<=16:=by
 have hx:=(Ke h.ck).1;unfold jp at hx;simp only[jv,mU]at hx;obtain⟨⟨⟨m,Z⟩,C⟩,V⟩:=hx;refine⟨fun a O=>?_,ac,ac,fun f j=>?_⟩
 .have:=FF C O;unfold rT at this;simp_all
 .have:=FF V j;unfold nA at this
  grind
def zf9.cx(h:zf9 p){f:Fu}(j:f∈p.funcs):zd6 (kE p f):=by
 obtain⟨m,Z,C,V⟩:=h.fE;have:=V f j;exact⟨m,Z,C,fun g hg=>(V g hg).1,by show(f.params++f.ak).length<=14;grind⟩
def zf9.body(h:zf9 p){f:Fu}(j:f∈p.funcs):zil (kE p f) f.body/\XOk (kE p f) f.value:=by
 obtain⟨_,Z,_,V,Y⟩:=Ke h.ck;unfold ib at Z;rw[da,jX,jX]at Z;have w:=Z.2 f j;have u:=FF V j;have b:=FF Y j;unfold ku at w;unfold i4 at u;unfold kB at b;simp only[da,uj]at w u b;obtain⟨I,M⟩:=h.rg f j;exact⟨⟨w.1.2,u.1,b,I⟩,⟨w.2,u.2,M⟩⟩
theorem SY(h:zf9 p){n:Nat}(hn:2*p.sz<n){f:Fu}(j:f∈p.funcs):
 ∃s v,eY (kE p f) n f.body (jg f)=some s/\ec (kE p f) n f.value s=some v/\LI (kE p f) f.params.length v.2/\IsT v.2.l 1 v.1/\v.2.loops<=16/\v.2.l.length<=64*p.sz:=by
 obtain⟨_,_,_,V⟩:=h.fE;obtain⟨J,l2,l3⟩:=V f j;obtain⟨hb,Z⟩:=h.body j;have hc:=h.cx j;have hfz:=oc j;have hpz:p.sz=1+eA p.aa+dO p.funcs:=rfl;have hfs:f.sz=1+f.name.length+cP f.params+cP f.ak+bi f.body+f.value.sz:=rfl;have e0:=Kd (A:=p.aa) (F:=p.funcs) (np:=f.params.length);obtain⟨O,Y,U⟩:=Kb J f.params.length 0 _ [] f.params e0 aw ac;obtain⟨M,m,C⟩:=Kc f.ak.length _ f.params (f.params++f.ak) O bb;have hs:LI (kE p f) f.params.length (jg f):=M;have hs2:(jg f).loops=0:=m.trans Y;have hs3:(jg f).l.length<=15:=by
  have e1:(jg f).l.length<=(gC f.params.length 0 { (ah ⟨26,0,[]⟩ ⟨[],[],0,0⟩).2 with ab:=(ah ⟨26,0,[]⟩ ⟨[],[],0,0⟩).1}).l.length+f.ak.length:=C;have e2:(gC f.params.length 0 { (ah ⟨26,0,[]⟩ ⟨[],[],0,0⟩).2 with ab:=(ah ⟨26,0,[]⟩ ⟨[],[],0,0⟩).1}).l.length<=1+f.params.length:=U;omega
 obtain⟨s,q1,q2,q3,q4⟩:=(SX hc (np:=f.params.length) n).2.1 f.body (jg f) hb ac hs ac;obtain⟨v,I,z,r3,r4⟩:=tk hc n f.value s Z ac q2;have lv:=dr _ n _ _ _ I;exact⟨s,v,q1,I,z,r3,by rw[lv.n];omega,ac⟩
def LI.fin{np:Nat}(h:LI c np s)(O:s.l.length<2^36)(J:s.loops<=16):Fin s:=by
 refine⟨fun x hx=>?_,O,ac⟩;have hp:=h.p x hx;obtain⟨i,I,e⟩:=GM hx;have hg:s.l[i]?=some x:=bb;have M:=h.wf i I;rw[AR I]at M;obtain⟨t,z,_,_⟩:=NT hg M;refine⟨hp.op,hp.aP,fun k Y=>?_,by have:=hp.len;omega⟩;have:=yo z k Y;omega
def SZ(h:zf9 p)(V:p.sz<2^30){n:Nat}(J:2*p.sz<n):BH p n:=fun f j=>by
 obtain⟨s,v,m,Z,C,U,Y,O⟩:=SY h J j;exact⟨s,v,m,Z,C.fin ac Y⟩
def iM(l:qF)(A:Nat->Prop)(k:Int):Prop:=∀t,(rY l k).testBit t=true->A t
theorem yX(l:qF):∀{i j:Nat},j<i->(o0 l i).getD j 0=(match l[j]? with|some n=>yq n (o0 l j)|none=>0)
 |0,j,h=>by omega
 |i+1,j,h=>by
  rw[o0];by_cases e:j<i
  .rw[zbB (by rw[I2];exact e)];exact yX l e
  .obtain rfl:j=i:=by omega
   rw[zbC (I2 l j).symm]
   grind
theorem S0{l m:qF}:∀{i:Nat},i<=l.length->o0 (l++m) i=o0 l i
 |0,_=>rfl
 |i+1,h=>by
  have ih:=S0 (l:=l) (m:=m) (i:=i) ac;rw[o0,o0,ih,rD ac]
theorem S1{n:Nd}{h U:qG}:∀(C:qy) (j m:Nat),(∀k∈C,h.getD k.toNat 0=U.getD k.toNat 0)->ug n h j C m=ug n U j C m
 |[],j,m,_=>rfl
 |k::C,j,m,e=>by
  rw[ug,ug,S1 C _ _ fun q Z=>e q (en _ Z)];unfold Ee;simp_all
def zfe{i:Nat}{n:Nd}(J:l[i]?=some n)(z:∀k∈n.ao,0<=k/\k<i):rY l i=yq n (o0 l l.length):=by
 have I:i<l.length:=by
  grind
 unfold rY;rw[tT,yX l I,J];simp only;unfold yq;refine S1 _ _ _ fun k Y=>?_;have:=z k Y;rw[yX l (show k.toNat<i by omega),yX l (show k.toNat<l.length by omega)]
def S8{m:qF}(Z:0<=k)(h1:k<l.length):rY (l++m) k=rY l k:=by
 unfold rY;rw[yX _ (show k.toNat<(l++m).length by grind),yX _ (show k.toNat<l.length by omega),rD ac,S0 ac]
def iM.le(h:iM l A k)(Z:0<=k)(h1:k<l.length)(Y:l<+:O):iM O A k:=by
 obtain⟨m,rfl⟩:=Y;intro t j;rw[S8 Z h1]at j;exact h t j
def iM.mono(h:iM l A k)(U:∀t,A t->B t):iM l B k:=fun t j=>U t (h t j)
def zff{n:Nd}{h:qG}(C:n.op=3->A (n.aP.tdiv 16).toNat)(z:∀(j:Nat) (k:Int),n.ao[j]?=some k->∀t,(h.getD k.toNat 0).testBit t=true->A t\/(n.op=31/\jo n.ao.length<=j/\t=n.aP.toNat))(t:Nat)(Z:(yq n h).testBit t=true):A t:=by
 unfold yq at Z;rw[Of,sG]at Z;rcases Z with Z|Z
 .grind
 .obtain⟨⟨k,j⟩,Y,hb⟩:=List.any_eq_true.1 Z;have hg:n.ao[j]?=some k:=by
   have:=List.mem_zipIdx_iff_getElem?.1 Y;simpa using this
  simp only at hb;unfold Ee at hb;split at hb
  .rename_i c;rw[zbz,da,zbA]at hb;rcases z j k hg t hb.1 with a|⟨_,_,e⟩
   .exact a
   .rw[e]at hb;simp at hb
  grind
def zfg{n:Nd}(h:fL l n≠0):∀k∈n.ao,0<=k/\k<l.length:=by
 unfold fL at h;split at h
 .omega
 .rename_i s U;intro k z;have:=yo U k z;omega
def FG{n:Nd}(M:Bl l)(V:fL l n≠0)(I:n.op=3->A (n.aP.tdiv 16).toNat)(z:∀(j:Nat) (k:Int),n.ao[j]?=some k->∀t,(rY l k).testBit t=true->A t\/(n.op=31/\jo n.ao.length<=j/\t=n.aP.toNat)):iM (i7 l n) A (fK l n):=by
 obtain⟨a,b⟩:=JF M rfl V;have hg:=Jz l n;have J:=zcG l n;have C:=b _ J;rw[AR J]at C;obtain⟨s,h1,_,_⟩:=NT hg C;have U:=yo h1;intro t Z;rw[zfe hg fun k Y=>⟨(U k Y).1,(U k Y).2.1⟩]at Z;refine zff I (fun j k O t Z=>?_) t Z;have hr:=zfg V k (li O);obtain⟨m,Y⟩:=sZ l n;refine z j k O t ?_;rw[<-S8 (m:=m) hr.1 hr.2,Y];exact Z
def BN{n:Nd}(M:Bl l)(U:fL l n≠0)(C:n.op≠3)(z:∀k∈n.ao,iM l A k):iM (i7 l n) A (fK l n):=
 FG M U (fun e=>absurd e C) fun j k Y t Z=>.inl (z k (li Y) t Z)
structure IsM (A:Nat->Prop) (l:qF) (t k:Int):Prop where
 i:IsT l t k
 m:iM l A k
def IsM.le(h:IsM A l t k)(Z:l<+:O):IsM A O t k:=⟨h.i.le Z,h.m.le h.i.lo h.i.hi Z⟩
def IsM.mono{t:Int}(h:IsM A l t k)(U:∀t,A t->B t):IsM B l t k:=⟨h.i,h.m.mono U⟩
structure LG (c:Cx) (np:Nat) (A:Nat->Prop) (s:Bd):Prop where
 i:LI c np s
 v:∀y∈s.vars,IsM A s.l 1 y
 st:IsM A s.l 2 s.ab
structure Ql (s r:Bd):Prop where
 q:∀x∈r.l,x∈s.l\/(x.op≠3/\x.op≠31)
def Ql.refl(s:Bd):Ql s s:=⟨fun x h=>.inl h⟩
def xB:=@Ql.refl
def Ql.trans{a b d:Bd}(h:Ql a b)(k:Ql b d):Ql a d:=⟨fun x hx=>(k.q x hx).elim (fun j=>h.q x j) .inr⟩
def Ql.setS{a b:Bd}(h:Ql a b)(x:Int):Ql a {b with ab:=x}:=⟨h.q⟩
def Ql.ofS{a b:Bd}{x:Int}(h:Ql {a with ab:=x} b):Ql a b:=⟨h.q⟩
section
variable {c:Cx} {np:Nat} {A:Nat -> Prop} {s:Bd}
def LG.setS(h:LG c np A s){x:Int}(C:IsM A s.l 2 x):LG c np A {s with ab:=x}:=⟨h.i.setS C.i,h.v,C⟩
def LG.setV(h:LG c np A s){x:qy}(C:∀y∈x,IsM A s.l 1 y)(O:x.length=c.aF.length):LG c np A {s with vars:=x}:=⟨h.i.setV (fun y hy=>(C y hy).i) O,C,h.st⟩
def LG.dP(h:LG c np A s)(x:Nat):LG c np A {s with loops:=x}:=⟨h.i.dP x,h.v,h.st⟩
def LG.mono(h:LG c np A s)(U:∀t,A t->B t):LG c np B s:=⟨h.i,fun y hy=>(h.v y hy).mono U,h.st.mono U⟩
def LG.put(h:LG c np A s){n:Nd}(V:LI c np (ah n s).2):LG c np A (ah n s).2:=⟨V,fun y hy=>(h.v y hy).le (sZ _ _),h.st.le (sZ _ _)⟩
def FH(s:Bd){n:Nd}(Z:n.op≠3)(C:n.op≠31):Ql s (ah n s).2:=⟨fun x hx=>by
 rcases rZ.1 hx with hx|rfl
 .exact .inl hx
 omega⟩
def tl(h:LG c np A s){n:Nd}(U:fL s.l n=t)(j:t≠0)(V:NdP c np n)(Z:n.op≠3)(C:n.op≠31)(z:∀k∈n.ao,iM s.l A k):LG c np A (ah n s).2/\IsM A (ah n s).2.l t (ah n s).1/\Ql s (ah n s).2:=by
 obtain⟨a,b,_⟩:=kG h.i U j V;exact⟨h.put a,⟨b,BN h.i.wf (by rw[U];exact j) Z z⟩,FH s Z C⟩
def FI{a:Int}(h:iM l A a):∀k∈[a],iM l A k:=fun k z=>by
 simp_all
def FJ{a:Int}(h:iM l A a)(h2:iM l A b):∀k∈[a,b],iM l A k:=fun k z=>by
 grind
def Ta{a d:Int}(h:iM l A a)(h2:iM l A b)(C:iM l A d):∀k∈[a,b,d],iM l A k:=fun k z=>by
 grind
def yY(h:LG c np A s){a:Int}(z:IsM A s.l 1 k)(O:IsM A s.l t a)(hb:IsM A s.l t b)(j:t=1\/t=2):LG c np A (bA k a b s).2/\IsM A (bA k a b s).2.l t (bA k a b s).1/\Ql s (bA k a b s).2:=by
 unfold bA;split
 .exact⟨h,O,xB s⟩
 .exact tl h (PU z.i O.i hb.i j) ac (i9 _ _ aH fF aw aH aH aH aH) aw aw (Ta z.m O.m hb.m)
def Kf(h:LG c np A s){v:Int}(Z:IsM A s.l 1 v)(m:1<=t)(h1:t<=1000016):LG c np A (kC t v s)/\Ql s (kC t v s):=by
 have:=tl h (n:=⟨27,t,[s.ab,v]⟩) (PW h.st.i Z.i m h1) aH (i9 _ _ aH fF aw aH aH aH aH) aw aw (FJ h.st.m Z.m);exact⟨this.1.setS this.2.1,this.2.2.setS _⟩
def BO(h:LG c np A s){n:Int}(J:gV n):LG c np A (ah ⟨1,n,[]⟩ s).2/\IsM A (ah ⟨1,n,[]⟩ s).2.l 1 (ah ⟨1,n,[]⟩ s).1/\Ql s (ah ⟨1,n,[]⟩ s).2:=
 tl h (PP n) aH (i9 _ _ aH J aw aH aH aH aH) aw aw aw
def FK(h:LG c np A s){op a:Int}(O:IsM A s.l 1 a)(hb:IsM A s.l 1 b)(m:4<=op)(h1:op<=19):LG c np A (ah ⟨op,0,[a,b]⟩ s).2/\IsM A (ah ⟨op,0,[a,b]⟩ s).2.l 1 (ah ⟨op,0,[a,b]⟩ s).1/\Ql s (ah ⟨op,0,[a,b]⟩ s).2:=
 tl h (PS O.i hb.i m h1) aH (i9 _ _ ac fF aw ac ac ac ac) aX aX (FJ O.m hb.m)
def Tb(h:LG c np A s){n i:Int}(J:gV n)(I:IsM A s.l 1 i):LG c np A (eO n i s)/\Ql s (eO n i s):=by
 obtain⟨Z,Y,V⟩:=BO h J;have O:=I.le (cC ⟨1,n,[]⟩ s).le.l;obtain⟨j,m,U⟩:=FK Z (op:=19) O Y aH aH;obtain⟨M,C⟩:=Kf j (t:=2) m aH aH;exact⟨M,V.trans (U.trans C)⟩
def zfh(h:LG c np A s){i:Int}(I:IsM A s.l 1 i):LG c np A (mF i s)/\Ql s (mF i s):=by
 obtain⟨Z,Y,J⟩:=BO h (n:=0) fF;have O:=I.le (cC ⟨1,0,[]⟩ s).le.l;obtain⟨j,m,V⟩:=FK Z (op:=16) O Y aH aH;obtain⟨U,M⟩:=Kf j (t:=1) m aH aH;exact⟨U,J.trans (V.trans M)⟩
def zfi(M:zd6 c)(h:LG c np A s){i:Int}(I:IsM A s.l 1 i){k:Nat}(z:k<c.aa.length):LG c np A (ah ⟨23,k,[s.ab,i]⟩ s).2/\IsM A (ah ⟨23,k,[s.ab,i]⟩ s).2.l 1 (ah ⟨23,k,[s.ab,i]⟩ s).1/\Ql s (ah ⟨23,k,[s.ab,i]⟩ s).2:=by
 obtain⟨a,b,_⟩:=SH M h.i I.i z;have al:=M.al;exact⟨h.put a,⟨b,BN h.i.wf (by rw[PV h.st.i I.i ac ac];decide) bb (FJ h.st.m I.m)⟩,FH s bb bb⟩
def zfj(M:zd6 c)(h:LG c np A s){i v:Int}(I:IsM A s.l 1 i)(Z:IsM A s.l 1 v){k:Nat}(z:k<c.aa.length):LG c np A (ah ⟨28,k,[s.ab,i,v]⟩ s).2/\IsM A (ah ⟨28,k,[s.ab,i,v]⟩ s).2.l 2 (ah ⟨28,k,[s.ab,i,v]⟩ s).1/\Ql s (ah ⟨28,k,[s.ab,i,v]⟩ s).2:=by
 obtain⟨a,b,_⟩:=SI M h.i I.i Z.i z;have al:=M.al;exact⟨h.put a,⟨b,BN h.i.wf (by rw[PY h.st.i I.i Z.i ac ac];decide) bb (Ta h.st.m I.m Z.m)⟩,FH s bb bb⟩
def zfk(h:LG c np A s){v:Int}(Z:IsM A s.l 1 v):LG c np A (ah ⟨29,0,[s.ab,v]⟩ s).2/\IsM A (ah ⟨29,0,[s.ab,v]⟩ s).2.l 2 (ah ⟨29,0,[s.ab,v]⟩ s).1/\Ql s (ah ⟨29,0,[s.ab,v]⟩ s).2:=
 tl h (PX h.st.i Z.i) aH (i9 _ _ aH fF aw aH aH aH aH) aw aw (FJ h.st.m Z.m)
def zfl(h:LG c np A s){v:Int}(Z:IsM A s.l 2 v):LG c np A (ah ⟨24,0,[v]⟩ s).2/\IsM A (ah ⟨24,0,[v]⟩ s).2.l 1 (ah ⟨24,0,[v]⟩ s).1/\Ql s (ah ⟨24,0,[v]⟩ s).2:=
 tl h (PZ Z.i) aH (i9 _ _ aH fF aw aH aH aH aH) aw aw (FI Z.m)
def zfm(M:zd6 c)(h:LG c np A s){Z:qy}(O:∀a∈Z,IsM A s.l 1 a){k:Nat}{f:Fu}(j:c.funcs[k]?=some f)(Y:Z.length=f.params.length):LG c np A (ah ⟨30,k,s.ab::Z⟩ s).2/\IsM A (ah ⟨30,k,s.ab::Z⟩ s).2.l 2 (ah ⟨30,k,s.ab::Z⟩ s).1/\Ql s (ah ⟨30,k,s.ab::Z⟩ s).2:=by
 obtain⟨a,b,_⟩:=SJ M h.i (fun a h=>(O a h).i) j Y;have V:=M.fl;have J:=M.fp f (li j);have z:k<c.funcs.length:=by
  grind
 refine⟨h.put a,⟨b,BN h.i.wf (by rw[P1 h.st.i (fun a h=>(O a h).i) ac ac ac];decide) bb fun q U=>?_⟩,FH s bb bb⟩;rcases gH.1 U with rfl|U
 .exact h.st.m
 .exact(O q U).m
end
theorem tm{c:Cx}(hc:zd6 c){np:Nat}{A:Nat->Prop}:∀(n:Nat) (x:Ex) (s:Bd),XOk c x->x.sz<n->LG c np A s->∃r,ec c n x s=some r/\LG c np A r.2/\IsM A r.2.l 1 r.1/\Ql s r.2
 |0,x,s,hx,hd,hs=>by omega
 |n+1,x,s,hx,hd,hs=>by
  have m:=tm hc (np:=np) (A:=A) n;have hwf:=hx.wf;have j:=hx.df;have hrg:=(JG x).1 hx.rg;rw[A1,da,mC]at hwf;rw[A4,da,iZ]at j;have M:=hwf.2;have hsz:=x.aV;unfold ec;by_cases e1:x.am=1
  .rw[ai e1];obtain⟨a,b,d⟩:=BO hs hrg.1;exact⟨_,rfl,a,b,d⟩
  rw[af e1]at M⊢;by_cases e2:x.am=2
  .rw[ai e2];have hn:bE c.aF x.name=true:=by have:=j.2;simp[e2]at this;exact this
   have J:bV c.aF x.name<s.vars.length:=by rw[hs.i.vl];exact vR hn
   rw[bj J,sD];exact⟨_,rfl,hs,hs.v _ (dm J),xB s⟩
  rw[af e2]at M⊢;by_cases e3:x.am=3
  .rw[ai e3]at M⊢;simp only[oQ]at M;have hn:bE (c.aa.map (·.name)) x.name=true:=by have:=j.2;simp[e3]at this;exact this
   have J:=vR hn;rw[dx]at J;obtain⟨k,z⟩:=oA x.ao (i:=0) ac;have hks:=BK z;obtain⟨r,hr,Z,V,r3⟩:=m k s (hx.er z) ac hs;rw[z,cN,hr,cN,bj J,cN];have ha:=hc.a _ (dm J);generalize c.aa[bV (c.aa.map (·.name)) x.name]=ar at ha⊢;obtain⟨a1,a2⟩:=Tb Z (n:=ar.len) fF V;obtain⟨O,C,b3⟩:=zfi hc a1 (V.le (r0 ar.len r.1 r.2).le.l) J;exact⟨_,rfl,O,C,r3.trans (a2.trans b3)⟩
  rw[af e3]at M⊢;by_cases e5:x.am=5
  .have e4:¬x.am=4:=by omega
   rw[af e4,ai e5]at M;rw[ai e5];simp only[oQ]at M;obtain⟨k,z⟩:=oA x.ao (i:=0) ac;obtain⟨k1,I⟩:=oA x.ao (i:=1) ac;obtain⟨k2,U⟩:=oA x.ao (i:=2) ac;have hks:=SK z I U;obtain⟨r,hr,p1,p2,p3⟩:=m k s (hx.er z) ac hs;obtain⟨Z,Y,q1,q2,q3⟩:=m k1 r.2 (hx.er I) ac p1;have l1:=dr c n _ _ _ Y;obtain⟨V,hr2,t1,t2,t3⟩:=m k2 {Z.2 with ab:=r.2.ab} (hx.er U) ac (q1.setS (p1.st.le l1.le.l));have l2:=dr c n _ _ _ hr2;rw[z,cN,hr,cN,I,cN,Y,cN,U,cN,hr2,cN];have pc:IsM A V.2.l 1 r.1:=(p2.le l1.le.l).le l2.le.l;obtain⟨bZ,m2,m3⟩:=yY t1 pc (q2.le l2.le.l) t2 (.inl rfl);have lm:=eZ r.1 Z.1 V.1 V.2;obtain⟨cS,n2,n3⟩:=yY bZ (pc.le lm.le.l) ((q1.st.le l2.le.l).le lm.le.l) bZ.st (.inr rfl);have ln:=eZ r.1 Z.2.ab (bA r.1 Z.1 V.1 V.2).2.ab (bA r.1 Z.1 V.1 V.2).2;exact⟨_,rfl,cS.setS n2,m2.le ln.le.l,(p3.trans (q3.trans (t3.ofS.trans (m3.trans n3)))).setS _⟩
  rw[af e5]at M⊢;by_cases e4:x.am=4
  .rw[ai e4]at M;simp only[da,sG,rG]at M;have hl:x.ao.length=2\/x.ao.length=1:=by rcases M.2 with h|h<;>omega
   obtain⟨k,z⟩:=oA x.ao (i:=0) ac;have hks:=BK z;obtain⟨r,hr,p1,p2,p3⟩:=m k s (hx.er z) ac hs;rw[z,cN,hr,cN];by_cases e6:x.ao.length=1
   .rw[ai e6];have ho:x.op=20\/x.op=21:=by
     rcases M.2 with h|h
     .omega
     .exact h.2
    obtain⟨a,b,d⟩:=tl p1 (PT p2.i ho) aH (i9 _ _ ac fF aw ac ac ac ac) (by show x.op≠3;omega) (by show x.op≠31;omega) (FI p2.m);exact⟨_,rfl,a,b,p3.trans d⟩
   .rw[af e6];obtain⟨k1,I⟩:=oA x.ao (i:=1) ac;have hks2:=J6 z I;obtain⟨Z,Y,q1,q2,q3⟩:=m k1 r.2 (hx.er I) ac p1;have l1:=dr c n _ _ _ Y;rw[I,cN,Y,cN];have ho:4<=x.op/\x.op<=18:=by
     rcases M.2 with h|h
     .have:=h.2;simp[pY]at this;exact this
     .omega
    have p2':=p2.le l1.le.l;by_cases e7:x.op=7\/x.op=8
    .rw[ai e7];obtain⟨a1,a2⟩:=zfh q1 q2;have ld:=Bk Z.1 Z.2;obtain⟨O,C,b3⟩:=FK a1 (p2'.le ld.le.l) (q2.le ld.le.l) (by omega:4<=x.op) ac;exact⟨_,rfl,O,C,p3.trans (q3.trans (a2.trans b3))⟩
    .rw[af e7];obtain⟨O,C,b3⟩:=FK q1 p2' q2 (by omega:4<=x.op) ac;exact⟨_,rfl,O,C,p3.trans (q3.trans b3)⟩
  simp_all
theorem Tc{c:Cx}(M:zd6 c){np n:Nat}{A:Nat->Prop}:∀(l:qI) (s:Bd),(∀x∈l,XOk c x)->cy l<n->LG c np A s->∃r,nC c n l s=some r/\LG c np A r.2/\(∀a∈r.1,IsM A r.2.l 1 a)/\Ql s r.2
 |[],s,hx,hd,hs=>⟨_,rfl,hs,aw,xB s⟩
 |x::l,s,hx,hd,hs=>by
  rw[cy]at hd;obtain⟨r,hr,V,Y,U⟩:=tm M n x s (hx x eg) ac hs;obtain⟨Z,C,q1,q2,J⟩:=Tc (n:=n) M l r.2 (fun y hy=>hx y (en _ hy)) ac V;have I:=(sc c n _ _ _ C).1;refine⟨(r.1::Z.1,Z.2),Sf,q1,fun a O=>?_,U.trans J⟩;rcases gH.1 O with rfl|O
  .exact Y.le I.le.l
  .exact q2 a O
structure LP (s:Bd):Prop where
 l1:∀x∈s.l,x.op=31->0<=x.aP/\x.aP<s.loops
 l2:∀x∈s.l,∀y∈s.l,x.op=31->y.op=31->x.aP=y.aP->x=y
 l3:∀x∈s.l,x.op=3->0<=x.aP/\x.aP<16*s.loops
 l4:∀x∈s.l,∀y∈s.l,x.op=31->y.op=3->y.aP.tdiv 16=x.aP->y.aP.tmod 16<jo x.ao.length
structure Dl (s r:Bd):Prop where
 d:∀x∈r.l,x∈s.l\/((x.op=31->(s.loops:Int)<=x.aP)/\(x.op=3->16*(s.loops:Int)<=x.aP))
 n:s.loops<=r.loops
def Dl.refl(s:Bd):Dl s s:=⟨fun x h=>.inl h,ay _⟩
def Dl.trans{a b e:Bd}(h:Dl a b)(k:Dl b e):Dl a e:=⟨fun x hx=>by
 have J:=h.n;rcases k.d x hx with m|⟨m,j⟩
 .exact h.d x m
 omega,dw h.n k.n⟩
def Ql.dl(h:Ql s r)(J:s.loops<=r.loops):Dl s r:=⟨fun x hx=>(h.q x hx).imp id fun q=>⟨fun e=>absurd e q.2,fun e=>absurd e q.1⟩,J⟩
def Ql.fU(h:Ql s r){x:Nd}(C:x∈r.l)(e:x.op=31):x∈s.l:=(h.q x C).elim id fun q=>absurd e q.2
def Ql.m3(h:Ql s r){x:Nd}(C:x∈r.l)(e:x.op=3):x∈s.l:=(h.q x C).elim id fun q=>absurd e q.1
def LP.ql(h:LP s)(q:Ql s r)(J:s.loops<=r.loops):LP r:=
 ⟨fun x hx e=>by have:=h.l1 x (q.fU hx e) e;omega,fun x hx y hy ex C=>h.l2 x (q.fU hx ex) y (q.fU hy C) ex C,fun x hx e=>by have:=h.l3 x (q.m3 hx e) e;omega,fun x hx y hy ex C=>h.l4 x (q.fU hx ex) y (q.m3 hy C) ex C⟩
def LP.setS(h:LP s)(x:Int):LP {s with ab:=x}:=⟨h.l1,h.l2,h.l3,h.l4⟩
def LP.setV(h:LP s)(x:qy):LP {s with vars:=x}:=⟨h.l1,h.l2,h.l3,h.l4⟩
def Dl.setS(h:Dl s r)(x:Int):Dl s {r with ab:=x}:=⟨h.d,h.n⟩
def Dl.setV(h:Dl s r)(x:qy):Dl s {r with vars:=x}:=⟨h.d,h.n⟩
theorem zfn(k a b:Int)(s:Bd)(z:Int):bA k a b {s with ab:=z}=((bA k a b s).1,{ (bA k a b s).2 with ab:=z}):=by
 unfold bA;split<;>rfl
section
variable {c:Cx} {np:Nat} {A:Nat -> Prop}
theorem Td{k:Int}{a:qy}:∀(m i:Nat) (s:Bd),LG c np A s->IsM A s.l 1 k->(∀y∈a,IsM A s.l 1 y)->a.length=c.aF.length->i+m=c.aF.length->∃r,lC k a m i s=some r/\LG c np A r/\Ql s r
 |0,i,s,h,_,_,_,_=>⟨s,rfl,h,xB s⟩
 |m+1,i,s,h,hk,ha,hl,hi=>by
  have V:=h.i.vl;have Z:i<a.length:=ac;have j:i<s.vars.length:=ac;unfold lC;rw[bj Z,cN,bj j,cN];obtain⟨bZ,U,Y⟩:=yY h hk (ha _ (dm Z)) (h.v _ (dm j)) (.inl rfl);have lv:=eZ k a[i] s.vars[i] s;obtain⟨r,e,I,M⟩:=Td m (i+1) { (bA k a[i] s.vars[i] s).2 with vars:=(bA k a[i] s.vars[i] s).2.vars.set i (bA k a[i] s.vars[i] s).1} (bZ.setV (fun y hy=>by
   rcases sm hy with hy|rfl
   .exact bZ.v y hy
   .exact U) (by rw[jQ];exact bZ.i.vl)) (hk.le lv.le.l) (fun y hy=>(ha y hy).le lv.le.l) hl ac
  exact⟨r,e,I,Y.trans ⟨M.q⟩⟩
def zfo(k m:Nat)(s r:Bd):Prop:=∀x∈r.l,x∈s.l\/(x.op=3/\16*(k:Int)<=x.aP/\x.aP<16*(k:Int)+m)
theorem Te{k m:Nat}(z:k<=15)(Z:A k)(O:m<=16):∀(M:qG) (j:Nat) (s:Bd),LG c np A s->j+M.length+1<=m->LG c np A (ik (16*(k:Int)+1) M j s)/\zfo k m s (ik (16*(k:Int)+1) M j s)
 |[],j,s,h,_=>⟨h,fun x hx=>.inl hx⟩
 |w::M,j,s,h,Y=>by
  rw[gF]at Y;have V:(16*(k:Int)+1+j).tmod 16=1+j:=by
   grind
  have hdi:(16*(k:Int)+1+j).tdiv 16=k:=by
   grind
  have U:fL s.l ⟨3,16*(k:Int)+1+j,[]⟩=1:=by rw[EK ac ac,V,af ac]
  obtain⟨bZ,J,m3⟩:=kG h.i (n:=⟨3,16*(k:Int)+1+j,[]⟩) U aH (i9 _ _ aH fF aw aH aH aH aH);have mm:iM (ah ⟨3,16*(k:Int)+1+j,[]⟩ s).2.l A (ah ⟨3,16*(k:Int)+1+j,[]⟩ s).1:=FG h.i.wf (by rw[U];decide) (fun _=>bb) (fun j k Y=>by simp at Y);have hg:=h.put bZ;unfold ik;obtain⟨I,C⟩:=Te z Z O M (j+1) { (ah ⟨3,16*(k:Int)+1+j,[]⟩ s).2 with vars:=(ah ⟨3,16*(k:Int)+1+j,[]⟩ s).2.vars.set w (ah ⟨3,16*(k:Int)+1+j,[]⟩ s).1} (hg.setV (fun y hy=>by
   rcases sm hy with hy|rfl
   .exact hg.v y hy
   .exact⟨J,mm⟩) J7) ac
  refine⟨I,fun x hx=>?_⟩;rcases C x hx with hx|hx
  .rcases rZ.1 hx with hx|rfl
   .exact .inl hx
   grind
  .exact .inr hx
theorem Tf{lp k:Int}{old:qy}{q:Nd}:∀(M:qG) (j:Nat) (s:Bd),LG c np A s->IsM A s.l 3 lp->s.l[lp.toNat]?=some q->IsM A s.l 1 k->(∀y∈old,IsM A s.l 1 y)->(∀w∈M,w<old.length)->1<=j->((j+M.length:Nat):Int)<=jo q.ao.length->j+M.length<=16 ->
 LG c np A (fD lp k old M j s)/\Ql s (fD lp k old M j s)
 |[],j,s,h,_,_,_,_,_,_,_,_=>⟨h,xB s⟩
 |w::M,j,s,h,hlp,hq,hk,ho,hw,hj,hlv,h16=>by
  rw[gF]at hlv h16;have hs:fL s.l ⟨25,j,[lp]⟩=1:=by rw[EM hlp.i hq ac ac,af ac]
  obtain⟨bZ,O,J⟩:=tl h (n:=⟨25,j,[lp]⟩) hs aH (i9 _ _ aH fF aw aH aH aH aH) aw aw (FI hlp.m);have V:=cC ⟨25,j,[lp]⟩ s;have hwo:=hw w eg;have Z:old.getD w 0∈old:=bb;obtain⟨cS,I,C⟩:=yY bZ (hk.le V.le.l) O ((ho _ Z).le V.le.l) (.inl rfl);have Y:=V.trans (eZ k (ah ⟨25,j,[lp]⟩ s).1 (old.getD w 0) (ah ⟨25,j,[lp]⟩ s).2);unfold fD;simp only[];generalize bA k (ah ⟨25,j,[lp]⟩ s).1 (old.getD w 0) (ah ⟨25,j,[lp]⟩ s).2=z at *;have U:z.2.l[lp.toNat]?=some q:=by
   obtain⟨t,ht⟩:=Y.le.l
   grind
  obtain⟨m,r2⟩:=Tf (q:=q) (lp:=lp) (k:=k) (old:=old) M (j+1) {z.2 with vars:=z.2.vars.set w z.1} (cS.setV (fun y hy=>by
   rcases sm hy with hy|rfl
   .exact cS.v y hy
   .exact I) (by rw[jQ];exact cS.i.vl)) (hlp.le Y.le.l) U (hk.le Y.le.l) (fun y hy=>(ho y hy).le Y.le.l) (fun y hy=>hw y (en _ hy)) ac ac ac
  exact⟨m,J.trans (C.trans ⟨r2.q⟩)⟩
end
def Kg(c:Cx)(np n:Nat):Prop:=∀A x s,SOk c x->2*x.sz<n->LG c np A s->LP s->s.loops+cm x<=16->∃r,lU c n x s=some r/\LG c np A r/\LP r/\r.loops<=s.loops+cm x/\Dl s r
def BP(c:Cx)(np n:Nat):Prop:=∀A l s,zil c l->2*bi l<n->LG c np A s->LP s->s.loops+dg l<=16->∃r,eY c n l s=some r/\LG c np A r/\LP r/\r.loops<=s.loops+dg l/\Dl s r
def Kh(c:Cx)(np n:Nat):Prop:=∀A x s,SOk c x->x.am=4->2*x.sz<=n->LG c np A s->LP s->s.loops+cm x<=16->∃r,nD c n x s=some r/\LG c np A r/\LP r/\r.loops<=s.loops+cm x/\Dl s r
def zfp{np k:Nat}{d:Bd}{ws:qG}{dv:Int}(hk:k<=15)(hwl:ws.length<=14)(hr:LG c np A r)(hd:LG c np (fun t=>A t\/t=k) d)(hv:IsM (fun t=>A t\/t=k) d.l 1 dv)(Z:r.l<+:d.l)(z:∀i∈ws,i<r.vars.length)(N:Nd)
 (O:N=⟨31,k,r.ab::(ws.map fun i=>r.vars.getD i 0)++[dv,d.ab]++ws.map fun i=>d.vars.getD i 0⟩) :
 LG c np A { (ah N d).2 with vars:=r.vars,ab:=r.ab} /\ IsM A (ah N d).2.l 3 (ah N d).1/\N.ao.length=2*ws.length+3:=by
 have m:∀a∈ws.map fun i=>r.vars.getD i 0,IsM A d.l 1 a:=fun a M=>by
  obtain⟨i,I,rfl⟩:=mh.1 M;rw[gU,bj (z i I)];exact(hr.v _ (dm _)).le Z
 have hn:∀a∈ws.map fun i=>d.vars.getD i 0,IsM (fun t=>A t\/t=k) d.l 1 a:=fun a M=>by
  obtain⟨i,I,rfl⟩:=mh.1 M;have:=z i I;have e1:=hd.i.vl;have e2:=hr.i.vl;rw[gU,bj (show i<d.vars.length by omega)];exact hd.v _ (dm _)
 have C:N.ao.length=2*ws.length+3:=aX;have hs:fL d.l N=3:=by
  rw[O];exact P2 (hr.st.i.le Z) (fun a h=>(m a h).i) hv.i hd.st.i (fun a h=>(hn a h).i) aw cb ac ac
 have ho31:N.op=31:=by rw[O]
 have him:N.aP=k:=by rw[O]
 have hp:NdP c np N:=by
  have:=i9 c np (op:=31) (imm:=k) (kids:=N.ao) aH fF ac aH aH aH aH;simp_all
 obtain⟨k1,k2,_⟩:=kG hd.i hs aH hp;have km:iM (ah N d).2.l A (ah N d).1:=FG hd.i.wf (by rw[hs];decide) (fun e=>ac) (fun j q hj t J=>by
  by_cases c1:jo N.ao.length<=j
  .have Y:q∈N.ao:=li hj;have hq:iM d.l (fun t=>A t\/t=k) q:=by
    rw[O]at Y;simp only[nT,jh]at Y;rcases Y with((rfl|Y)|rfl|rfl)|Y
    .exact(hr.st.le Z).m.mono fun _=>.inl
    .exact(m q Y).m.mono fun _=>.inl
    .exact hv.m
    .exact hd.st.m
    .exact(hn q Y).m
   rcases hq t J with h|h
   .exact .inl h
   omega
  .rw[C,NX _ ac]at c1;have hlt:j<(r.ab::(ws.map fun i=>r.vars.getD i 0)).length:=cb;have Y:q∈r.ab::(ws.map fun i=>r.vars.getD i 0):=by
    grind
   rcases gH.1 Y with rfl|Y
   .exact .inl ((hr.st.le Z).m t J)
   .exact .inl ((m q Y).m t J))
 have lk:=(cC N d).le.l;have V:IsM A (ah N d).2.l 2 r.ab:=(hr.st.le Z).le lk;have U:∀y∈r.vars,IsM A (ah N d).2.l 1 y:=fun y hy=>((hr.v y hy).le Z).le lk;exact⟨⟨(k1.setV (fun y hy=>(U y hy).i) hr.i.vl).setS V.i,U,V⟩,⟨k2,km⟩,C⟩
theorem zfq(hc:zd6 c){np n:Nat}(IS:BP c np n):Kh c np (n+1):=fun A x s hx hk hsz h hP hw=>by
 have hs:=x.aV;have hw1:=AS x;rw[ai hk]at hw1;have hv:=hx.value (.inr (.inr (.inr (.inl hk))));unfold nD;obtain⟨r,hr,J,p2,p3⟩:=tm hc n x.value {s with loops:=s.loops+1} hv ac (h.dP _);have lr:=dr c n _ _ _ hr;have hrn:r.2.loops=s.loops+1:=lr.n;obtain⟨b,hb,hbl⟩:=BL n x.bl (List.replicate r.2.vars.length false) hx.cY.1 ac (by rw[xm];exact J.i.vl);rw[hr,cN,hb,cN];simp only[];have hwl:=SW b;have hnl:=hc.nl;have hwm:∀i∈eS b,i<r.2.vars.length:=fun i hi=>by have:=Fl hi;have:=J.i.vl;omega
 generalize eS b=M at *;have hm:(16*(s.loops:Int)).tmod 16=0:=bb;have hdv:(16*(s.loops:Int)).tdiv 16=s.loops:=bb;have hsq:fL r.2.l ⟨3,16*(s.loops:Int),[]⟩=2:=by rw[EK ac ac,hm,ai rfl]
 have p1':LG c np (fun t=>A t\/t=s.loops) r.2:=J.mono fun _=>.inl;obtain⟨q1,q2,_⟩:=kG J.i (n:=⟨3,16*(s.loops:Int),[]⟩) hsq aH (i9 _ _ aH fF aw aH aH aH aH);have qm:iM (ah ⟨3,16*(s.loops:Int),[]⟩ r.2).2.l (fun t=>A t\/t=s.loops) (ah ⟨3,16*(s.loops:Int),[]⟩ r.2).1:=FG J.i.wf (by rw[hsq];decide) (fun _=>.inr bb) (fun j k hj=>by simp at hj);have qg:=p1'.put q1;have lq:=cC ⟨3,16*(s.loops:Int),[]⟩ r.2;have vq:∀y∈(ah ⟨3,16*(s.loops:Int),[]⟩ r.2).2.l,y∈r.2.l\/(y.op=3/\y.aP=16*(s.loops:Int)):=fun y hy=>by
  rcases rZ.1 hy with hy|rfl
  .exact .inl hy
  simp_all
 generalize ah ⟨3,16*(s.loops:Int),[]⟩ r.2=q at *;obtain⟨u1,u2⟩:=Te (k:=s.loops) (m:=M.length+1) (A:=fun t=>A t\/t=s.loops) ac (.inr rfl) ac M 0 {q.2 with ab:=q.1} (qg.setS ⟨q2,qm⟩) ac;have lu:=sd (16*(s.loops:Int)+1) M 0 {q.2 with ab:=q.1};generalize ik (16*(s.loops:Int)+1) M 0 {q.2 with ab:=q.1}=u at *;have hun:u.loops=s.loops+1:=SM
 -- what is in u: nodes of s,quiet ones,variables of this loop
 have hu:∀y∈u.l,y∈s.l\/(y.op≠3/\y.op≠31)\/(y.op=3/\16*(s.loops:Int)<=y.aP/\y.aP<16*(s.loops:Int)+(M.length+1:Nat)):=fun y hy=>by
  rcases u2 y hy with hy|hy
  .rcases vq y hy with hy|⟨e1,e2⟩
   .rcases p3.q y hy with hy|hy
    .exact .inl hy
    .exact .inr (.inl hy)
   .exact .inr (.inr ⟨e1,ac,ac⟩)
  omega
 have O:∀y∈u.l,y.op=31->y∈s.l:=fun y hy e=>by
  grind
 have uP:LP u:=by
  refine⟨fun y hy e=>?_,fun y hy z C V I=>hP.l2 y (O y hy V) z (O z C I) V I,fun y hy e=>?_,fun y hy z C V I e=>?_⟩
  .have:=hP.l1 y (O y hy e) e;omega
  .rcases hu y hy with Z|Z|Z
   .have:=hP.l3 y Z e;omega
   .omega
   .omega
  .rcases hu z C with Z|Z|Z
   .exact hP.l4 y (O y hy V) z Z V I e
   .omega
   .have:=hP.l1 y (O y hy V) V
    grind
 obtain⟨t,ht,t1,tP,t2,t3⟩:=IS _ x.bl u hx.cY.1 ac u1 uP ac;have lt:=(jD c n).2.1 _ _ _ ht;rw[ht,cN];obtain⟨d,hd,d1,d2,d3⟩:=tm hc n x.value t hv ac t1;have ld:=dr c n _ _ _ hd;have dP:=tP.ql d3 (by rw[ld.n];omega);rw[hd,cN];have le1:ea r.2 d.2:=(lq.le.setS q.1).trans (lu.1.trans (lt.1.trans ld.le));have tn:=t3.n;have hdn:s.loops+1<=d.2.loops:=by rw[ld.n];omega
 -- what is in d
 have hd31:∀y∈d.2.l,y.op=31->y∈s.l\/(s.loops:Int)+1<=y.aP:=fun y hy e=>by
  rcases t3.d y (d3.fU hy e)with Z|Z
  .exact .inl (O y Z e)
  omega
 have hd3:∀y∈d.2.l,y.op=3->y∈s.l\/(16*(s.loops:Int)<=y.aP/\y.aP<16*(s.loops:Int)+(M.length+1:Nat))\/16*((s.loops:Int)+1)<=y.aP:=fun y hy e=>by
  rcases t3.d y (d3.m3 hy e)with Z|Z
  .rcases hu y Z with Z|Z|Z
   .exact .inl Z
   .exact absurd e Z.1
   .exact .inr (.inl Z.2)
  omega
 obtain⟨g1,g2,hkl⟩:=zfp (k:=s.loops) (dv:=d.1) ac ac J d1 d2 le1.l hwm ⟨31,s.loops,r.2.ab::(M.map fun i=>r.2.vars.getD i 0)++[d.1,d.2.ab]++M.map fun i=>d.2.vars.getD i 0⟩ rfl;have hop:(⟨31,s.loops,r.2.ab::(M.map fun i=>r.2.vars.getD i 0)++[d.1,d.2.ab]++M.map fun i=>d.2.vars.getD i 0⟩:Nd).op=31:=rfl;have him:(⟨31,s.loops,r.2.ab::(M.map fun i=>r.2.vars.getD i 0)++[d.1,d.2.ab]++M.map fun i=>d.2.vars.getD i 0⟩:Nd).aP=s.loops:=rfl;have lk:=cC ⟨31,s.loops,r.2.ab::(M.map fun i=>r.2.vars.getD i 0)++[d.1,d.2.ab]++M.map fun i=>d.2.vars.getD i 0⟩ d.2;generalize (⟨31,s.loops,r.2.ab::(M.map fun i=>r.2.vars.getD i 0)++[d.1,d.2.ab]++M.map fun i=>d.2.vars.getD i 0⟩:Nd)=N at *;have hq:(ah N d.2).2.l[(ah N d.2).1.toNat]?=some N:=Jz _ _;have Y:∀y∈(ah N d.2).2.l,y∈d.2.l\/y=N:=fun y hy=>rZ.1 hy;have kn:(ah N d.2).2.loops=d.2.loops:=rfl;generalize ah N d.2=k at *;have hlv:jo (2*M.length+3:Nat)=((M.length+1:Nat):Int):=DW;have no31:∀y∈d.2.l,y.op=31->y.aP≠s.loops:=fun y hy e e2=>by
  rcases hd31 y hy e with Z|Z
  .have:=hP.l1 y Z e;omega
  .omega
 have kP:LP k.2:=by
  refine⟨fun y hy e=>?_,fun y hy z C V I e=>?_,fun y hy e=>?_,fun y hy z C V I e=>?_⟩
  .rcases Y y hy with hy|rfl
   .have:=dP.l1 y hy e;omega
   .omega
  .rcases Y y hy with hy|rfl
   .rcases Y z C with C|rfl
    .exact dP.l2 y hy z C V I e
    .exact absurd (e.trans him) (no31 y hy V)
   grind
  .rcases Y y hy with hy|rfl
   .have:=dP.l3 y hy e;omega
   omega
  .rcases Y z C with C|rfl
   .rcases Y y hy with hy|rfl
    .exact dP.l4 y hy z C V I e
    .rw[hkl,hlv];rcases hd3 z C I with Z|Z|Z
     .have:=hP.l3 z Z I;rw[SO ac]at e;omega
     .rw[J8 ac];omega
     .rw[SO ac]at e;omega
   omega
 have kD:Dl s k.2:=by
  refine⟨fun y hy=>?_,ac⟩
  grind
 -- the nodes behind it
 have hlr:fL k.2.l ⟨25,0,[k.1]⟩=2:=by rw[EM (n:=0) g2.i hq ac bb,ai rfl]
 obtain⟨f1,f2,f3⟩:=tl g1 (n:=⟨25,0,[k.1]⟩) hlr aH (i9 _ _ aH fF aw aH aH aH aH) aw aw (FI g2.m);have lf:=cC ⟨25,0,[k.1]⟩ {k.2 with vars:=r.2.vars,ab:=r.2.ab};have ef:ah ⟨25,0,[k.1]⟩ {k.2 with vars:=r.2.vars}=((ah ⟨25,0,[k.1]⟩ {k.2 with vars:=r.2.vars,ab:=r.2.ab}).1,{ (ah ⟨25,0,[k.1]⟩ {k.2 with vars:=r.2.vars,ab:=r.2.ab}).2 with ab:=k.2.ab}):=rfl;rw[ef];generalize ah ⟨25,0,[k.1]⟩ {k.2 with vars:=r.2.vars,ab:=r.2.ab}=f at *;have U:r.2.l<+:f.2.l:=(le1.l.trans lk.le.l).trans lf.le.l;obtain⟨bZ,m2,m3⟩:=yY f1 (p2.le U) f2 (J.st.le U) (.inr rfl);have lm:=eZ r.1 f.1 r.2.ab f.2;simp only[zfn];generalize bA r.1 f.1 r.2.ab f.2=m at *;have lkm:k.2.l<+:m.2.l:=lf.le.l.trans lm.le.l;have hqm:m.2.l[k.1.toNat]?=some N:=by
  obtain⟨z,C⟩:=lkm
  grind
 obtain⟨z1,z2⟩:=Tf (lp:=k.1) (k:=r.1) (old:=r.2.vars) M 1 {m.2 with ab:=m.1} (bZ.setS m2) (g2.le lkm) hqm (p2.le (U.trans lm.le.l)) (fun y hy=>(J.v y hy).le (U.trans lm.le.l)) hwm (ay _) aX ac;have lz:=tc k.1 r.1 r.2.vars M 1 {m.2 with ab:=m.1};have hzn:(fD k.1 r.1 r.2.vars M 1 {m.2 with ab:=m.1}).loops=d.2.loops:=by
  rw[lz.2.2.2];show m.2.loops=_;rw[lm.n,lf.n];exact kn
 have qz:Ql k.2 (fD k.1 r.1 r.2.vars M 1 {m.2 with ab:=m.1}):=(Ql.mk f3.q:Ql k.2 f.2).trans (m3.trans ⟨z2.q⟩);have hkz:k.2.loops<=(fD k.1 r.1 r.2.vars M 1 {m.2 with ab:=m.1}).loops:=ac;have hzb:(fD k.1 r.1 r.2.vars M 1 {m.2 with ab:=m.1}).loops<=s.loops+cm x:=by rw[hzn,ld.n];omega
 exact⟨_,rfl,z1,kP.ql qz hkz,hzb,kD.trans (qz.dl hkz)⟩
def zfr(J:zd6 c){np n:Nat}(IS:BP c np n)(IW:Kh c np n):Kg c np (n+1):=fun A x s hx hsz h hP hw=>by
 have hs:=x.aV;have hw1:=AS x;have hkd:=hx.kd;unfold lU;by_cases k1:x.am=1
 .rw[ai k1];obtain⟨r,hr,V,I,Z⟩:=tm J n x.value s (hx.value (.inl k1)) ac h;have Y:=dr c n _ _ _ hr;have hn:=hx.name (.inl k1);have hvl:=V.i.vl;rw[hr,cN,ai ac];exact⟨_,rfl,V.setV (fun y hy=>by
   rcases sm hy with hy|rfl
   .exact V.v y hy
   .exact I) bb,(hP.ql Z (kh Y.n.symm)).setV _,by show r.2.loops<=_;rw[Y.n];omega,(Z.dl (kh Y.n.symm)).setV _⟩
 rw[af k1];by_cases k2:x.am=2
 .rw[ai k2];obtain⟨r,hr,V,I,Z⟩:=tm J n x.a8 s (hx.a8 k2) ac h
  obtain⟨v,hv,q1,q2,q3⟩:=tm J n x.value r.2 (hx.value (.inr (.inl k2))) ac V;have Y:=dr c n _ _ _ hr;have lv:=dr c n _ _ _ hv;have hlt:=hx.arr k2;rw[hr,cN,hv,cN,bj hlt,cN];have ha:=J.a _ (dm hlt);generalize c.aa[bV (c.aa.map (·.name)) x.name]=ar at ha⊢;have p2':=I.le lv.le.l;obtain⟨C,a2⟩:=Tb q1 (n:=ar.len) fF p2';have bU:=r0 ar.len r.1 v.2;obtain⟨O,M,b3⟩:=zfj J C (p2'.le bU.le.l) (q2.le bU.le.l) hlt;have j:=Z.trans (q3.trans (a2.trans b3));have U:(eO ar.len r.1 v.2).loops=s.loops:=by rw[bU.n,lv.n,Y.n]
  exact⟨_,rfl,O.setS M,(hP.ql j SN).setS _,by show(eO ar.len r.1 v.2).loops<=_;omega,(j.dl SN).setS _⟩
 rw[af k2];by_cases k3:x.am=3
 .rw[ai k3];rw[af ac]at hw1;obtain⟨r,hr,V,I,Z⟩:=tm J n x.value s (hx.value (.inr (.inr (.inl k3)))) ac h;have Y:=dr c n _ _ _ hr;have hrn:=Y.n;have rP:=hP.ql Z (kh hrn.symm);obtain⟨a,ha,C,aP,a2,a3⟩:=IS A x.bl r.2 hx.cY.1 ac V rP ac;have la:=(jD c n).2.1 _ _ _ ha;have hal:a.vars.length=c.aF.length:=C.i.vl;obtain⟨b,hb,O,bP,M,b3⟩:=IS A x.bA {a with ab:=r.2.ab,vars:=r.2.vars} hx.cY.2 ac ((C.setS (V.st.le la.1.l)).setV (fun y hy=>(V.v y hy).le la.1.l) V.i.vl) ⟨aP.l1,aP.l2,aP.l3,aP.l4⟩ aX;have lb:=(jD c n).2.1 _ _ _ hb;have lab:a.l<+:b.l:=lb.1.l;have kb:IsM A b.l 1 r.1:=(I.le la.1.l).le lab;have hbl:=O.i.vl;obtain⟨m,hm,bZ,m2⟩:=Td (k:=r.1) (a:=a.vars) b.vars.length 0 b O kb (fun y hy=>(C.v y hy).le lab) hal ac;have lm:=ta _ _ _ _ _ _ hm;rw[hr,cN,ha,cN,hb,cN,hm,cN];obtain⟨t1,t2,t3⟩:=yY bZ (kb.le lm.1.l) ((C.st.le lab).le lm.1.l) bZ.st (.inr rfl);have lt:=eZ r.1 a.ab m.ab m;have hbn:(bA r.1 a.ab m.ab m).2.loops=b.loops:=by rw[lt.n,lm.2.2.2]
  have j:=m2.trans t3;have b2':b.loops<=a.loops+dg x.bA:=M;have dab:Dl a b:=⟨b3.d,b3.n⟩;exact⟨_,rfl,t1.setS t2,(bP.ql j (kh hbn.symm)).setS _,aX,((Z.dl (kh hrn.symm)).trans (a3.trans (dab.trans (j.dl (kh hbn.symm))))).setS _⟩
 rw[af k3];by_cases k4:x.am=4
 .rw[ai k4];exact IW A x s hx k4 ac h hP hw
 rw[af k4];by_cases k5:x.am=5
 .rw[ai k5];obtain⟨r,hr,V,I,Z⟩:=tm J n x.value s (hx.value (.inr (.inr (.inr (.inr k5))))) ac h;have Y:=dr c n _ _ _ hr;have hrn:=Y.n;rw[hr,cN];obtain⟨O,M,b3⟩:=zfk V I;have j:=Z.trans b3;exact⟨_,rfl,O.setS M,(hP.ql j (by show s.loops<=r.2.loops;omega)).setS _,by show r.2.loops<=_;omega,(j.dl (by show s.loops<=r.2.loops;omega)).setS _⟩
 rw[af k5];by_cases k6:x.am=6
 .rw[ai k6];obtain⟨r,hr,V,I,Z⟩:=Tc J (n:=n) x.args s hx.args ac h;obtain⟨Y,hlr⟩:=sc c n _ _ _ hr;obtain⟨c1,c2⟩:=hx.call k6;obtain⟨i,hi,hfe⟩:=Eo c.funcs x.to 0 c1;obtain⟨f,hfn⟩:=oA c.funcs hi;have hfe':cJ c.funcs x.to 0=(i:Int):=by simpa using hfe
  have hn:=hx.name (.inr k6);have hvl:=V.i.vl;have hpar:r.1.length=f.params.length:=by
   rw[hlr,c2,pe,hfe',tT,hfn];rfl
  rw[hr,cN,ai ⟨c1,ac⟩];simp only[];rw[hfe'];obtain⟨O,M,b3⟩:=zfm J V I hfn hpar;have lb:=cC ⟨30,i,r.2.ab::r.1⟩ r.2;generalize ah ⟨30,i,r.2.ab::r.1⟩ r.2=z at *;obtain⟨d1,d2,d3⟩:=zfl (O.setS M) M;have ld:=cC ⟨24,0,[z.1]⟩ {z.2 with ab:=z.1};generalize ah ⟨24,0,[z.1]⟩ {z.2 with ab:=z.1}=w at *;have j:Ql s w.2:=Z.trans (b3.trans d3.ofS);have U:w.2.loops=s.loops:=by rw[ld.n];show z.2.loops=_;rw[lb.n,Y.n]
  refine⟨_,rfl,d1.setV (fun y hy=>?_) (by rw[jQ];exact d1.i.vl),(hP.ql j (kh U.symm)).setV _,bb,(j.dl (kh U.symm)).setV _⟩;rcases sm hy with hy|rfl
  .exact d1.v y hy
  .exact d2
 rw[af k6];by_cases k7:x.am=7
 .rw[ai k7];have ht:=hx.fI k7;have hw:bB (16+x.n)=16+x.n:=kR ac ac;rw[hw];obtain⟨C,a2,a3⟩:=BO h (n:=0) fF;obtain⟨O,M⟩:=Kf C (t:=16+x.n) a2 ac ac;have lb:=rj (16+x.n) (ah ⟨1,0,[]⟩ s).1 (ah ⟨1,0,[]⟩ s).2;have U:(kC (16+x.n) (ah ⟨1,0,[]⟩ s).1 (ah ⟨1,0,[]⟩ s).2).loops=s.loops:=lb.n;have j:=a3.trans M;exact⟨_,rfl,O,hP.ql j (kh U.symm),ac,j.dl (kh U.symm)⟩
 .omega
def zfs{np n:Nat}(V:Kg c np n)(M:BP c np n):BP c np (n+1):=fun A l s O U h Z Y=>by
 cases l with
 |nil=>exact⟨s,by unfold eY;rfl,h,Z,ac,Dl.refl s⟩
 |cons x l=>
  obtain⟨hx,O⟩:=O.cons;rw[bi]at U;rw[dg]at Y⊢;unfold eY;simp only[];obtain⟨r,hr,J,C,p2,I⟩:=V A x s hx ac h Z ac;obtain⟨t,j,q1,z,q2,m⟩:=M A l r O ac J C ac;rw[hr,cN,j];exact⟨t,rfl,q1,z,ac,I.trans m⟩
theorem Tg{c:Cx}(M:zd6 c){np:Nat}:∀n:Nat,Kg c np n/\BP c np n/\Kh c np n
 |0=>⟨fun A x s _ h=>ac,fun A l s _ h=>ac,fun A x s hx _ h=>by have:=x.aV;omega⟩
 |n+1=>by
  obtain⟨a,b,d⟩:=Tg M (np:=np) n;exact⟨zfr M b d,zfs a b,zfq M b⟩
section
variable {A:List Ar} {F:qN} {np:Nat} {B:Nat -> Prop}
def LG.aF(h:LG ⟨A,F,N⟩ np B s)(O:M.length=N.length):LG ⟨A,F,M⟩ np B s:=⟨h.i.aF O,h.v,h.st⟩
def LG.push(h:LG ⟨A,F,N⟩ np B s){x:Int}(C:IsM B s.l 1 x)(O:M.length=N.length+1):LG ⟨A,F,M⟩ np B {s with vars:=s.vars++[x] }:=
 ⟨h.i.push C.i O,fun y hy=>by
  rcases nT.1 hy with hy|hy
  .exact h.v y hy
  simp_all,h.st⟩
theorem Th(Z:np<=6):∀(m k:Nat) (s:Bd) (N M:List bG),LG ⟨A,F,N⟩ np B s->M.length=N.length+m->k+m<=np->LG ⟨A,F,M⟩ np B (gC m k s)/\Ql s (gC m k s)
 |0,k,s,N,M,h,hl,_=>⟨h.aF hl,xB s⟩
 |m+1,k,s,N,M,h,hl,hk=>by
  have U:fL s.l ⟨2,k,[]⟩=1:=PQ ac ac;obtain⟨O,Y,J⟩:=tl h (n:=⟨2,k,[]⟩) U aH ⟨bb,BB,bb,fun _=>aX,fun e=>bb,fun e=>absurd e bb⟩ aw aw aw;obtain⟨j,V⟩:=Th Z m (k+1) { (ah ⟨2,k,[]⟩ s).2 with vars:=(ah ⟨2,k,[]⟩ s).2.vars++[(ah ⟨2,k,[]⟩ s).1] } ([]::N) M (O.push Y rfl) aX ac;exact⟨j,J.trans ⟨V.q⟩⟩
theorem Ti:∀(m:Nat) (s:Bd) (N M:List bG),LG ⟨A,F,N⟩ np B s->M.length=N.length+m->LG ⟨A,F,M⟩ np B (jq m s)/\Ql s (jq m s)
 |0,s,N,M,h,hl=>⟨h.aF hl,xB s⟩
 |m+1,s,N,M,h,hl=>by
  obtain⟨O,Y,J⟩:=BO h (n:=0) fF;obtain⟨j,Z⟩:=Ti m { (ah ⟨1,0,[]⟩ s).2 with vars:=(ah ⟨1,0,[]⟩ s).2.vars++[(ah ⟨1,0,[]⟩ s).1] } ([]::N) M (O.push Y rfl) aX;exact⟨j,J.trans ⟨Z.q⟩⟩
def zft:LG ⟨A,F,[]⟩ np B { (ah ⟨26,0,[]⟩ ⟨[],[],0,0⟩).2 with ab:=(ah ⟨26,0,[]⟩ ⟨[],[],0,0⟩).1}:=by
 have h:=Kd (A:=A) (F:=F) (np:=np);refine⟨h,(fun y hy=>by cases hy),h.st,?_⟩;exact BN (l:=[]) (n:=⟨26,0,[]⟩) (fun i I=>by simp at I) (by rw[PR];decide) aw aw
end
def zfu(h:zf9 p){f:Fu}(j:f∈p.funcs)(B:Nat->Prop):LG (kE p f) f.params.length B (jg f)/\LP (jg f)/\(jg f).loops=0:=by
 obtain⟨_,_,_,V⟩:=h.fE;obtain⟨J,l2,l3⟩:=V f j;have e0:=zft (A:=p.aa) (F:=p.funcs) (np:=f.params.length) (B:=B);obtain⟨O,Y⟩:=Th J f.params.length 0 _ [] f.params e0 aw ac;obtain⟨Z,M⟩:=Ti f.ak.length _ f.params (f.params++f.ak) O bb;have c1:=Kd (A:=p.aa) (F:=p.funcs) (np:=f.params.length);obtain⟨I,C,_⟩:=Kb J f.params.length 0 _ [] f.params c1 aw ac;obtain⟨_,z,_⟩:=Kc f.ak.length _ f.params (f.params++f.ak) I bb;have U:∀x∈(jg f).l,x.op≠3/\x.op≠31:=fun x hx=>by
  rcases(Y.trans M).q x hx with m|m
  .rcases(rZ (l:=[]) (n:=⟨26,0,[]⟩)).1 m with h2|rfl
   .cases h2
   simp_all
  .exact m
 exact⟨Z,⟨fun x hx e=>absurd e (U x hx).2,fun x hx y hy e=>absurd e (U x hx).2,fun x hx e=>absurd e (U x hx).1,fun x hx y hy e=>absurd e (U x hx).2⟩,z.trans C⟩
theorem Tj(h:zf9 p){n:Nat}(hn:2*p.sz<n){f:Fu}(j:f∈p.funcs):
 ∃s v,eY (kE p f) n f.body (jg f)=some s/\ec (kE p f) n f.value s=some v/\LG (kE p f) f.params.length (fun _=>False) v.2/\IsM (fun _=>False) v.2.l 1 v.1/\LP v.2/\v.2.loops<=dg f.body:=by
 obtain⟨_,_,_,V⟩:=h.fE;obtain⟨l1,l2,l3⟩:=V f j;obtain⟨hb,Z⟩:=h.body j;have hc:=h.cx j;have C:=oc j;have m:p.sz=1+eA p.aa+dO p.funcs:=rfl;have hfs:f.sz=1+f.name.length+cP f.params+cP f.ak+bi f.body+f.value.sz:=rfl;obtain⟨z,J,g3⟩:=zfu h j fun _=>False
 obtain⟨s,q1,q2,M,q3,q4⟩:=(Tg hc (np:=f.params.length) n).2.1 _ f.body (jg f) hb ac z J ac;obtain⟨v,I,Y,U,O⟩:=tm hc n f.value s Z ac q2;have lv:=dr _ n _ _ _ I;exact⟨s,v,q1,I,Y,U,M.ql O (kh lv.n.symm),by rw[lv.n];omega⟩
theorem Ki:∀(l:qF) (t:qy),l.Nodup->(∀x∈l,x.op=31->0<=x.aP/\x.aP<16)->(∀x∈l,∀y∈l,x.op=31->y.op=31->x.aP=y.aP->x=y)->(∀x∈l,x.op=31->t.getD x.aP.toNat 0<=0)->t.length=16 ->
 ∃I,AW l t=some I/\∀k:Nat,0<I.getD k 0->(I.getD k 0=t.getD k 0)\/∃x∈l,x.op=31/\x.aP=k/\I.getD k 0=jo x.ao.length
 |[],t,_,_,_,_,_=>⟨t,rfl,fun k _=>.inl rfl⟩
 |n::l,t,hnd,h0,h1,h2,hl=>by
  rw[Er]at hnd;have J:=fun x hx=>h0 x (en n hx);have j:∀x∈l,∀y∈l,x.op=31->y.op=31->x.aP=y.aP->x=y:=fun x hx y hy=>h1 x (en n hx) y (en n hy);rw[AW];by_cases c:n.op=31
  .have C:=h2 n eg c;have hr:=h0 n eg c;rw[ai c,af ac];have Y:∀k:Nat,(t.set n.aP.toNat (jo n.ao.length)).getD k 0=if n.aP.toNat=k then jo n.ao.length else t.getD k 0:=fun k=>by
    rw[gU,sE,gU];split
    .rw[ai ac];rfl
    .rfl
   obtain⟨I,e,Z⟩:=Ki l (t.set n.aP.toNat (jo n.ao.length)) hnd.2 J j (fun x hx e=>by
    have M:=J x hx e;rw[Y,af (fun q=>hnd.1 (by rw[h1 n eg x (en n hx) c e ac];exact hx))];exact h2 x (en n hx) e) (by rw[jQ];exact hl)
   grind
  .rw[af c];obtain⟨I,e,Z⟩:=Ki l t hnd.2 J j (fun x hx=>h2 x (en n hx)) hl
   grind
def zfv(U:LP s)(J:s.l.Nodup)(M:s.loops<=16):I4 s.l=true:=by
 have C:∀k:Nat,(List.replicate 16 (0:Int)).getD k 0=0:=fun k=>by
  rw[gU,List.getElem?_replicate];split<;>rfl
 obtain⟨t,e,j⟩:=Ki s.l (List.replicate 16 0) J (fun x hx e=>by have:=U.l1 x hx e;omega) U.l2 (fun x hx e=>by rw[C];exact Int.le_refl _) rfl;unfold I4;rw[e];simp only;rw[jX];intro y hy;unfold Og;by_cases c:y.op=3
 .have Z:=U.l3 y hy c;by_cases Y:0<t.getD (y.aP.tdiv 16).toNat 0
  .rcases j _ Y with V|⟨x,hx,ex,I,O⟩
   .rw[V,C]at Y;omega
   .have:=U.l4 x hx y hy ex c (by rw[I];have:=Int.tdiv_nonneg Z.1 (show(0:Int)<=16 by omega);omega);rw[O];rw[rV (show ¬jo x.ao.length<=y.aP.tmod 16 by omega),xe];rfl
  .rw[rV Y,xe,mB];rfl
 simp_all
theorem iM.zero(h:iM l (fun _=>False) k):rY l k=0:=
 Nat.eq_of_testBit_eq fun t=>by
  rw[Nat.zero_testBit];cases e:(rY l k).testBit t with
  |false=>rfl
  |true=>exact(h t e).elim
theorem Tl(p:Pr):(eV p).any (pZ 90)=false:=rfl
namespace tyV7
end tyV7
open tyV7
def px(g:Gr):Fu:=⟨g.name,[],[],[],.mk 1 0 [] 0 []⟩
def nG(u:Un):Pr:=⟨u.aa,u.funcs.map px⟩
def Kk(u:Un):Bool:=decide (eN (nG u)=0)&&u.funcs.all (Jx u)
structure UnOk (u:Un):Prop where
 a:u.aa.length<2^30
 f:u.funcs.length<2^30
 g:∀g∈u.funcs,AU g.aL
 z:(nG u).sz<2^36
end
variable{n:Nat}{g:Gr}
theorem Tm:∀(l:qF) (seen:qx),l.Nodup->(∀x∈l,NdR x)->(∀x∈l,bE seen (ij x)=false)->cT seen (l.map ij)=false
 |[],_,_,_,_=>rfl
 |a::l,seen,hnd,hr,hs=>by
  rw[Er]at hnd;rw[eK,cT,hs a eg,mp];refine Tm l _ hnd.2 (fun x hx=>hr x (en _ hx)) fun x hx=>?_;have e:bE (seen++[ij a]) (ij x)=(bE seen (ij x)||bE [ij a] (ij x)):=by unfold bE;simp_all
  rw[e,hs x (en _ hx),mp];have M:bE [ij a] (ij x)=decide (ij a=ij x):=by simp[bE]
  rw[M,mU];exact fun C=>hnd.1 (by rw[PA (hr a eg) (hr x (en _ hx)) C];exact hx)
theorem zfw(J:l.Nodup)(hr:∀x∈l,NdR x):Jv l=true:=by
 unfold Jv;rw[Tm l [] J hr fun x _=>rfl];rfl
def zfx(h:zf9 p)(hz:p.sz<2^30)(hn:2*p.sz<n){f:Fu}(j:f∈p.funcs)(hg:pm p n f=some g)(Z:g.aL.length<=2000)(ha:u.aa.length=p.aa.length)(hu:u.funcs.map Gr.params=p.funcs.map fun f=>(f.params.length:Int)):Jx u g=true:=by
 obtain⟨_,_,_,h4⟩:=h.fE;obtain⟨l1,l2,l3⟩:=h4 f j;obtain⟨s,v,e1,e2,z,J,gP,gn⟩:=Tj h hn j;have O:g=⟨f.name,f.params.length,v.2.l,v.1,v.2.ab⟩:=by
  unfold pm at hg;rw[e1,cN,e2,cN]at hg;exact(Option.some.inj hg).symm
 subst O;simp only at Z;have m:=z.i.fin ac ac;have ok:((List.range v.2.l.length).all (Jw u ⟨f.name,f.params.length,v.2.l,v.1,v.2.ab⟩))=true:=by
  rw[jX];intro i I;rw[rI]at I;have hx:v.2.l[i]?=some v.2.l[i]:=bj I;have hm:v.2.l[i]∈v.2.l:=dm I;have hw:=z.i.wf i I;have hp:=z.i.p _ hm;unfold Jw;simp only;rw[hx];simp only;rw[kS hw,ja];generalize v.2.l[i]=x at hp;unfold Oh;by_cases Y:x.op=2
  .rw[ai Y,kS (hp.pa Y)]
  rw[af Y];by_cases U:x.op=23\/x.op=28
  .rw[ai U,ha];exact kS (hp.ar U)
  rw[af U];by_cases M:x.op=30
  .obtain⟨q1,fn,q2,q3⟩:=hp.fn M;have V:p.funcs[x.aP.toNat]?=some fn:=q2;have hlt:x.aP.toNat<p.funcs.length:=by
    by_cases q:x.aP.toNat<p.funcs.length
    .exact q
    .rw[sH ac]at V;cases V
   have C:u.funcs.length=p.funcs.length:=by have:=lN List.length hu;simpa using this
   rw[ai M,C,kS (show x.aP<(p.funcs.length:Int) by omega),ja,hu,gU,eI,V];simp only[sD,bN,rG];omega
  .rw[af M]
 unfold Jx;simp only;rw[ok,zfw z.i.nd m.r,zfv gP z.i.nd ac,J.m.zero,z.st.m.zero,J.i.s,z.st.i.s];have b1:=J.i.lo;have b2:=J.i.hi;have b3:=z.st.i.lo;have b4:=z.st.i.hi
 grind
theorem Tn{p:Pr}{n:Nat}:∀(l:qN) (V:List Gr) (u:Un) (e:Int),lV p n l V=some (u,e)->(e=6/\u=⟨[],[]⟩)\/(e=0/\∃U,u=⟨p.aa,V++U⟩/\cp (fun f g=>pm p n f=some g/\g.aL.length<=2000) l U)
 |[],V,u,e,h=>by
  rw[lV]at h;cases h;exact .inr ⟨rfl,[],bb,trivial⟩
 |f::l,V,u,e,h=>by
  rw[lV]at h;simp only[gG]at h;obtain⟨g,hg,h⟩:=h;split at h
  .simp_all
  .rename_i c;rcases Tn l _ u e h with m|⟨m,U,j,C⟩
   .exact .inl m
   .exact .inr ⟨m,g::U,bb,⟨hg,ac⟩,C⟩
theorem To(I:qx):∀(l:qN) (U:List Gr) (seen:qx),cp (fun f g=>g.name=f.name) l U->ow I seen l=false->ow I seen (U.map px)=false
 |[],[],seen,_,_=>rfl
 |f::l,g::U,seen,ha,h=>by
  rw[ow]at h;simp only[jv]at h;rw[eK,ow];show(bE seen g.name||cT I []||ow I (seen++[g.name]) (U.map px))=false;rw[ha.1,h.1.1,To I l U _ ha.2 h.2];rfl
theorem FL{I β:Type}{q:I->β->Prop}:∀{a:List I}{b:List β},cp q a b->∀y∈b,∃x∈a,q x y
 |[],[],_,y,hy=>by simp at hy
 |x::a,z::b,h,y,hy=>by
  rcases gH.1 hy with rfl|hy
  .exact⟨x,eg,h.1⟩
  .obtain⟨w,M,U⟩:=FL h.2 y hy
   grind
def Tp{f:Fu}(h:pm p n f=some g):g.name=f.name/\g.params=f.params.length:=by
 unfold pm at h;simp only[iD]at h
 grind
theorem Tq{p:Pr}{n:Nat}:∀{l:qN}{U:List Gr},cp (fun f g=>pm p n f=some g/\g.aL.length<=2000) l U->U.map Gr.params=l.map fun f=>(f.params.length:Int)
 |[],[],_=>rfl
 |f::l,g::U,h=>by rw[eK,eK,Tq h.2,(Tp h.1.1).2]
def zfy(h:eN p=0){U:List Gr}(O:cp (fun f g=>g.name=f.name) p.funcs U):eN (nG ⟨p.aa,U⟩)=0:=by
 obtain⟨m,j,C,I,z⟩:=Ke h;have hl:U.length=p.funcs.length:=O.len.symm;have e1:jp (nG ⟨p.aa,U⟩)=false:=by
  unfold jp at m⊢;simp only[jv,mU]at m⊢;obtain⟨⟨⟨Y,a2⟩,J⟩,a4⟩:=m;refine⟨⟨⟨Y,by simp only[nG,dx];omega⟩,J⟩,?_⟩;simp only[nG,List.any_map,yB];intro g _;have:nA (px g)=false:=by
   simp[nA,px,nS,dg,fd,fJ,dy,ki]
  simp[this]
 have e2:ib (nG ⟨p.aa,U⟩)=true:=by
  unfold ib at j⊢;rw[da]at j⊢;refine⟨j.1,?_⟩;have Z:=jX.1 j.2;simp only[nG,List.all_map,jX];intro g hg;obtain⟨f,V,M⟩:=FL O g hg;have:=Z f V;unfold ku fnNames at this;simp only[da,xo,rS,oY,hT]at this;show ku (px g)=true;simp[ku,fnNames,px,fx,eW,eB,mC,Ex.am,Ex.ao,Ex.name,Ex.op,M,this.1.1.1.1]
 have e3:ky (nG ⟨p.aa,U⟩)=false:=by
  unfold ky at C⊢;rw[jv]at C⊢;exact⟨C.1,To _ _ _ _ O C.2⟩
 have e4:(nG ⟨p.aa,U⟩).funcs.any (i4 (nG ⟨p.aa,U⟩))=false:=by
  simp only[nG,List.any_map,yB];intro g _;simp[i4,px,dh,ev,fg,iZ,Ex.am]
 have e5:(nG ⟨p.aa,U⟩).funcs.any (kB (nG ⟨p.aa,U⟩))=false:=by
  simp only[nG,List.any_map,yB];intro g _;simp[kB,px,dh]
 unfold eN
 grind
theorem zfz(h:zf9 p)(hz:p.sz<2^30)(hn:2*p.sz<n){e:Int}(Y:pn p n=some (u,e)):(e=6/\u=⟨[],[]⟩)\/(e=0/\Kk u=true/\u.aa=p.aa/\u.funcs.length=p.funcs.length/\UnOk u):=by
 unfold pn at Y;rw[ai h.ck]at Y;rcases Tn _ _ _ _ Y with V|⟨V,U,h2,C⟩
 .exact .inl V
 rw[lL]at h2;subst h2;have m:=Tq C;have hlen:=C.len;have hpz:p.sz=1+eA p.aa+dO p.funcs:=rfl;have Z:cp (fun f g=>g.name=f.name) p.funcs U:=C.mono fun f g k=>(Tp k.1).1;refine .inr ⟨V,?_,rfl,bb,?_⟩
 .unfold Kk;rw[zfy h.ck Z,da];refine⟨rfl,jX.2 fun g hg=>?_⟩;obtain⟨f,j,J,M⟩:=FL C g hg;exact zfx h hz hn j J M rfl m
 .obtain⟨a1,a2,a3,a4⟩:=h.fE;refine⟨aX,aX,fun g hg=>?_,?_⟩
  .obtain⟨f,j,J,M⟩:=FL C g hg;obtain⟨s,v,e1,e2,g1,_⟩:=Tj h hn j;have I:g=⟨f.name,f.params.length,v.2.l,v.1,v.2.ab⟩:=by
    unfold pm at J;simp_all
   refine⟨ac,fun x hx=>?_⟩;rw[I]at hx;have:=(g1.i.p x hx).len;omega
  .have z:∀{l:qN}{U:List Gr},cp (fun f g=>g.name=f.name) l U->dO (U.map px)<=4*dO l:=by
    intro l;induction l with
    |nil=>
     intro U O;cases U with
     |nil=>simp[dO]
     |cons g U=>exact O.elim
    |cons f l ih=>
     intro U O;cases U with
     |nil=>exact O.elim
     |cons g U=>
      have:=ih O.2;have e:(px g).sz=1+g.name.length+0+0+0+1:=by simp[Fu.sz,px,cP,bi,Ex.sz,cy]
      have e2:f.sz=1+f.name.length+cP f.params+cP f.ak+bi f.body+f.value.sz:=rfl;rw[eK,dO,dO,e,O.1];omega
   have:=z Z;show 1+eA p.aa+dO (U.map px)<_;omega
structure zf8 (p:Pr):Prop where
 sz:p.sz<2^30
 rg:eN p=0->∀f∈p.funcs,cz f.body/\dA f.value
def iN(p:Pr):Un×Int:=(pn p (2*p.sz+1)).getD (⟨[],[]⟩,0)
theorem Tr{p:Pr}(h:zf9 p){n:Nat}(J:2*p.sz<n):∀(l:qN) (V:List Gr),(∀f∈l,f∈p.funcs)->∃r,lV p n l V=some r
 |[],V,_=>⟨_,rfl⟩
 |f::l,V,hl=>by
  obtain⟨s,v,m,M,_⟩:=SY h J (hl f eg);rw[lV,pm,m,cN,M,cN,cN];split
  .exact⟨_,rfl⟩
  .exact Tr h J l _ fun g hg=>hl g (en _ hg)
theorem zf8.cL(h:zf8 p):pn p (2*p.sz+1)=some ((iN p).1,(iN p).2):=by
 have:∃r,pn p (2*p.sz+1)=some r:=by
  unfold pn;split
  .rename_i c;exact Tr ⟨c,h.rg c⟩ (bT _) _ _ fun f j=>j
  .exact⟨_,rfl⟩
 obtain⟨r,hr⟩:=this;rw[iN,hr];rfl
theorem zfA(h:eN p≠0):iN p=(⟨[],[]⟩,eN p):=by
 rw[iN,pn,af h];rfl
def zf8.fH(h:zf8 p)(M:eN p=0):((iN p).2=6/\(iN p).1=⟨[],[]⟩)\/((iN p).2=0/\Kk (iN p).1=true/\(iN p).1.aa=p.aa/\(iN p).1.funcs.length=p.funcs.length/\UnOk (iN p).1):=
 zfz ⟨M,h.rg M⟩ h.sz (bT _) h.cL
noncomputable def Kl:En:=⟨27,true,co zf8 eV fun p=>.a6 [.agg (iN p).1.cells,.int .i64 (iN p).2]⟩
def zfB(ρ:Nat->Int):dI Tryz.prog ρ Kl:=dT fun p hp=>ze4 ρ p (n:=2*p.sz+1) (by have:=hp.sz;omega) (fun hc=>SZ ⟨hc,hp.rg hc⟩ hp.sz (bT _)) hp.cL
theorem zfC{l:qC}(O:∀J,dE l 27 J=(oZ Kl).sp J)(I:iA l 27=true){S:Nat->Prop}{H:Hp}{cs:qu}(Z:n<59)(M:b9 S n H cs p.cells)(C:zf8 p):
 aR Tryz.prog (au pls l) 27 [.agg cs] H fun v H'=>v=.a6 [.agg (iN p).1.cells,.int .i64 (iN p).2]/\Icy S H H':=by
 obtain⟨us,m,j⟩:=M;refine AT (x:=p) (enc:=eV) (ok:=zf8) (out:=fun p=>.a6 [.agg (iN p).1.cells,.int .i64 (iN p).2]) (us:=[.agg us]) (n:=n+1) pd (fun J=>by rw[O];rfl) I Tl C ac ⟨⟨us,m,rfl⟩,trivial⟩ ?_;show [AV.agg (us.map (bY 59))]=_;rw[j 59 ac];rfl
end Go.Proofs.YtpbcimfiofmoeaaGreat
