/- Parts: SpecY, SpecZ, SpecJ, SpecP, SpecW, VlA, ChkX, V7, VlB, LwX, G5a. -/
import Derived.Test.YtpbcimfiofmoeaaGreatMCQ
set_option linter.unusedSimpArgs false
set_option linter.unusedVariables false
set_option linter.unusedSectionVars false
set_option linter.defProp false
set_option maxHeartbeats 32000000
namespace Go.Ab
set_option maxRecDepth 20000
open Go
theorem Es{P:Prop}(h:P:=by rw[List.length_cons];omega):P:=h
theorem Jr{P:Prop}(h:P:=by rw[List.length_append]):P:=h
theorem RY{P:Prop}(h:P:=by show s.loops<=(hZ ar.len r.1 v.2).loops;omega):P:=h
theorem RZ{P:Prop}(h:P:=by rw[J,show zmr=70368744177664 from rfl];omega):P:=h
theorem R0{P:Prop}(h:P:=by simp only[List.all_cons,List.all_nil,w0,zlG,w2,w3,w4,Bool.and_true];rfl):P:=h
theorem Sa{P:Prop}(h:P:=by simp only[zk1,Nat.reduceBEq, *];exact zni (n:=u.funcs.length) ac ac):P:=h
end Go.Ab
namespace Go.Proofs.YtpbcimfiofmoeaaGreat
set_option maxRecDepth 20000
open Go Go.Ab
section
section
variable {A:List Ar} {F:List Fu} {np:Nat}
theorem NdP.names{N z:List zly}{x:Nd}(h:NdP ⟨A,F,N⟩ np x):NdP ⟨A,F,z⟩ np x:=⟨h.op,h.imm,h.len,h.pa,h.ar,h.fn⟩
theorem LI.names{N z:List zly}{s:Bd}(h:LI ⟨A,F,N⟩ np s)(M:z.length=N.length):LI ⟨A,F,z⟩ np s:=⟨h.nd,h.wf,fun x hx=>(h.p x hx).names,h.v,h.vl.trans M.symm,h.st⟩
theorem LI.push{N z:List zly}{s:Bd}(h:LI ⟨A,F,N⟩ np s){x:Int}(o:IsT s.l 1 x)(M:z.length=N.length+1):LI ⟨A,F,z⟩ np {s with vars:=s.vars++[x] }:=
 ⟨h.nd,h.wf,fun y hy=>(h.p y hy).names,fun y hy=>by
  rcases mX.1 hy with hy|hy
  .exact h.v y hy
  .simp only[jp]at hy;subst hy;exact o,by
  have:=h.vl;show(s.vars++[x]).length=_;rw[fj,this,M];rfl,h.st⟩
theorem Js(V:np<=6):∀(m k:Nat) (s:Bd) (N z:List zly),LI ⟨A,F,N⟩ np s->z.length=N.length+m->k+m<=np->LI ⟨A,F,z⟩ np (jC m k s)/\(jC m k s).loops=s.loops/\(jC m k s).l.length<=s.l.length+m
 |0,k,s,N,z,h,hl,_=>⟨h.names hl,rfl,aB _⟩
 |m+1,k,s,N,z,h,hl,hk=>by
  obtain⟨J,Z,j⟩:=znv h (n:=⟨2,k,[]⟩) (PF ac ac) aE ⟨by show 0<=(2:Int)/\(2:Int)<256;decide,AG,by show 0<=40;decide,fun _=>by show(k:Int)<np;omega,fun e=>by rcases e with e|e<;>exact absurd e (by show ¬(2:Int)=_;decide),fun e=>absurd e (by show ¬(2:Int)=30;decide)⟩;obtain⟨M,C,Y⟩:=Js V m (k+1) { (zkW ⟨2,k,[]⟩ s).2 with vars:=(zkW ⟨2,k,[]⟩ s).2.vars++[(zkW ⟨2,k,[]⟩ s).1] } ([]::N) z (J.push Z rfl) Es ac;exact⟨M,C,by have K:(jC (m+1) k s).l.length<=(zkW ⟨2,k,[]⟩ s).2.l.length+m:=Y;omega⟩
theorem Jt:∀(m:Nat) (s:Bd) (N z:List zly),LI ⟨A,F,N⟩ np s->z.length=N.length+m->LI ⟨A,F,z⟩ np (mo m s)/\(mo m s).loops=s.loops/\(mo m s).l.length<=s.l.length+m
 |0,s,N,z,h,hl=>⟨h.names hl,rfl,aB _⟩
 |m+1,s,N,z,h,hl=>by
  obtain⟨J,V,j⟩:=AO h (n:=0) fD;obtain⟨M,C,Z⟩:=Jt m { (zkW ⟨1,0,[]⟩ s).2 with vars:=(zkW ⟨1,0,[]⟩ s).2.vars++[(zkW ⟨1,0,[]⟩ s).1] } ([]::N) z (J.push V rfl) Es;exact⟨M,C,by have K:(mo (m+1) s).l.length<=(zkW ⟨1,0,[]⟩ s).2.l.length+m:=Z;omega⟩
theorem Ju:LI ⟨A,F,[]⟩ np { (zkW ⟨26,0,[]⟩ ⟨[],[],0,0⟩).2 with state:=(zkW ⟨26,0,[]⟩ ⟨[],[],0,0⟩).1}:=by
 obtain⟨a,b⟩:=IY (l:=[]) (n:=⟨26,0,[]⟩) (fun i I=>by simp at I) PG aE;refine⟨RJ List.nodup_nil,b,fun x hx=>?_,(fun y hy=>by cases hy),rfl,a⟩;rcases(tm (l:=[]) (n:=⟨26,0,[]⟩)).1 hx with hx|rfl
 .cases hx
 .exact i4 _ _ aE fD ax aE aE aE aE
end
structure PrIn (p:Pr):Prop where
 ck:zmw p=0
 rg:∀f∈p.funcs,dt f.body/\d9 f.value
theorem Jv{p:Pr}(h:zmw p=0):jo p=false/\hT p=true/\kI p=false/\p.funcs.any (iX p)=false/\p.funcs.any (kJ p)=false:=by
 unfold zmw at h;split at h
 .cases h
 split at h
 .cases h
 split at h
 .cases h
 split at h
 .cases h
 split at h
 .cases h
 rename_i a b c d e;exact⟨by simpa using a,by simpa using b,by simpa using c,by simpa using d,zB⟩
theorem Et{Z:Type}{l:List Z}{p:Z->Bool}(h:l.any p=false){x:Z}(o:x∈l):p x=false:=by
 cases e:p x with
 |false=>rfl
 |true=>rw[Da.2 ⟨x,o,e⟩]at h;cases h
theorem PrIn.lim{p:Pr}(h:PrIn p):(∀a∈p.arrays,1<=a.len/\a.len<=16)/\p.arrays.length<=4/\p.funcs.length<=8/\∀f∈p.funcs,f.params.length<=6/\f.locals.length<=8/\zl3 f.body<=16:=by
 have hx:=(Jv h.ck).1;unfold jo at hx;simp only[i9,lJ]at hx;obtain⟨⟨⟨m,j⟩,z⟩,Y⟩:=hx;refine⟨fun a O=>?_,ac,ac,fun f K=>?_⟩
 .have:=Et z O;unfold rh at this;simp only[i9,lJ]at this;omega
 .have:=Et Y K;unfold ny at this;simp only[i9,lJ]at this;omega
theorem PrIn.cx{p:Pr}(h:PrIn p){f:Fu}(K:f∈p.funcs):CxOkU (ll p f):=by
 obtain⟨m,j,z,Y⟩:=h.lim;have:=Y f K;exact⟨m,j,z,fun g Z=>(Y g Z).1,by show(f.params++f.locals).length<=14;rw[fj];omega⟩
theorem PrIn.body{p:Pr}(h:PrIn p){f:Fu}(K:f∈p.funcs):SsOk (ll p f) f.body/\XOk (ll p f) f.value:=by
 obtain⟨_,j,_,Y,Z⟩:=Jv h.ck;unfold hT at j;rw[co,iP,iP]at j;have w:=j.2 f K;have u:=Et Y K;have b:=Et Z K;unfold kH at w;unfold iX at u;unfold kJ at b;simp only[co,iU]at w u b;obtain⟨M,V⟩:=h.rg f K;exact⟨⟨w.1.2,u.1,b,M⟩,⟨w.2,u.2,V⟩⟩
theorem Sb{p:Pr}(h:PrIn p){n:Nat}(hn:2*p.sz<n){f:Fu}(K:f∈p.funcs):
 ∃s v,gE (ll p f) n f.body (kK f)=some s/\fu (ll p f) n f.value s=some v/\LI (ll p f) f.params.length v.2/\IsT v.2.l 1 v.1/\v.2.loops<=16/\v.2.l.length<=64*p.sz:=by
 obtain⟨_,_,_,Y⟩:=h.lim;obtain⟨l1,l2,l3⟩:=Y f K;obtain⟨C,Z⟩:=h.body K;have hc:=h.cx K;have hfz:=pV K;have hpz:p.sz=1+zmL p.arrays+zmv p.funcs:=rfl;have hfs:f.sz=1+f.name.length+zmd f.params+zmd f.locals+zld f.body+f.value.sz:=rfl;have e0:=Ju (A:=p.arrays) (F:=p.funcs) (np:=f.params.length);obtain⟨J,V,j⟩:=Js l1 f.params.length 0 _ [] f.params e0 ax ac;obtain⟨U,O,I⟩:=Jt f.locals.length _ f.params (f.params++f.locals) J Jr;have hs:LI (ll p f) f.params.length (kK f):=U;have hs2:(kK f).loops=0:=O.trans V;have hs3:(kK f).l.length<=15:=by
  have e1:(kK f).l.length<=(jC f.params.length 0 { (zkW ⟨26,0,[]⟩ ⟨[],[],0,0⟩).2 with state:=(zkW ⟨26,0,[]⟩ ⟨[],[],0,0⟩).1}).l.length+f.locals.length:=I;have e2:(jC f.params.length 0 { (zkW ⟨26,0,[]⟩ ⟨[],[],0,0⟩).2 with state:=(zkW ⟨26,0,[]⟩ ⟨[],[],0,0⟩).1}).l.length<=1+f.params.length:=j;omega
 obtain⟨s,z,o,q3,q4⟩:=(RX hc (np:=f.params.length) n).2.1 f.body (kK f) C ac hs ac;obtain⟨v,M,m,r3,r4⟩:=sf hc n f.value s Z ac o;have lv:=zmp _ n _ _ _ M;exact⟨s,v,z,M,m,r3,by rw[lv.n];omega,ac⟩
theorem LI.fin{c:Cx}{np:Nat}{s:Bd}(h:LI c np s)(M:s.l.length<2^36)(J:s.loops<=16):Fin s:=by
 refine⟨fun x hx=>?_,M,ac⟩;have hp:=h.p x hx;obtain⟨i,I,e⟩:=yM hx;have K:s.l[i]?=some x:=by rw[aT I,e]
 have O:=h.wf i I;rw[xz I]at O;obtain⟨t,o,_,_⟩:=Hy K O;refine⟨hp.op,hp.imm,fun k V=>?_,by have:=hp.len;omega⟩;have:=ul o k V;omega
theorem ziB{p:Pr}(h:PrIn p)(Z:p.sz<2^30){n:Nat}(J:2*p.sz<n):Jm p n:=fun f K=>by
 obtain⟨s,v,m,j,z,V,Y,U⟩:=Sb h J K;exact⟨s,v,m,j,z.fin ac Y⟩
def zng(l:List Nd)(A:Nat->Prop)(k:Int):Prop:=∀t,(zna l k).testBit t=true->A t
theorem x7(l:List Nd):∀{i j:Nat},j<i->(zmR l i).getD j 0=(match l[j]? with|some n=>p9 n (zmR l j)|none=>0)
 |0,j,h=>by omega
 |i+1,j,h=>by
  rw[zmR];by_cases e:j<i
  .rw[Ie (by rw[uu];exact e)];exact x7 l e
  .obtain rfl:j=i:=by omega
   rw[If (uu l j).symm];cases l[j]? <;>rfl
theorem Sd{l m:List Nd}:∀{i:Nat},i<=l.length->zmR (l++m) i=zmR l i
 |0,_=>rfl
 |i+1,h=>by
  have ih:=Sd (l:=l) (m:=m) (i:=i) ac;rw[zmR,zmR,ih,jG ac]
theorem Se{n:Nd}{h Z:List Nat}:∀(M:List Int) (j m:Nat),(∀k∈M,h.getD k.toNat 0=Z.getD k.toNat 0)->n1 n h j M m=n1 n Z j M m
 |[],j,m,_=>rfl
 |k::M,j,m,e=>by
  rw[n1,n1,Se M _ _ fun q V=>e q (el _ V)];unfold rO;rw[e k ee]
theorem ztT{l:List Nd}{i:Nat}{n:Nd}(J:l[i]?=some n)(o:∀k∈n.kids,0<=k/\k<i):zna l i=p9 n (zmR l l.length):=by
 have I:i<l.length:=by
  by_cases c:i<l.length
  .exact c
  .rw[lD ac]at J;cases J
 unfold zna;rw[ja,x7 l I,J];simp only;unfold p9;refine Se _ _ _ fun k V=>?_;have:=o k V;rw[x7 l (show k.toNat<i by omega),x7 l (show k.toNat<l.length by omega)]
theorem Sf{l m:List Nd}{k:Int}(Z:0<=k)(h1:k<l.length):zna (l++m) k=zna l k:=by
 unfold zna;rw[x7 _ (show k.toNat<(l++m).length by rw[fj];omega),x7 _ (show k.toNat<l.length by omega),jG ac,Sd ac]
theorem zng.le{l J:List Nd}{A:Nat->Prop}{k:Int}(h:zng l A k)(Z:0<=k)(h1:k<l.length)(M:l<+:J):zng J A k:=by
 obtain⟨m,rfl⟩:=M;intro t j;rw[Sf Z h1]at j;exact h t j
theorem zng.mono{l:List Nd}{A B:Nat->Prop}{k:Int}(h:zng l A k)(U:∀t,A t->B t):zng l B k:=fun t j=>U t (h t j)
theorem ztU{n:Nd}{h:List Nat}{A:Nat->Prop}(z:n.op=3->A (n.imm.tdiv 16).toNat)(o:∀(j:Nat) (k:Int),n.kids[j]?=some k->∀t,(h.getD k.toNat 0).testBit t=true->A t\/(n.op=31/\eC n.kids.length<=j/\t=n.imm.toNat))(t:Nat)(Z:(p9 n h).testBit t=true):A t:=by
 unfold p9 at Z;rw[Dg,pN]at Z;rcases Z with Z|Z
 .by_cases c:n.op=3
  .rw[am c,zZ,jJ]at Z;rw[<-Z];exact z c
  .rw[af c]at Z;simp at Z
 .obtain⟨⟨k,j⟩,V,C⟩:=Da.1 Z;have K:n.kids[j]?=some k:=by
   have:=List.mem_zipIdx_iff_getElem?.1 V;simpa using this
  simp only at C;unfold rO at C;split at C
  .rename_i c;rw[zY,co,zZ]at C;rcases o j k K t C.1 with a|⟨_,_,e⟩
   .exact a
   .rw[e]at C;simp at C
  .rename_i c;rcases o j k K t C with a|⟨m,U,_⟩
   .exact a
   .exact absurd ⟨m,U⟩ c
theorem zwS{l:List Nd}{n:Nd}(h:fO l n≠0):∀k∈n.kids,0<=k/\k<l.length:=by
 unfold fO at h;split at h
 .exact absurd rfl h
 .rename_i s U;intro k o;have:=ul U k o;omega
theorem Eu{l:List Nd}{n:Nd}{A:Nat->Prop}(O:zn3 l)(U:fO l n≠0)(M:n.op=3->A (n.imm.tdiv 16).toNat)(J:∀(j:Nat) (k:Int),n.kids[j]?=some k->∀t,(zna l k).testBit t=true->A t\/(n.op=31/\eC n.kids.length<=j/\t=n.imm.toNat)):zng (jB l n) A (hY l n):=by
 obtain⟨a,b⟩:=IY O rfl U;have K:=IV l n;have C:=zpa l n;have z:=b _ C;rw[xz C]at z;obtain⟨s,I,_,_⟩:=Hy K z;have Y:=ul I;intro t Z;rw[ztT K fun k V=>⟨(Y k V).1,(Y k V).2.1⟩]at Z;refine ztU M (fun j k o t Z=>?_) t Z;have hr:=zwS U k (j7 o);obtain⟨m,V⟩:=tl l n;refine J j k o t ?_;rw[<-Sf (m:=m) hr.1 hr.2,V];exact Z
theorem AS{l:List Nd}{n:Nd}{A:Nat->Prop}(O:zn3 l)(U:fO l n≠0)(z:n.op≠3)(o:∀k∈n.kids,zng l A k):zng (jB l n) A (hY l n):=
 Eu O U (fun e=>absurd e z) fun j k Z t Y=>.inl (o k (j7 Z) t Y)
structure IsM (A:Nat->Prop) (l:List Nd) (t k:Int):Prop where
 i:IsT l t k
 m:zng l A k
theorem IsM.le{A:Nat->Prop}{l J:List Nd}{t k:Int}(h:IsM A l t k)(M:l<+:J):IsM A J t k:=⟨h.i.le M,h.m.le h.i.lo h.i.hi M⟩
theorem IsM.mono{A B:Nat->Prop}{l:List Nd}{t k:Int}(h:IsM A l t k)(U:∀t,A t->B t):IsM B l t k:=⟨h.i,h.m.mono U⟩
structure LG (c:Cx) (np:Nat) (A:Nat->Prop) (s:Bd):Prop where
 i:LI c np s
 v:∀y∈s.vars,IsM A s.l 1 y
 st:IsM A s.l 2 s.state
structure Ql (s r:Bd):Prop where
 q:∀x∈r.l,x∈s.l\/(x.op≠3/\x.op≠31)
theorem Ql.refl(s:Bd):Ql s s:=⟨fun x h=>.inl h⟩
def wC:=@Ql.refl
theorem Ql.trans{a b d:Bd}(h:Ql a b)(k:Ql b d):Ql a d:=⟨fun x hx=>(k.q x hx).elim (fun j=>h.q x j) .inr⟩
theorem Ql.setS{a b:Bd}(h:Ql a b)(x:Int):Ql a {b with state:=x}:=⟨h.q⟩
theorem Ql.ofS{a b:Bd}{x:Int}(h:Ql {a with state:=x} b):Ql a b:=⟨h.q⟩
section
variable {c:Cx} {np:Nat} {A:Nat -> Prop} {s:Bd}
theorem LG.setS(h:LG c np A s){x:Int}(o:IsM A s.l 2 x):LG c np A {s with state:=x}:=⟨h.i.setS o.i,h.v,o⟩
theorem LG.setV(h:LG c np A s){x:List Int}(o:∀y∈x,IsM A s.l 1 y)(M:x.length=c.names.length):LG c np A {s with vars:=x}:=⟨h.i.setV (fun y hy=>(o y hy).i) M,o,h.st⟩
theorem LG.setN(h:LG c np A s)(x:Nat):LG c np A {s with loops:=x}:=⟨h.i.setN x,h.v,h.st⟩
theorem LG.mono{B:Nat->Prop}(h:LG c np A s)(U:∀t,A t->B t):LG c np B s:=⟨h.i,fun y hy=>(h.v y hy).mono U,h.st.mono U⟩
theorem LG.put(h:LG c np A s){n:Nd}(C:LI c np (zkW n s).2):LG c np A (zkW n s).2:=⟨C,fun y hy=>(h.v y hy).le (tl _ _),h.st.le (tl _ _)⟩
theorem Ev(s:Bd){n:Nd}(z:n.op≠3)(j:n.op≠31):Ql s (zkW n s).2:=⟨fun x hx=>by
 rcases tm.1 hx with hx|rfl
 .exact .inl hx
 .exact .inr ⟨z,j⟩⟩
theorem sg(h:LG c np A s){n:Nd}{t:Int}(U:fO s.l n=t)(Z:t≠0)(C:NdP c np n)(z:n.op≠3)(j:n.op≠31)(o:∀k∈n.kids,zng s.l A k):LG c np A (zkW n s).2/\IsM A (zkW n s).2.l t (zkW n s).1/\Ql s (zkW n s).2:=by
 obtain⟨a,b,_⟩:=znv h.i U Z C;exact⟨h.put a,⟨b,AS h.i.wf (by rw[U];exact Z) z o⟩,Ev s z j⟩
theorem AT{l:List Nd}{a:Int}(h:zng l A a):∀k∈[a],zng l A k:=fun k o=>by
 simp only[jp]at o;subst o;exact h
theorem AU{l:List Nd}{a b:Int}(h:zng l A a)(h2:zng l A b):∀k∈[a,b],zng l A k:=fun k o=>by
 rcases fX.1 o with rfl|o
 .exact h
 .exact AT h2 k o
theorem Sg{l:List Nd}{a b d:Int}(h:zng l A a)(h2:zng l A b)(z:zng l A d):∀k∈[a,b,d],zng l A k:=fun k o=>by
 rcases fX.1 o with rfl|o
 .exact h
 .exact AU h2 z k o
theorem x8(h:LG c np A s){t k a b:Int}(o:IsM A s.l 1 k)(O:IsM A s.l t a)(C:IsM A s.l t b)(j:t=1\/t=2):LG c np A (zlr k a b s).2/\IsM A (zlr k a b s).2.l t (zlr k a b s).1/\Ql s (zlr k a b s).2:=by
 unfold zlr;split
 .exact⟨h,O,wC s⟩
 .exact sg h (PJ o.i O.i C.i j) ac (i4 _ _ aE fD ax aE aE aE aE) ax ax (Sg o.m O.m C.m)
theorem Jw(h:LG c np A s){t v:Int}(Z:IsM A s.l 1 v)(Y:1<=t)(h1:t<=1000016):LG c np A (pm t v s)/\Ql s (pm t v s):=by
 have:=sg h (n:=⟨27,t,[s.state,v]⟩) (PL h.st.i Z.i Y h1) aE (i4 _ _ aE fD ax aE aE aE aE) ax ax (AU h.st.m Z.m);exact⟨this.1.setS this.2.1,this.2.2.setS _⟩
theorem AW(h:LG c np A s){n:Int}(J:znc n):LG c np A (zkW ⟨1,n,[]⟩ s).2/\IsM A (zkW ⟨1,n,[]⟩ s).2.l 1 (zkW ⟨1,n,[]⟩ s).1/\Ql s (zkW ⟨1,n,[]⟩ s).2:=
 sg h (PE n) aE (i4 _ _ aE J ax aE aE aE aE) ax ax ax
theorem Ew(h:LG c np A s){op a b:Int}(O:IsM A s.l 1 a)(C:IsM A s.l 1 b)(Z:4<=op)(h1:op<=19):LG c np A (zkW ⟨op,0,[a,b]⟩ s).2/\IsM A (zkW ⟨op,0,[a,b]⟩ s).2.l 1 (zkW ⟨op,0,[a,b]⟩ s).1/\Ql s (zkW ⟨op,0,[a,b]⟩ s).2:=
 sg h (PH O.i C.i Z h1) aE (i4 _ _ ac fD ax ac ac ac ac) (by show op≠3;omega) (by show op≠31;omega) (AU O.m C.m)
theorem Sh(h:LG c np A s){n i:Int}(J:znc n)(I:IsM A s.l 1 i):LG c np A (hZ n i s)/\Ql s (hZ n i s):=by
 obtain⟨Z,V,j⟩:=AW h J;have O:=I.le (zmh ⟨1,n,[]⟩ s).le.l;obtain⟨M,C,Y⟩:=Ew Z (op:=19) O V aE aE;obtain⟨U,K⟩:=Jw M (t:=2) C aE aE;exact⟨U,j.trans (Y.trans K)⟩
theorem ziF(h:LG c np A s){i:Int}(I:IsM A s.l 1 i):LG c np A (rm i s)/\Ql s (rm i s):=by
 obtain⟨J,V,j⟩:=AW h (n:=0) fD;have O:=I.le (zmh ⟨1,0,[]⟩ s).le.l;obtain⟨M,C,Z⟩:=Ew J (op:=16) O V aE aE;obtain⟨Y,U⟩:=Jw M (t:=1) C aE aE;exact⟨Y,j.trans (Z.trans U)⟩
theorem ziG(z:CxOkU c)(h:LG c np A s){i:Int}(I:IsM A s.l 1 i){k:Nat}(o:k<c.arrays.length):LG c np A (zkW ⟨23,k,[s.state,i]⟩ s).2/\IsM A (zkW ⟨23,k,[s.state,i]⟩ s).2.l 1 (zkW ⟨23,k,[s.state,i]⟩ s).1/\Ql s (zkW ⟨23,k,[s.state,i]⟩ s).2:=by
 obtain⟨a,b,_⟩:=RL z h.i I.i o;have al:=z.al;exact⟨h.put a,⟨b,AS h.i.wf (by rw[PK h.st.i I.i ac ac];decide) (by show ¬(23:Int)=3;decide) (AU h.st.m I.m)⟩,Ev s (by show ¬(23:Int)=3;decide) (by show ¬(23:Int)=31;decide)⟩
theorem zBK(z:CxOkU c)(h:LG c np A s){i v:Int}(I:IsM A s.l 1 i)(Z:IsM A s.l 1 v){k:Nat}(o:k<c.arrays.length):LG c np A (zkW ⟨28,k,[s.state,i,v]⟩ s).2/\IsM A (zkW ⟨28,k,[s.state,i,v]⟩ s).2.l 2 (zkW ⟨28,k,[s.state,i,v]⟩ s).1/\Ql s (zkW ⟨28,k,[s.state,i,v]⟩ s).2:=by
 obtain⟨a,b,_⟩:=RM z h.i I.i Z.i o;have al:=z.al;exact⟨h.put a,⟨b,AS h.i.wf (by rw[PN h.st.i I.i Z.i ac ac];decide) (by show ¬(28:Int)=3;decide) (Sg h.st.m I.m Z.m)⟩,Ev s (by show ¬(28:Int)=3;decide) (by show ¬(28:Int)=31;decide)⟩
theorem ziI(h:LG c np A s){v:Int}(Z:IsM A s.l 1 v):LG c np A (zkW ⟨29,0,[s.state,v]⟩ s).2/\IsM A (zkW ⟨29,0,[s.state,v]⟩ s).2.l 2 (zkW ⟨29,0,[s.state,v]⟩ s).1/\Ql s (zkW ⟨29,0,[s.state,v]⟩ s).2:=
 sg h (PM h.st.i Z.i) aE (i4 _ _ aE fD ax aE aE aE aE) ax ax (AU h.st.m Z.m)
theorem ziJ(h:LG c np A s){v:Int}(Z:IsM A s.l 2 v):LG c np A (zkW ⟨24,0,[v]⟩ s).2/\IsM A (zkW ⟨24,0,[v]⟩ s).2.l 1 (zkW ⟨24,0,[v]⟩ s).1/\Ql s (zkW ⟨24,0,[v]⟩ s).2:=
 sg h (PO Z.i) aE (i4 _ _ aE fD ax aE aE aE aE) ax ax (AT Z.m)
theorem ziK(z:CxOkU c)(h:LG c np A s){j:List Int}(O:∀a∈j,IsM A s.l 1 a){k:Nat}{f:Fu}(K:c.funcs[k]?=some f)(M:j.length=f.params.length):LG c np A (zkW ⟨30,k,s.state::j⟩ s).2/\IsM A (zkW ⟨30,k,s.state::j⟩ s).2.l 2 (zkW ⟨30,k,s.state::j⟩ s).1/\Ql s (zkW ⟨30,k,s.state::j⟩ s).2:=by
 obtain⟨a,b,_⟩:=RN z h.i (fun a h=>(O a h).i) K M;have U:=z.fl;have Z:=z.fp f (j7 K);have o:k<c.funcs.length:=by
  by_cases q:k<c.funcs.length
  .exact q
  .rw[lD ac]at K;cases K
 refine⟨h.put a,⟨b,AS h.i.wf (by rw[PP h.st.i (fun a h=>(O a h).i) ac ac ac];decide) (by show ¬(30:Int)=3;decide) fun q V=>?_⟩,Ev s (by show ¬(30:Int)=3;decide) (by show ¬(30:Int)=31;decide)⟩;rcases fX.1 V with rfl|V
 .exact h.st.m
 .exact(O q V).m
end
theorem sh{c:Cx}(hc:CxOkU c){np:Nat}{A:Nat->Prop}:∀(n:Nat) (x:Ex) (s:Bd),XOk c x->x.sz<n->LG c np A s->∃r,fu c n x s=some r/\LG c np A r.2/\IsM A r.2.l 1 r.1/\Ql s r.2
 |0,x,s,hx,hd,hs=>by omega
 |n+1,x,s,hx,hd,hs=>by
  have m:=sh hc (np:=np) (A:=A) n;have hwf:=hx.wf;have Y:=hx.df;have hrg:=(IZ x).1 hx.rg;rw[Ac,co,mJ]at hwf;rw[Af,co,iW]at Y;have O:=hwf.2;have hsz:=x.sz_eq;unfold fu;by_cases e1:x.kind=1
  .rw[am e1];obtain⟨a,b,d⟩:=AW hs hrg.1;exact⟨_,rfl,a,b,d⟩
  rw[af e1]at O⊢;by_cases e2:x.kind=2
  .rw[am e2];have hn:zlo c.names x.name=true:=by have:=Y.2;simp[e2]at this;exact this
   have C:cP c.names x.name<s.vars.length:=by rw[hs.i.vl];exact uM hn
   rw[aT C,oH];exact⟨_,rfl,hs,hs.v _ (cR C),wC s⟩
  rw[af e2]at O⊢;by_cases e3:x.kind=3
  .rw[am e3]at O⊢;simp only[lW]at O;have hn:zlo (c.arrays.map (·.name)) x.name=true:=by have:=Y.2;simp[e3]at this;exact this
   have C:=uM hn;rw[cp]at C;obtain⟨k,o⟩:=og x.kids (i:=0) ac;have hks:=AP o;obtain⟨r,hr,M,j,r3⟩:=m k s (hx.kid o) ac hs;rw[o,cn,hr,cn,aT C,cn];have ha:=hc.a _ (cR C);generalize c.arrays[cP (c.arrays.map (·.name)) x.name]=ar at ha⊢;obtain⟨a1,a2⟩:=Sh M (n:=ar.len) fD j;obtain⟨Z,U,K⟩:=ziG hc a1 (j.le (tq ar.len r.1 r.2).le.l) C;exact⟨_,rfl,Z,U,r3.trans (a2.trans K)⟩
  rw[af e3]at O⊢;by_cases e5:x.kind=5
  .have e4:¬x.kind=4:=by omega
   rw[af e4,am e5]at O;rw[am e5];simp only[lW]at O;obtain⟨k,o⟩:=og x.kids (i:=0) ac;obtain⟨k1,I⟩:=og x.kids (i:=1) ac;obtain⟨k2,V⟩:=og x.kids (i:=2) ac;have hks:=RO o I V;obtain⟨r,hr,z,p2,p3⟩:=m k s (hx.kid o) ac hs;obtain⟨M,J,q1,q2,q3⟩:=m k1 r.2 (hx.kid I) ac z;have l1:=zmp c n _ _ _ J;obtain⟨j,hr2,t1,t2,t3⟩:=m k2 {M.2 with state:=r.2.state} (hx.kid V) ac (q1.setS (z.st.le l1.le.l));have l2:=zmp c n _ _ _ hr2;rw[o,cn,hr,cn,I,cn,J,cn,V,cn,hr2,cn];have pc:IsM A j.2.l 1 r.1:=(p2.le l1.le.l).le l2.le.l;obtain⟨zlH,m2,m3⟩:=x8 t1 pc (q2.le l2.le.l) t2 (.inl rfl);have lm:=zm0 r.1 M.1 j.1 j.2;obtain⟨zlQ,n2,n3⟩:=x8 zlH (pc.le lm.le.l) ((q1.st.le l2.le.l).le lm.le.l) zlH.st (.inr rfl);have ln:=zm0 r.1 M.2.state (zlr r.1 M.1 j.1 j.2).2.state (zlr r.1 M.1 j.1 j.2).2;exact⟨_,rfl,zlQ.setS n2,m2.le ln.le.l,(p3.trans (q3.trans (t3.ofS.trans (m3.trans n3)))).setS _⟩
  rw[af e5]at O⊢;by_cases e4:x.kind=4
  .rw[am e4]at O;simp only[co,pN,jJ]at O;have hl:x.kids.length=2\/x.kids.length=1:=by rcases O.2 with h|h<;>omega
   obtain⟨k,o⟩:=og x.kids (i:=0) ac;have hks:=AP o;obtain⟨r,hr,z,p2,p3⟩:=m k s (hx.kid o) ac hs;rw[o,cn,hr,cn];by_cases e6:x.kids.length=1
   .rw[am e6];have ho:x.op=20\/x.op=21:=by
     rcases O.2 with h|h
     .omega
     .exact h.2
    obtain⟨a,b,d⟩:=sg z (PI p2.i ho) aE (i4 _ _ ac fD ax ac ac ac ac) (by show x.op≠3;omega) (by show x.op≠31;omega) (AT p2.m);exact⟨_,rfl,a,b,p3.trans d⟩
   .rw[af e6];obtain⟨k1,I⟩:=og x.kids (i:=1) ac;have hks2:=Jo o I;obtain⟨M,J,q1,q2,q3⟩:=m k1 r.2 (hx.kid I) ac z;have l1:=zmp c n _ _ _ J;rw[I,cn,J,cn];have ho:4<=x.op/\x.op<=18:=by
     rcases O.2 with h|h
     .have:=h.2;simp[p6]at this;exact this
     .omega
    have p2':=p2.le l1.le.l;by_cases e7:x.op=7\/x.op=8
    .rw[am e7];obtain⟨a1,a2⟩:=ziF q1 q2;have ld:=DM M.1 M.2;obtain⟨Z,U,K⟩:=Ew a1 (p2'.le ld.le.l) (q2.le ld.le.l) (by omega:4<=x.op) ac;exact⟨_,rfl,Z,U,p3.trans (q3.trans (a2.trans K))⟩
    .rw[af e7];obtain⟨Z,U,K⟩:=Ew q1 p2' q2 (by omega:4<=x.op) ac;exact⟨_,rfl,Z,U,p3.trans (q3.trans K)⟩
  .rw[af e4]at O;simp at O
theorem Sk{c:Cx}(z:CxOkU c){np n:Nat}{A:Nat->Prop}:∀(l:List Ex) (s:Bd),(∀x∈l,XOk c x)->zlZ l<n->LG c np A s->∃r,ro c n l s=some r/\LG c np A r.2/\(∀a∈r.1,IsM A r.2.l 1 a)/\Ql s r.2
 |[],s,hx,hd,hs=>⟨_,rfl,hs,ax,wC s⟩
 |x::l,s,hx,hd,hs=>by
  rw[zlZ]at hd;obtain⟨r,hr,Y,m,V⟩:=sh z n x s (hx x ee) ac hs;obtain⟨j,Z,K,o,U⟩:=Sk (n:=n) z l r.2 (fun y hy=>hx y (el _ hy)) ac Y;have J:=(tt c n _ _ _ Z).1;refine⟨(r.1::j.1,j.2),Ro,K,fun a O=>?_,V.trans U⟩;rcases fX.1 O with rfl|O
  .exact m.le J.le.l
  .exact o a O
structure LP (s:Bd):Prop where
 l1:∀x∈s.l,x.op=31->0<=x.imm/\x.imm<s.loops
 l2:∀x∈s.l,∀y∈s.l,x.op=31->y.op=31->x.imm=y.imm->x=y
 l3:∀x∈s.l,x.op=3->0<=x.imm/\x.imm<16*s.loops
 l4:∀x∈s.l,∀y∈s.l,x.op=31->y.op=3->y.imm.tdiv 16=x.imm->y.imm.tmod 16<eC x.kids.length
structure Dl (s r:Bd):Prop where
 d:∀x∈r.l,x∈s.l\/((x.op=31->(s.loops:Int)<=x.imm)/\(x.op=3->16*(s.loops:Int)<=x.imm))
 n:s.loops<=r.loops
theorem Dl.refl(s:Bd):Dl s s:=⟨fun x h=>.inl h,aB _⟩
theorem Dl.trans{a b e:Bd}(h:Dl a b)(k:Dl b e):Dl a e:=⟨fun x hx=>by
 have J:=h.n;rcases k.d x hx with m|⟨m,j⟩
 .exact h.d x m
 .exact .inr ⟨fun q=>by have:=m q;omega,fun q=>by have:=j q;omega⟩,dc h.n k.n⟩
theorem Ql.dl{s r:Bd}(h:Ql s r)(J:s.loops<=r.loops):Dl s r:=⟨fun x hx=>(h.q x hx).imp id fun q=>⟨fun e=>absurd e q.2,fun e=>absurd e q.1⟩,J⟩
theorem Ql.m31{s r:Bd}(h:Ql s r){x:Nd}(o:x∈r.l)(e:x.op=31):x∈s.l:=(h.q x o).elim id fun q=>absurd e q.2
theorem Ql.m3{s r:Bd}(h:Ql s r){x:Nd}(o:x∈r.l)(e:x.op=3):x∈s.l:=(h.q x o).elim id fun q=>absurd e q.1
theorem LP.ql{s r:Bd}(h:LP s)(q:Ql s r)(J:s.loops<=r.loops):LP r:=
 ⟨fun x hx e=>by have:=h.l1 x (q.m31 hx e) e;omega,fun x hx y hy ex Z=>h.l2 x (q.m31 hx ex) y (q.m31 hy Z) ex Z,fun x hx e=>by have:=h.l3 x (q.m3 hx e) e;omega,fun x hx y hy ex Z=>h.l4 x (q.m31 hx ex) y (q.m3 hy Z) ex Z⟩
theorem LP.setS{s:Bd}(h:LP s)(x:Int):LP {s with state:=x}:=⟨h.l1,h.l2,h.l3,h.l4⟩
theorem LP.setV{s:Bd}(h:LP s)(x:List Int):LP {s with vars:=x}:=⟨h.l1,h.l2,h.l3,h.l4⟩
theorem Dl.setS{s r:Bd}(h:Dl s r)(x:Int):Dl s {r with state:=x}:=⟨h.d,h.n⟩
theorem Dl.setV{s r:Bd}(h:Dl s r)(x:List Int):Dl s {r with vars:=x}:=⟨h.d,h.n⟩
theorem zps(k a b:Int)(s:Bd)(z:Int):zlr k a b {s with state:=z}=((zlr k a b s).1,{ (zlr k a b s).2 with state:=z}):=by
 unfold zlr;split<;>rfl
section
variable {c:Cx} {np:Nat} {A:Nat -> Prop}
theorem Sl{k:Int}{a:List Int}:∀(m i:Nat) (s:Bd),LG c np A s->IsM A s.l 1 k->(∀y∈a,IsM A s.l 1 y)->a.length=c.names.length->i+m=c.names.length->∃r,oh k a m i s=some r/\LG c np A r/\Ql s r
 |0,i,s,h,_,_,_,_=>⟨s,rfl,h,wC s⟩
 |m+1,i,s,h,hk,ha,hl,hi=>by
  have U:=h.i.vl;have Z:i<a.length:=ac;have j:i<s.vars.length:=ac;unfold oh;rw[aT Z,cn,aT j,cn];obtain⟨zlH,K,Y⟩:=x8 h hk (ha _ (cR Z)) (h.v _ (cR j)) (.inl rfl);have lv:=zm0 k a[i] s.vars[i] s;obtain⟨r,e,M,V⟩:=Sl m (i+1) { (zlr k a[i] s.vars[i] s).2 with vars:=(zlr k a[i] s.vars[i] s).2.vars.set i (zlr k a[i] s.vars[i] s).1} (zlH.setV (fun y hy=>by
   rcases rv hy with hy|rfl
   .exact zlH.v y hy
   .exact K) (by rw[jd];exact zlH.i.vl)) (hk.le lv.le.l) (fun y hy=>(ha y hy).le lv.le.l) hl ac
  exact⟨r,e,M,Y.trans ⟨V.q⟩⟩
def zn6(k m:Nat)(s r:Bd):Prop:=∀x∈r.l,x∈s.l\/(x.op=3/\16*(k:Int)<=x.imm/\x.imm<16*(k:Int)+m)
theorem Sn{k m:Nat}(O:k<=15)(Y:A k)(J:m<=16):∀(U:List Nat) (j:Nat) (s:Bd),LG c np A s->j+U.length+1<=m->LG c np A (jh (16*(k:Int)+1) U j s)/\zn6 k m s (jh (16*(k:Int)+1) U j s)
 |[],j,s,h,_=>⟨h,fun x hx=>.inl hx⟩
 |w::U,j,s,h,o=>by
  rw[eK]at o;have Z:(16*(k:Int)+1+j).tmod 16=1+j:=by
   rw[Jh ac];omega
  have M:(16*(k:Int)+1+j).tdiv 16=k:=by
   rw[te ac];omega
  have V:fO s.l ⟨3,16*(k:Int)+1+j,[]⟩=1:=by rw[DQ ac ac,Z,af ac]
  obtain⟨zlH,I,m3⟩:=znv h.i (n:=⟨3,16*(k:Int)+1+j,[]⟩) V aE (i4 _ _ aE fD ax aE aE aE aE);have mm:zng (zkW ⟨3,16*(k:Int)+1+j,[]⟩ s).2.l A (zkW ⟨3,16*(k:Int)+1+j,[]⟩ s).1:=Eu h.i.wf (by rw[V];decide) (fun _=>by show A ((16*(k:Int)+1+j).tdiv 16).toNat;rw[M,ja];exact Y) (fun j k o=>by simp at o);have K:=h.put zlH;unfold jh;obtain⟨C,z⟩:=Sn O Y J U (j+1) { (zkW ⟨3,16*(k:Int)+1+j,[]⟩ s).2 with vars:=(zkW ⟨3,16*(k:Int)+1+j,[]⟩ s).2.vars.set w (zkW ⟨3,16*(k:Int)+1+j,[]⟩ s).1} (K.setV (fun y hy=>by
   rcases rv hy with hy|rfl
   .exact K.v y hy
   .exact⟨I,mm⟩) Jf) ac
  refine⟨C,fun x hx=>?_⟩;rcases z x hx with hx|hx
  .rcases tm.1 hx with hx|rfl
   .exact .inl hx
   .exact .inr ⟨rfl,by show 16*(k:Int)<=16*(k:Int)+1+j;omega,by show 16*(k:Int)+1+j<16*(k:Int)+m;omega⟩
  .exact .inr hx
theorem So{lp k:Int}{old:List Int}{q:Nd}:∀(U:List Nat) (j:Nat) (s:Bd),LG c np A s->IsM A s.l 3 lp->s.l[lp.toNat]?=some q->IsM A s.l 1 k->(∀y∈old,IsM A s.l 1 y)->(∀w∈U,w<old.length)->1<=j->((j+U.length:Nat):Int)<=eC q.kids.length->j+U.length<=16 ->
 LG c np A (gL lp k old U j s)/\Ql s (gL lp k old U j s)
 |[],j,s,h,_,_,_,_,_,_,_,_=>⟨h,wC s⟩
 |w::U,j,s,h,hlp,hq,hk,ho,hw,hj,hlv,h16=>by
  rw[eK]at hlv h16;have hs:fO s.l ⟨25,j,[lp]⟩=1:=by rw[DS hlp.i hq ac ac,af ac]
  obtain⟨zlH,K,O⟩:=sg h (n:=⟨25,j,[lp]⟩) hs aE (i4 _ _ aE fD ax aE aE aE aE) ax ax (AT hlp.m);have Z:=zmh ⟨25,j,[lp]⟩ s;have o:=hw w ee;have Y:old.getD w 0∈old:=Rp;obtain⟨zlQ,M,C⟩:=x8 zlH (hk.le Z.le.l) K ((ho _ Y).le Z.le.l) (.inl rfl);have m:=Z.trans (zm0 k (zkW ⟨25,j,[lp]⟩ s).1 (old.getD w 0) (zkW ⟨25,j,[lp]⟩ s).2);unfold gL;simp only[];generalize zlr k (zkW ⟨25,j,[lp]⟩ s).1 (old.getD w 0) (zkW ⟨25,j,[lp]⟩ s).2=z at *;have V:z.2.l[lp.toNat]?=some q:=by
   obtain⟨t,J⟩:=m.le.l;rw[<-J,jG,hq];have:=hlp.i.hi;have:=hlp.i.lo;omega
  obtain⟨I,r2⟩:=So (q:=q) (lp:=lp) (k:=k) (old:=old) U (j+1) {z.2 with vars:=z.2.vars.set w z.1} (zlQ.setV (fun y hy=>by
   rcases rv hy with hy|rfl
   .exact zlQ.v y hy
   .exact M) (by rw[jd];exact zlQ.i.vl)) (hlp.le m.le.l) V (hk.le m.le.l) (fun y hy=>(ho y hy).le m.le.l) (fun y hy=>hw y (el _ hy)) ac ac ac
  exact⟨I,O.trans (C.trans ⟨r2.q⟩)⟩
end
def Jx(c:Cx)(np n:Nat):Prop:=∀A x s,SOk c x->2*x.sz<n->LG c np A s->LP s->s.loops+zlG x<=16->∃r,ol c n x s=some r/\LG c np A r/\LP r/\r.loops<=s.loops+zlG x/\Dl s r
def AY(c:Cx)(np n:Nat):Prop:=∀A l s,SsOk c l->2*zld l<n->LG c np A s->LP s->s.loops+zl3 l<=16->∃r,gE c n l s=some r/\LG c np A r/\LP r/\r.loops<=s.loops+zl3 l/\Dl s r
def Jy(c:Cx)(np n:Nat):Prop:=∀A x s,SOk c x->x.kind=4->2*x.sz<=n->LG c np A s->LP s->s.loops+zlG x<=16->∃r,pn c n x s=some r/\LG c np A r/\LP r/\r.loops<=s.loops+zlG x/\Dl s r
theorem ziN{c:Cx}{np k:Nat}{A:Nat->Prop}{r d:Bd}{ws:List Nat}{dv:Int}(hk:k<=15)(hwl:ws.length<=14)(hr:LG c np A r)(hd:LG c np (fun t=>A t\/t=k) d)(hv:IsM (fun t=>A t\/t=k) d.l 1 dv)(Z:r.l<+:d.l)(z:∀i∈ws,i<r.vars.length)(N:Nd)
 (M:N=⟨31,k,r.state::(ws.map fun i=>r.vars.getD i 0)++[dv,d.state]++ws.map fun i=>d.vars.getD i 0⟩) :
 LG c np A { (zkW N d).2 with vars:=r.vars,state:=r.state} /\ IsM A (zkW N d).2.l 3 (zkW N d).1/\N.kids.length=2*ws.length+3:=by
 have C:∀a∈ws.map fun i=>r.vars.getD i 0,IsM A d.l 1 a:=fun a O=>by
  obtain⟨i,J,rfl⟩:=kV.1 O;rw[dx,aT (z i J)];exact(hr.v _ (cR _)).le Z
 have hn:∀a∈ws.map fun i=>d.vars.getD i 0,IsM (fun t=>A t\/t=k) d.l 1 a:=fun a O=>by
  obtain⟨i,J,rfl⟩:=kV.1 O;have:=z i J;have e1:=hd.i.vl;have e2:=hr.i.vl;rw[dx,aT (show i<d.vars.length by omega)];exact hd.v _ (cR _)
 have I:N.kids.length=2*ws.length+3:=by rw[M];simp;omega
 have hs:fO d.l N=3:=by
  rw[M];exact PQ (hr.st.i.le Z) (fun a h=>(C a h).i) hv.i hd.st.i (fun a h=>(hn a h).i) ax b9 ac ac
 have m:N.op=31:=by rw[M]
 have him:N.imm=k:=by rw[M]
 have hp:NdP c np N:=by
  have:=i4 c np (op:=31) (imm:=k) (kids:=N.kids) aE fD ac aE aE aE aE;rw[show N=⟨31,k,N.kids⟩ by rw[M]];exact this
 obtain⟨k1,k2,_⟩:=znv hd.i hs aE hp;have km:zng (zkW N d).2.l A (zkW N d).1:=Eu hd.i.wf (by rw[hs];decide) (fun e=>by rw[m]at e;cases e) (fun j q o t K=>by
  by_cases c1:eC N.kids.length<=j
  .have V:q∈N.kids:=j7 o;have hq:zng d.l (fun t=>A t\/t=k) q:=by
    rw[M]at V;simp only[mX,jp]at V;rcases V with((rfl|V)|rfl|rfl)|V
    .exact(hr.st.le Z).m.mono fun _=>.inl
    .exact(C q V).m.mono fun _=>.inl
    .exact hv.m
    .exact hd.st.m
    .exact(hn q V).m
   rcases hq t K with h|h
   .exact .inl h
   .exact .inr ⟨m,c1,by rw[him,h,ja]⟩
  .rw[I,C5 _ ac]at c1;have hlt:j<(r.state::(ws.map fun i=>r.vars.getD i 0)).length:=b9;have V:q∈r.state::(ws.map fun i=>r.vars.getD i 0):=by
    rw[M]at o;simp only at o;rw[i8,jG hlt]at o;exact j7 o
   rcases fX.1 V with rfl|V
   .exact .inl ((hr.st.le Z).m t K)
   .exact .inl ((C q V).m t K))
 have lk:=(zmh N d).le.l;have Y:IsM A (zkW N d).2.l 2 r.state:=(hr.st.le Z).le lk;have U:∀y∈r.vars,IsM A (zkW N d).2.l 1 y:=fun y hy=>((hr.v y hy).le Z).le lk;exact⟨⟨(k1.setV (fun y hy=>(U y hy).i) hr.i.vl).setS Y.i,U,Y⟩,⟨k2,km⟩,I⟩
theorem ziO{c:Cx}(hc:CxOkU c){np n:Nat}(IS:AY c np n):Jy c np (n+1):=fun A x s hx hk hsz h hP hw=>by
 have hs:=x.sz_eq;have hw1:=zQ x;rw[am hk]at hw1;have hv:=hx.value (.inr (.inr (.inr (.inl hk))));unfold pn;obtain⟨r,hr,K,p2,p3⟩:=sh hc n x.value {s with loops:=s.loops+1} hv ac (h.setN _);have lr:=zmp c n _ _ _ hr;have hrn:r.2.loops=s.loops+1:=lr.n;obtain⟨b,hb,hbl⟩:=AQ n x.thn (List.replicate r.2.vars.length false) hx.subs.1 ac (by rw[qU];exact K.i.vl);rw[hr,cn,hb,cn];simp only[];have hwl:=RW b;have hnl:=hc.nl;have hwm:∀i∈zmV b,i<r.2.vars.length:=fun i hi=>by have:=I4 hi;have:=K.i.vl;omega
 generalize zmV b=U at *;have hm:(16*(s.loops:Int)).tmod 16=0:=HP;have hdv:(16*(s.loops:Int)).tdiv 16=s.loops:=by rw[te ac];omega
 have hsq:fO r.2.l ⟨3,16*(s.loops:Int),[]⟩=2:=by rw[DQ ac ac,hm,am rfl]
 have p1':LG c np (fun t=>A t\/t=s.loops) r.2:=K.mono fun _=>.inl;obtain⟨q1,q2,_⟩:=znv K.i (n:=⟨3,16*(s.loops:Int),[]⟩) hsq aE (i4 _ _ aE fD ax aE aE aE aE);have qm:zng (zkW ⟨3,16*(s.loops:Int),[]⟩ r.2).2.l (fun t=>A t\/t=s.loops) (zkW ⟨3,16*(s.loops:Int),[]⟩ r.2).1:=Eu K.i.wf (by rw[hsq];decide) (fun _=>.inr (by show((16*(s.loops:Int)).tdiv 16).toNat=_;rw[hdv,ja])) (fun j k hj=>by simp at hj);have qg:=p1'.put q1;have lq:=zmh ⟨3,16*(s.loops:Int),[]⟩ r.2;have vq:∀y∈(zkW ⟨3,16*(s.loops:Int),[]⟩ r.2).2.l,y∈r.2.l\/(y.op=3/\y.imm=16*(s.loops:Int)):=fun y hy=>by
  rcases tm.1 hy with hy|rfl
  .exact .inl hy
  .exact .inr ⟨rfl,rfl⟩
 generalize zkW ⟨3,16*(s.loops:Int),[]⟩ r.2=q at *;obtain⟨u1,u2⟩:=Sn (k:=s.loops) (m:=U.length+1) (A:=fun t=>A t\/t=s.loops) ac (.inr rfl) ac U 0 {q.2 with state:=q.1} (qg.setS ⟨q2,qm⟩) ac;have lu:=tu (16*(s.loops:Int)+1) U 0 {q.2 with state:=q.1};generalize jh (16*(s.loops:Int)+1) U 0 {q.2 with state:=q.1}=u at *;have hun:u.loops=s.loops+1:=Rq
 -- what is in u: nodes of s,quiet ones,variables of this loop
 have hu:∀y∈u.l,y∈s.l\/(y.op≠3/\y.op≠31)\/(y.op=3/\16*(s.loops:Int)<=y.imm/\y.imm<16*(s.loops:Int)+(U.length+1:Nat)):=fun y hy=>by
  rcases u2 y hy with hy|hy
  .rcases vq y hy with hy|⟨e1,V⟩
   .rcases p3.q y hy with hy|hy
    .exact .inl hy
    .exact .inr (.inl hy)
   .exact .inr (.inr ⟨e1,ac,ac⟩)
  .exact .inr (.inr hy)
 have O:∀y∈u.l,y.op=31->y∈s.l:=fun y hy e=>by
  rcases hu y hy with Z|Z|Z
  .exact Z
  .exact absurd e Z.2
  .rw[Z.1]at e;cases e
 have uP:LP u:=by
  refine⟨fun y hy e=>?_,fun y hy z J M o=>hP.l2 y (O y hy M) z (O z J o) M o,fun y hy e=>?_,fun y hy z J M o e=>?_⟩
  .have:=hP.l1 y (O y hy e) e;omega
  .rcases hu y hy with Z|Z|Z
   .have:=hP.l3 y Z e;omega
   .exact absurd e Z.1
   .omega
  .rcases hu z J with Z|Z|Z
   .exact hP.l4 y (O y hy M) z Z M o e
   .exact absurd o Z.1
   .have:=hP.l1 y (O y hy M) M;rw[te ac]at e;omega
 obtain⟨t,ht,t1,tP,t2,t3⟩:=IS _ x.thn u hx.subs.1 ac u1 uP ac;have lt:=(nA c n).2.1 _ _ _ ht;rw[ht,cn];obtain⟨d,hd,d1,d2,d3⟩:=sh hc n x.value t hv ac t1;have ld:=zmp c n _ _ _ hd;have dP:=tP.ql d3 (by rw[ld.n];exact aB _);rw[hd,cn];have le1:zmu r.2 d.2:=(lq.le.setS q.1).trans (lu.1.trans (lt.1.trans ld.le));have tn:=t3.n;have hdn:s.loops+1<=d.2.loops:=by rw[ld.n];omega
 -- what is in d
 have I:∀y∈d.2.l,y.op=31->y∈s.l\/(s.loops:Int)+1<=y.imm:=fun y hy e=>by
  rcases t3.d y (d3.m31 hy e)with Z|Z
  .exact .inl (O y Z e)
  .have:=Z.1 e;exact .inr ac
 have hd3:∀y∈d.2.l,y.op=3->y∈s.l\/(16*(s.loops:Int)<=y.imm/\y.imm<16*(s.loops:Int)+(U.length+1:Nat))\/16*((s.loops:Int)+1)<=y.imm:=fun y hy e=>by
  rcases t3.d y (d3.m3 hy e)with Z|Z
  .rcases hu y Z with Z|Z|Z
   .exact .inl Z
   .exact absurd e Z.1
   .exact .inr (.inl Z.2)
  .have:=Z.2 e;exact .inr (.inr ac)
 obtain⟨g1,g2,hkl⟩:=ziN (k:=s.loops) (dv:=d.1) ac ac K d1 d2 le1.l hwm ⟨31,s.loops,r.2.state::(U.map fun i=>r.2.vars.getD i 0)++[d.1,d.2.state]++U.map fun i=>d.2.vars.getD i 0⟩ rfl;have hop:(⟨31,s.loops,r.2.state::(U.map fun i=>r.2.vars.getD i 0)++[d.1,d.2.state]++U.map fun i=>d.2.vars.getD i 0⟩:Nd).op=31:=rfl;have him:(⟨31,s.loops,r.2.state::(U.map fun i=>r.2.vars.getD i 0)++[d.1,d.2.state]++U.map fun i=>d.2.vars.getD i 0⟩:Nd).imm=s.loops:=rfl;have lk:=zmh ⟨31,s.loops,r.2.state::(U.map fun i=>r.2.vars.getD i 0)++[d.1,d.2.state]++U.map fun i=>d.2.vars.getD i 0⟩ d.2;generalize (⟨31,s.loops,r.2.state::(U.map fun i=>r.2.vars.getD i 0)++[d.1,d.2.state]++U.map fun i=>d.2.vars.getD i 0⟩:Nd)=N at *;have hq:(zkW N d.2).2.l[(zkW N d.2).1.toNat]?=some N:=IV _ _;have Y:∀y∈(zkW N d.2).2.l,y∈d.2.l\/y=N:=fun y hy=>tm.1 hy;have kn:(zkW N d.2).2.loops=d.2.loops:=rfl;generalize zkW N d.2=k at *;have hlv:eC (2*U.length+3:Nat)=((U.length+1:Nat):Int):=zG;have no31:∀y∈d.2.l,y.op=31->y.imm≠s.loops:=fun y hy e V=>by
  rcases I y hy e with Z|Z
  .have:=hP.l1 y Z e;omega
  .omega
 have kP:LP k.2:=by
  refine⟨fun y hy e=>?_,fun y hy z J M o e=>?_,fun y hy e=>?_,fun y hy z J M o e=>?_⟩
  .rcases Y y hy with hy|rfl
   .have:=dP.l1 y hy e;omega
   .omega
  .rcases Y y hy with hy|rfl
   .rcases Y z J with J|rfl
    .exact dP.l2 y hy z J M o e
    .exact absurd (e.trans him) (no31 y hy M)
   .rcases Y z J with J|rfl
    .exact absurd (e.symm.trans him) (no31 z J o)
    .rfl
  .rcases Y y hy with hy|rfl
   .have:=dP.l3 y hy e;omega
   .rw[hop]at e;cases e
  .rcases Y z J with J|rfl
   .rcases Y y hy with hy|rfl
    .exact dP.l4 y hy z J M o e
    .rw[hkl,hlv];rcases hd3 z J o with Z|Z|Z
     .have:=hP.l3 z Z o;rw[te ac]at e;omega
     .rw[Jh ac];omega
     .rw[te ac]at e;omega
   .rw[hop]at o;cases o
 have kD:Dl s k.2:=by
  refine⟨fun y hy=>?_,ac⟩;rcases Y y hy with hy|rfl
  .by_cases e:y.op=31
   .rcases I y hy e with Z|Z
    .exact .inl Z
    .exact .inr ⟨fun _=>ac,fun V=>by rw[e]at V;cases V⟩
   .by_cases e3:y.op=3
    .rcases hd3 y hy e3 with Z|Z|Z
     .exact .inl Z
     .exact .inr ⟨fun V=>absurd V e,fun _=>ac⟩
     .exact .inr ⟨fun V=>absurd V e,fun _=>ac⟩
    .exact .inr ⟨fun V=>absurd V e,fun V=>absurd V e3⟩
  .exact .inr ⟨fun _=>ac,fun V=>by rw[hop]at V;cases V⟩
 -- the nodes behind it
 have hlr:fO k.2.l ⟨25,0,[k.1]⟩=2:=by rw[DS (n:=0) g2.i hq ac (by rw[hkl,hlv];omega),am rfl]
 obtain⟨f1,f2,f3⟩:=sg g1 (n:=⟨25,0,[k.1]⟩) hlr aE (i4 _ _ aE fD ax aE aE aE aE) ax ax (AT g2.m);have lf:=zmh ⟨25,0,[k.1]⟩ {k.2 with vars:=r.2.vars,state:=r.2.state};have ef:zkW ⟨25,0,[k.1]⟩ {k.2 with vars:=r.2.vars}=((zkW ⟨25,0,[k.1]⟩ {k.2 with vars:=r.2.vars,state:=r.2.state}).1,{ (zkW ⟨25,0,[k.1]⟩ {k.2 with vars:=r.2.vars,state:=r.2.state}).2 with state:=k.2.state}):=rfl;rw[ef];generalize zkW ⟨25,0,[k.1]⟩ {k.2 with vars:=r.2.vars,state:=r.2.state}=f at *;have C:r.2.l<+:f.2.l:=(le1.l.trans lk.le.l).trans lf.le.l;obtain⟨zlH,m2,m3⟩:=x8 f1 (p2.le C) f2 (K.st.le C) (.inr rfl);have lm:=zm0 r.1 f.1 r.2.state f.2;simp only[zps];generalize zlr r.1 f.1 r.2.state f.2=m at *;have lkm:k.2.l<+:m.2.l:=lf.le.l.trans lm.le.l;have hqm:m.2.l[k.1.toNat]?=some N:=by
  obtain⟨z,J⟩:=lkm;rw[<-J,jG,hq];have:=g2.i.hi;have:=g2.i.lo;omega
 obtain⟨z1,z2⟩:=So (lp:=k.1) (k:=r.1) (old:=r.2.vars) U 1 {m.2 with state:=m.1} (zlH.setS m2) (g2.le lkm) hqm (p2.le (C.trans lm.le.l)) (fun y hy=>(K.v y hy).le (C.trans lm.le.l)) hwm (aB _) (by rw[hkl,hlv];omega) ac;have lz:=uE k.1 r.1 r.2.vars U 1 {m.2 with state:=m.1};have hzn:(gL k.1 r.1 r.2.vars U 1 {m.2 with state:=m.1}).loops=d.2.loops:=by
  rw[lz.2.2.2];show m.2.loops=_;rw[lm.n,lf.n];exact kn
 have qz:Ql k.2 (gL k.1 r.1 r.2.vars U 1 {m.2 with state:=m.1}):=(Ql.mk f3.q:Ql k.2 f.2).trans (m3.trans ⟨z2.q⟩);have hkz:k.2.loops<=(gL k.1 r.1 r.2.vars U 1 {m.2 with state:=m.1}).loops:=by rw[hzn,kn];exact aB _
 have hzb:(gL k.1 r.1 r.2.vars U 1 {m.2 with state:=m.1}).loops<=s.loops+zlG x:=by rw[hzn,ld.n];omega
 exact⟨_,rfl,z1,kP.ql qz hkz,hzb,kD.trans (qz.dl hkz)⟩
theorem ziP{c:Cx}(U:CxOkU c){np n:Nat}(IS:AY c np n)(IW:Jy c np n):Jx c np (n+1):=fun A x s hx hsz h hP hw=>by
 have hs:=x.sz_eq;have hw1:=zQ x;have hkd:=hx.kd;unfold ol;by_cases k1:x.kind=1
 .rw[am k1];obtain⟨r,hr,j,O,Z⟩:=sh U n x.value s (hx.value (.inl k1)) ac h;have Y:=zmp c n _ _ _ hr;have hn:=hx.name (.inl k1);have hvl:=j.i.vl;rw[hr,cn,am ac];exact⟨_,rfl,j.setV (fun y hy=>by
   rcases rv hy with hy|rfl
   .exact j.v y hy
   .exact O) (by rw[jd];exact hvl),(hP.ql Z (kF Y.n.symm)).setV _,by show r.2.loops<=_;rw[Y.n];omega,(Z.dl (kF Y.n.symm)).setV _⟩
 rw[af k1];by_cases k2:x.kind=2
 .rw[am k2];obtain⟨r,hr,j,O,Z⟩:=sh U n x.at_ s (hx.at_ k2) ac h
  obtain⟨v,hv,q1,q2,q3⟩:=sh U n x.value r.2 (hx.value (.inr (.inl k2))) ac j;have Y:=zmp c n _ _ _ hr;have lv:=zmp c n _ _ _ hv;have hlt:=hx.arr k2;rw[hr,cn,hv,cn,aT hlt,cn];have ha:=U.a _ (cR hlt);generalize c.arrays[cP (c.arrays.map (·.name)) x.name]=ar at ha⊢;have p2':=O.le lv.le.l;obtain⟨K,a2⟩:=Sh q1 (n:=ar.len) fD p2';have zlB:=tq ar.len r.1 v.2;obtain⟨M,C,I⟩:=zBK U K (p2'.le zlB.le.l) (q2.le zlB.le.l) hlt;have V:=Z.trans (q3.trans (a2.trans I));have J:(hZ ar.len r.1 v.2).loops=s.loops:=by rw[zlB.n,lv.n,Y.n]
  exact⟨_,rfl,M.setS C,(hP.ql V RY).setS _,by show(hZ ar.len r.1 v.2).loops<=_;omega,(V.dl RY).setS _⟩
 rw[af k2];by_cases k3:x.kind=3
 .rw[am k3];rw[af ac]at hw1;obtain⟨r,hr,j,O,Z⟩:=sh U n x.value s (hx.value (.inr (.inr (.inl k3)))) ac h;have Y:=zmp c n _ _ _ hr;have hrn:=Y.n;have rP:=hP.ql Z (kF hrn.symm);obtain⟨a,ha,K,aP,a2,a3⟩:=IS A x.thn r.2 hx.subs.1 ac j rP ac;have la:=(nA c n).2.1 _ _ _ ha;have hal:a.vars.length=c.names.length:=K.i.vl;obtain⟨b,hb,M,bP,C,I⟩:=IS A x.els {a with state:=r.2.state,vars:=r.2.vars} hx.subs.2 ac ((K.setS (j.st.le la.1.l)).setV (fun y hy=>(j.v y hy).le la.1.l) j.i.vl) ⟨aP.l1,aP.l2,aP.l3,aP.l4⟩ (by show a.loops+_<=_;omega);have lb:=(nA c n).2.1 _ _ _ hb;have lab:a.l<+:b.l:=lb.1.l;have kb:IsM A b.l 1 r.1:=(O.le la.1.l).le lab;have hbl:=M.i.vl;obtain⟨m,hm,zlH,m2⟩:=Sl (k:=r.1) (a:=a.vars) b.vars.length 0 b M kb (fun y hy=>(K.v y hy).le lab) hal ac;have lm:=wo _ _ _ _ _ _ hm;rw[hr,cn,ha,cn,hb,cn,hm,cn];obtain⟨t1,t2,t3⟩:=x8 zlH (kb.le lm.1.l) ((K.st.le lab).le lm.1.l) zlH.st (.inr rfl);have lt:=zm0 r.1 a.state m.state m;have hbn:(zlr r.1 a.state m.state m).2.loops=b.loops:=by rw[lt.n,lm.2.2.2]
  have V:=m2.trans t3;have b2':b.loops<=a.loops+zl3 x.els:=C;have dab:Dl a b:=⟨I.d,I.n⟩;exact⟨_,rfl,t1.setS t2,(bP.ql V (kF hbn.symm)).setS _,by show(zlr r.1 a.state m.state m).2.loops<=_;omega,((Z.dl (kF hrn.symm)).trans (a3.trans (dab.trans (V.dl (kF hbn.symm))))).setS _⟩
 rw[af k3];by_cases k4:x.kind=4
 .rw[am k4];exact IW A x s hx k4 ac h hP hw
 rw[af k4];by_cases k5:x.kind=5
 .rw[am k5];obtain⟨r,hr,j,O,Z⟩:=sh U n x.value s (hx.value (.inr (.inr (.inr (.inr k5))))) ac h;have Y:=zmp c n _ _ _ hr;have hrn:=Y.n;rw[hr,cn];obtain⟨M,C,I⟩:=ziI j O;have V:=Z.trans I;exact⟨_,rfl,M.setS C,(hP.ql V (by show s.loops<=r.2.loops;omega)).setS _,by show r.2.loops<=_;omega,(V.dl (by show s.loops<=r.2.loops;omega)).setS _⟩
 rw[af k5];by_cases k6:x.kind=6
 .rw[am k6];obtain⟨r,hr,j,O,Z⟩:=Sk U (n:=n) x.args s hx.args ac h;obtain⟨Y,hlr⟩:=tt c n _ _ _ hr;obtain⟨c1,c2⟩:=hx.call k6;obtain⟨i,hi,hfe⟩:=Du c.funcs x.to 0 c1;obtain⟨f,hfn⟩:=og c.funcs hi;have o:zl2 c.funcs x.to 0=(i:Int):=by simpa using hfe
  have hn:=hx.name (.inr k6);have hvl:=j.i.vl;have hpar:r.1.length=f.params.length:=by
   rw[hlr,c2,pe,o,ja,hfn];rfl
  rw[hr,cn,am ⟨c1,ac⟩];simp only[];rw[o];obtain⟨M,C,I⟩:=ziK U j O hfn hpar;have lb:=zmh ⟨30,i,r.2.state::r.1⟩ r.2;generalize zkW ⟨30,i,r.2.state::r.1⟩ r.2=z at *;obtain⟨d1,d2,d3⟩:=ziJ (M.setS C) C;have ld:=zmh ⟨24,0,[z.1]⟩ {z.2 with state:=z.1};generalize zkW ⟨24,0,[z.1]⟩ {z.2 with state:=z.1}=w at *;have V:Ql s w.2:=Z.trans (I.trans d3.ofS);have J:w.2.loops=s.loops:=by rw[ld.n];show z.2.loops=_;rw[lb.n,Y.n]
  refine⟨_,rfl,d1.setV (fun y hy=>?_) (by rw[jd];exact d1.i.vl),(hP.ql V (kF J.symm)).setV _,by show w.2.loops<=_;omega,(V.dl (kF J.symm)).setV _⟩;rcases rv hy with hy|rfl
  .exact d1.v y hy
  .exact d2
 rw[af k6];by_cases k7:x.kind=7
 .rw[am k7];have ht:=hx.trap k7;have hw:bE (16+x.n)=16+x.n:=znj ac ac;rw[hw];obtain⟨K,a2,a3⟩:=AW h (n:=0) fD;obtain⟨M,C⟩:=Jw K (t:=16+x.n) a2 ac ac;have lb:=tp (16+x.n) (zkW ⟨1,0,[]⟩ s).1 (zkW ⟨1,0,[]⟩ s).2;have J:(pm (16+x.n) (zkW ⟨1,0,[]⟩ s).1 (zkW ⟨1,0,[]⟩ s).2).loops=s.loops:=lb.n;have V:=a3.trans C;exact⟨_,rfl,M,hP.ql V (kF J.symm),ac,V.dl (kF J.symm)⟩
 .omega
theorem ziQ{c:Cx}{np n:Nat}(m:Jx c np n)(C:AY c np n):AY c np (n+1):=fun A l s M O h J Z=>by
 cases l with
 |nil=>exact⟨s,by unfold gE;rfl,h,J,ac,Dl.refl s⟩
 |cons x l=>
  obtain⟨hx,M⟩:=M.cons;rw[zld]at O;rw[zl3]at Z⊢;unfold gE;simp only[];obtain⟨r,hr,j,Y,I,z⟩:=m A x s hx ac h J ac;obtain⟨t,V,K,o,q2,U⟩:=C A l r M ac j Y ac;rw[hr,cn,V];exact⟨t,rfl,K,o,ac,z.trans U⟩
theorem Sp{c:Cx}(z:CxOkU c){np:Nat}:∀n:Nat,Jx c np n/\AY c np n/\Jy c np n
 |0=>⟨fun A x s _ h=>ac,fun A l s _ h=>ac,fun A x s hx _ h=>by have:=x.sz_eq;omega⟩
 |n+1=>by
  obtain⟨a,b,d⟩:=Sp z (np:=np) n;exact⟨ziP z b d,ziQ a b,ziO z b⟩
section
variable {A:List Ar} {F:List Fu} {np:Nat} {B:Nat -> Prop}
theorem LG.names{N z:List zly}{s:Bd}(h:LG ⟨A,F,N⟩ np B s)(M:z.length=N.length):LG ⟨A,F,z⟩ np B s:=⟨h.i.names M,h.v,h.st⟩
theorem LG.push{N z:List zly}{s:Bd}(h:LG ⟨A,F,N⟩ np B s){x:Int}(o:IsM B s.l 1 x)(M:z.length=N.length+1):LG ⟨A,F,z⟩ np B {s with vars:=s.vars++[x] }:=
 ⟨h.i.push o.i M,fun y hy=>by
  rcases mX.1 hy with hy|hy
  .exact h.v y hy
  .simp only[jp]at hy;subst hy;exact o,h.st⟩
theorem Sq(V:np<=6):∀(m k:Nat) (s:Bd) (N z:List zly),LG ⟨A,F,N⟩ np B s->z.length=N.length+m->k+m<=np->LG ⟨A,F,z⟩ np B (jC m k s)/\Ql s (jC m k s)
 |0,k,s,N,z,h,hl,_=>⟨h.names hl,wC s⟩
 |m+1,k,s,N,z,h,hl,hk=>by
  have U:fO s.l ⟨2,k,[]⟩=1:=PF ac ac;obtain⟨J,Z,j⟩:=sg h (n:=⟨2,k,[]⟩) U aE ⟨by show 0<=(2:Int)/\(2:Int)<256;decide,AG,by show 0<=40;decide,fun _=>by show(k:Int)<np;omega,fun e=>by rcases e with e|e<;>exact absurd e (by show ¬(2:Int)=_;decide),fun e=>absurd e (by show ¬(2:Int)=30;decide)⟩ ax ax ax;obtain⟨M,C⟩:=Sq V m (k+1) { (zkW ⟨2,k,[]⟩ s).2 with vars:=(zkW ⟨2,k,[]⟩ s).2.vars++[(zkW ⟨2,k,[]⟩ s).1] } ([]::N) z (J.push Z rfl) Es ac;exact⟨M,j.trans ⟨C.q⟩⟩
theorem Sr:∀(m:Nat) (s:Bd) (N z:List zly),LG ⟨A,F,N⟩ np B s->z.length=N.length+m->LG ⟨A,F,z⟩ np B (mo m s)/\Ql s (mo m s)
 |0,s,N,z,h,hl=>⟨h.names hl,wC s⟩
 |m+1,s,N,z,h,hl=>by
  obtain⟨J,V,j⟩:=AW h (n:=0) fD;obtain⟨M,C⟩:=Sr m { (zkW ⟨1,0,[]⟩ s).2 with vars:=(zkW ⟨1,0,[]⟩ s).2.vars++[(zkW ⟨1,0,[]⟩ s).1] } ([]::N) z (J.push V rfl) Es;exact⟨M,j.trans ⟨C.q⟩⟩
theorem zBL:LG ⟨A,F,[]⟩ np B { (zkW ⟨26,0,[]⟩ ⟨[],[],0,0⟩).2 with state:=(zkW ⟨26,0,[]⟩ ⟨[],[],0,0⟩).1}:=by
 have h:=Ju (A:=A) (F:=F) (np:=np);refine⟨h,(fun y hy=>by cases hy),h.st,?_⟩;exact AS (l:=[]) (n:=⟨26,0,[]⟩) (fun i I=>by simp at I) (by rw[PG];decide) ax ax
end
theorem zBM{p:Pr}(h:PrIn p){f:Fu}(K:f∈p.funcs)(B:Nat->Prop):LG (ll p f) f.params.length B (kK f)/\LP (kK f)/\(kK f).loops=0:=by
 obtain⟨_,_,_,Y⟩:=h.lim;obtain⟨l1,l2,l3⟩:=Y f K;have z:=zBL (A:=p.arrays) (F:=p.funcs) (np:=f.params.length) (B:=B);obtain⟨J,Z⟩:=Sq l1 f.params.length 0 _ [] f.params z ax ac;obtain⟨M,C⟩:=Sr f.locals.length _ f.params (f.params++f.locals) J Jr;have I:=Ju (A:=p.arrays) (F:=p.funcs) (np:=f.params.length);obtain⟨j,o,_⟩:=Js l1 f.params.length 0 _ [] f.params I ax ac;obtain⟨_,U,_⟩:=Jt f.locals.length _ f.params (f.params++f.locals) j Jr;have V:∀x∈(kK f).l,x.op≠3/\x.op≠31:=fun x hx=>by
  rcases(Z.trans C).q x hx with m|m
  .rcases(tm (l:=[]) (n:=⟨26,0,[]⟩)).1 m with O|rfl
   .cases O
   .exact⟨ax,ax⟩
  .exact m
 exact⟨M,⟨fun x hx e=>absurd e (V x hx).2,fun x hx y hy e=>absurd e (V x hx).2,fun x hx e=>absurd e (V x hx).1,fun x hx y hy e=>absurd e (V x hx).2⟩,U.trans o⟩
theorem Ss{p:Pr}(h:PrIn p){n:Nat}(hn:2*p.sz<n){f:Fu}(K:f∈p.funcs):
 ∃s v,gE (ll p f) n f.body (kK f)=some s/\fu (ll p f) n f.value s=some v/\LG (ll p f) f.params.length (fun _=>False) v.2/\IsM (fun _=>False) v.2.l 1 v.1/\LP v.2/\v.2.loops<=zl3 f.body:=by
 obtain⟨_,_,_,Y⟩:=h.lim;obtain⟨l1,l2,l3⟩:=Y f K;obtain⟨C,Z⟩:=h.body K;have hc:=h.cx K;have m:=pV K;have hpz:p.sz=1+zmL p.arrays+zmv p.funcs:=rfl;have hfs:f.sz=1+f.name.length+zmd f.params+zmd f.locals+zld f.body+f.value.sz:=rfl;obtain⟨j,I,g3⟩:=zBM h K fun _=>False
 obtain⟨s,V,o,U,q3,q4⟩:=(Sp hc (np:=f.params.length) n).2.1 _ f.body (kK f) C ac j I ac;obtain⟨v,M,O,J,z⟩:=sh hc n f.value s Z ac o;have lv:=zmp _ n _ _ _ M;exact⟨s,v,V,M,O,J,U.ql z (kF lv.n.symm),by rw[lv.n];omega⟩
theorem Jz:∀(l:List Nd) (t:List Int),l.Nodup->(∀x∈l,x.op=31->0<=x.imm/\x.imm<16)->(∀x∈l,∀y∈l,x.op=31->y.op=31->x.imm=y.imm->x=y)->(∀x∈l,x.op=31->t.getD x.imm.toNat 0<=0)->t.length=16 ->
 ∃m,qc l t=some m/\∀k:Nat,0<m.getD k 0->(m.getD k 0=t.getD k 0)\/∃x∈l,x.op=31/\x.imm=k/\m.getD k 0=eC x.kids.length
 |[],t,_,_,_,_,_=>⟨t,rfl,fun k _=>.inl rfl⟩
 |n::l,t,hnd,h0,h1,h2,hl=>by
  rw[Dv]at hnd;have o:=fun x hx=>h0 x (el n hx);have Z:∀x∈l,∀y∈l,x.op=31->y.op=31->x.imm=y.imm->x=y:=fun x hx y hy=>h1 x (el n hx) y (el n hy);rw[qc];by_cases c:n.op=31
  .have J:=h2 n ee c;have hr:=h0 n ee c;rw[am c,af ac];have M:∀k:Nat,(t.set n.imm.toNat (eC n.kids.length)).getD k 0=if n.imm.toNat=k then eC n.kids.length else t.getD k 0:=fun k=>by
    rw[dx,oJ,dx];split
    .rw[am ac];rfl
    .rfl
   obtain⟨m,e,j⟩:=Jz l (t.set n.imm.toNat (eC n.kids.length)) hnd.2 o Z (fun x hx e=>by
    have V:=o x hx e;rw[M,af (fun q=>hnd.1 (by rw[h1 n ee x (el n hx) c e ac];exact hx))];exact h2 x (el n hx) e) (by rw[jd];exact hl)
   refine⟨m,e,fun k Y=>?_⟩;rcases j k Y with z|⟨x,hx,z⟩
   .rw[M]at z;split at z
    .exact .inr ⟨n,ee,c,ac,z⟩
    .exact .inl z
   .exact .inr ⟨x,el n hx,z⟩
  .rw[af c];obtain⟨m,e,j⟩:=Jz l t hnd.2 o Z (fun x hx=>h2 x (el n hx)) hl;refine⟨m,e,fun k Y=>?_⟩;rcases j k Y with z|⟨x,hx,z⟩
   .exact .inl z
   .exact .inr ⟨x,el n hx,z⟩
theorem zlz{s:Bd}(J:LP s)(Z:s.l.Nodup)(M:s.loops<=16):znS s.l=true:=by
 have Y:∀k:Nat,(List.replicate 16 (0:Int)).getD k 0=0:=fun k=>by
  rw[dx,xr];split<;>rfl
 obtain⟨t,e,V⟩:=Jz s.l (List.replicate 16 0) Z (fun x hx e=>by have:=J.l1 x hx e;omega) J.l2 (fun x hx e=>by rw[Y];exact Int.le_refl _) rfl;unfold znS;rw[e];simp only;rw[iP];intro y hy;unfold qd;by_cases c:y.op=3
 .have z:=J.l3 y hy c;by_cases j:0<t.getD (y.imm.tdiv 16).toNat 0
  .rcases V _ j with U|⟨x,hx,ex,O,C⟩
   .rw[U,Y]at j;omega
   .have:=J.l4 x hx y hy ex c (by rw[O];have:=Int.tdiv_nonneg z.1 (show(0:Int)<=16 by omega);omega);rw[C];rw[iH (show ¬eC x.kids.length<=y.imm.tmod 16 by omega),uo];rfl
  .rw[iH j,uo,gy];rfl
 .rw[iH c,gy,gy];rfl
theorem zng.zero{l:List Nd}{k:Int}(h:zng l (fun _=>False) k):zna l k=0:=
 Nat.eq_of_testBit_eq fun t=>by
  rw[Nat.zero_testBit];cases e:(zna l k).testBit t with
  |false=>rfl
  |true=>exact(h t e).elim
theorem JA(p:Pr):(fc p).any (p8 90)=false:=rfl
theorem ziU{l:List En}(Z:∀M,zme l 44 M=(nW AM).sp M)(I:jb l 44=true){S:Nat->Prop}{n:Nat}{H:Hp}{cs:List AV}{p:Pr}(Y:n<59)(z:zlJ S n H cs p.cells)(J:p.sz<2^36):
 zk5 Tryz.prog (zkY pls l) 44 [.agg cs] H fun v H'=>v=.int .i64 (zmw p)/\Icy S H H':=by
 obtain⟨us,m,j⟩:=z;refine xG (x:=p) (enc:=fc) (ok:=fun p=>p.sz<2^36) (out:=fun p=>.int .i64 (zmw p)) (us:=[.agg us]) (n:=n+1) pd (fun M=>by rw[Z];rfl) I JA J ac ⟨⟨us,m,rfl⟩,trivial⟩ ?_;show [AV.agg (us.map (bX 59))]=_;rw[j 59 ac];rfl
def tyV7.tyF:=ad @ec (ad @cJ (ad @dd (ad @kW (ad @gY (ad @xd (ad @xe (ad @vC (ad @iQ (ad @fI (ad @ue (ad @fx (ad @em (ad @en (ad @zms (ad @iR (@jw))))))))))))))))
open tyV7
noncomputable def Su:{c:SC // aC 43 (Tryz.f23.body.getD .skip)=c}:=by
 refine⟨?_,?_⟩;rotate_left
 .simp only[Tryz.f23,bI,aC,zll,zle,zlp,zln,Nat.blt,Nat.ble];rfl
def jr(g:Gr):Fu:=⟨g.name,[],[],[],.mk 1 0 [] 0 []⟩
def mp(u:Un):Pr:=⟨u.arrays,u.funcs.map jr⟩
def px(u:Un):Bool:=decide (zmw (mp u)=0)&&u.funcs.all (lj u)
structure UnOk (u:Un):Prop where
 a:u.arrays.length<2^30
 f:u.funcs.length<2^30
 g:∀g∈u.funcs,oZ g.nodes
 z:(mp u).sz<2^36
noncomputable def Sv:En:=⟨45,false,b7 IM wi fun x=>.bool (lj x.u x.g)⟩
theorem zBN(ρ:Nat->Int):zl0 Tryz.prog ρ Sv:=zl7 fun x hx=>zkL ρ x hx
noncomputable def AZ:List En:=[nW AM,Sv]
theorem zBO(ρ:Nat->Int):fK Tryz.prog ρ AZ:=⟨xw (RF ρ),zBN ρ,trivial⟩
theorem ziX(s:List UInt8):zma Tryz.prog 65 [(0,.str s),(4,.agg [.int .i64 1,.int .i64 0,.str [],.int .i64 0,.nilS])]=some (.agg [.str s,.nilS,.nilS,.nilS,.int .i64 1,.int .i64 0,.str [],.int .i64 0,.nilS]):=aj
theorem ziY:zma Tryz.prog 63 [(0,.int .i64 1)]=some (.agg [.int .i64 1,.int .i64 0,.str [],.int .i64 0,.nilS]):=aj
theorem ziZ(a:AV)(xs:List (List AV))(h:a=.lst xs):zma Tryz.prog 49 [(0,a)]=some (.agg [a,.nilS]):=by subst h;kernel_rfl
theorem zi0(H:Hp)(s:List UInt8):zmb Tryz.prog H 47 1 [(0,.agg [.str s,.nilS,.nilS,.nilS,.int .i64 1,.int .i64 0,.str [],.int .i64 0,.nilS])]=some (.sl H.next 0 1 9,H.alloc (.cells [.str s,.nilS,.nilS,.nilS,.int .i64 1,.int .i64 0,.str [],.int .i64 0,.nilS] 0 true)):=aj
theorem zBP{S:Nat->Prop}{H:Hp}(g:Gr):zlJ S 2 H [.str g.name,.nilS,.nilS,.nilS,.int .i64 1,.int .i64 0,.str [],.int .i64 0,.nilS] (jr g).cells:=
 .cons (.str _) (.cons .nilS (.cons .nilS (.cons .nilS (.cons (.int _ _) (.cons (.int _ _) (.cons (.str _) (.cons (.int _ _) (.cons .nilS .nil))))))))
set_option maxRecDepth 100000 in
theorem zrj(ρ:Nat->Int)(u:Un)(hu:UnOk u):bM Tryz.prog ρ 23 [.agg u.cells] (.bool (px u)):=zmy fit (pls:=pls) (zBO ρ) (.cons (.agg (Un.pure _)) .nil) (.bool _) (by
 obtain⟨ha,hf,hg,hz⟩:=hu;have hw:Plain (zkY pls AZ) 23:=zml (fun _=>rfl) rfl;have hkeep:(zkY pls AZ).keep 23=false:=rfl;have bP:=ziZ (.lst (u.arrays.map Ar.cells)) _ rfl;refine zlf (M:=43) (rs:=[.tmp 2]) (hw.call _) hw.ice hw.froz Tryz.func23 rfl rfl Su.2 rfl ?_;dsimp only[Su,zD,Nat.reduceAdd];repeat' (first
  |(apply ah ?_;clear hK K)|apply Rx.o ?_|apply bS ?_|apply ak ?_|(apply zkU fun K hK=>?_)|apply aG ?_|fail)
 refine zlL [1,2,3,12,13] [0] 14 u.funcs.length (fun i E Y=>∃I,Y.get 1=some (.cells [.lst (u.arrays.map Ar.cells),I] 0 true)/\zmf (fun k=>2<=k) 2 Y 9 I (((u.funcs.map jr).take i).map Fu.cells)) eE ⟨.nilS,Ai,.inl ⟨rfl,rfl⟩⟩ ?_;rintro i E Y hi hcE hrH O hsI ⟨I,g1,rf⟩;(try simp only[zlm,zlb,aR,zk1,zk7,Nat.reduceBEq, *]at hcE);(try simp only[zlm,zlb,aR,zk1,zk7,Nat.reduceBEq, *]at hrH);(try simp only[zk9,zli,zlI,bL,Nat.reduceAdd]at O);have hB0:(0 == Y.next)=false:=zkV ac;have hC0:(Y.next == 0)=false:=zkV ac;have ni:2<=Y.next:=O
 obtain⟨hf1,hf2⟩:=rf.one;by_cases hlt:i<u.funcs.length
 .have hlt':(i:Int)<u.funcs.length:=by omega
  have hgx:u.funcs[i]?=some u.funcs[i]:=aT hlt;have htk:((u.funcs.map jr).take (i+1)).map Fu.cells=((u.funcs.map jr).take i).map Fu.cells++[(jr u.funcs[i]).cells]:=by
   rw[oI,eS,hgx,l0];rfl
  have J:(((u.funcs.map jr).take i).map Fu.cells).length=i:=by rw[cp,j6,cp];omega
  generalize u.funcs[i]=g at *;have g1a:∀b c,((Y.alloc b).set Y.next c).get 1=some (.cells [.lst (u.arrays.map Ar.cells),I] 0 true):=fun b c=>by rw[aJ,af ac,zkZ,af ac];exact g1
  generalize hcells:((u.funcs.map jr).take i).map Fu.cells=fs at *;have gh0:=@ziY;have gh1:=@ziX;have gh2:=@zi0;repeat' (first
   |(apply ah ?_;clear hK K)|apply Ry.o ?_|apply dG ?_|(apply bb (fun C Z=>?_) (fun C Z=>?_)<;>try(cases C;done))|apply ak ?_|(apply zkU fun K hK=>?_)|apply aG ?_|apply zk3 ?_|fail)
  generalize V:Hp.alloc (Hp.set (Y.alloc _) _ _) _=Hb;have nb:Hb.next=Y.next+2:=wq
  have U:∀k,k<Y.next->Hb.get k=Y.get k:=fun k z=>by rw[<-V,zkZ,af mM,aJ,af ac,zkZ,af ac]
  have gr:Hb.get (Y.next+1)=some (.cells [.str g.name,.nilS,.nilS,.nilS,.int .i64 1,.int .i64 0,.str [],.int .i64 0,.nilS] 0 true):=by rw[<-V,zkZ,am dT]
  clear V;have hfq:∀k,k<=1->∀o m z',I≠.sl k o m z':=fun k z o m z' e=>by
   rcases rf with⟨h1,_⟩|⟨q,im,rows,h1,h2,h3,_⟩
   .rw[h1]at e;cases e
   .rw[h1]at e;simp only[AV.sl.injEq]at e;omega
  obtain⟨H7,a7,r7,n7,q7⟩:=I0 (P:=Tryz.prog) (t:=47) Tryz.underlying47 Cw GK GL rfl aj (S':=fun k=>2<=k)
   (rf.keep (S':=fun k=>2<=k) (H':=Hb) (fun _ _ h=>h) ac fun k _ z=>U k z) (fun _ _ h=>h) ac (r:=Y.next+1) (imm:=0) (row:=[.str g.name,.nilS,.nilS,.nilS,.int .i64 1,.int .i64 0,.str [],.int .i64 0,.nilS]) (w:=(jr g).cells) gr rfl rfl (zBP g)
   RZ RZ
  rw[J]at a7 r7;have g17:H7.get 1=some (.cells [.lst (u.arrays.map Ar.cells),I] 0 true):=by rw[q7 1 ac (hfq 1 ac),U 1 ac];exact g1
  have g07:H7.get 0=Y.get 0:=by rw[q7 0 ac (hfq 0 ac),U 0 ac]
  have n7':Y.next<=H7.next:=ac
  clear U gr q7 hfq nb;repeat' (first
   |(apply ah ?_;clear hK K)|apply Rx.o ?_|apply bS ?_|(apply zkU fun K hK=>?_)|fail)
  refine⟨ac,zk8,zk8,zlF,Sa,?_⟩;refine⟨.sl Hb.next 0 (i+1) 9,Ai,?_⟩;rw[htk];exact r7.keep (fun _ _ h=>h) (aB _) fun k z _=>kE
 .have hlt':¬(i:Int)<u.funcs.length:=by omega
  have hti:(u.funcs.map jr).take i=u.funcs.map jr:=gl (by rw[cp];omega);rw[hti]at rf;have hcw:zlJ (fun k=>2<=k) 3 Y [.lst (u.arrays.map Ar.cells),I] (mp u).cells:=.cons (.flat ⟨.map fun x _=>x.pure,trivial⟩ fun m=>zAO (f:=Ar.cells) Ar.wk u.arrays m) (.cons rf.rd .nil);have ag:zlT 2 [.lst (u.arrays.map Ar.cells),I]=some (.agg [.lst (u.arrays.map Ar.cells),I]):=rfl;repeat' (first
   |(apply ah ?_;clear hK K)|apply Ry.o ?_|(apply bb (fun C Z=>?_) (fun C Z=>?_)<;>try(cases C;done))|apply ak ?_|(apply zkU fun K hK=>?_)|apply zlu ?_)
  refine aZ rfl bc bi ?_;simp only[bj];refine aS ?_ (ziU (l:=AZ) (fun _=>rfl) rfl ac hcw hz);rintro v H4 ⟨rfl,hy⟩;have g04:H4.get 0=Y.get 0:=hy.out 0 ac;have n4:=hy.next
  clear hcw g1 rf;dsimp only[zk6];by_cases hc:zmw (mp u)=0
  .have hU:px u=u.funcs.all (lj u):=by rw[px,hc];rfl
   repeat' (first
    |(apply ah ?_;clear hK K)|apply Ry.o ?_|(apply bb (fun C Z=>?_) (fun C Z=>?_)<;>try(cases C;done))|apply ak ?_|(apply zkU fun K hK=>?_)|apply aG ?_|apply zk3 ?_|fail)
   refine zlL [1,32,33] [0] 34 u.funcs.length (fun j E Hj=>∀k,k<j->∀g,u.funcs[k]?=some g->lj u g=true) eE (fun k z=>ac) ?_;rintro j E3 Hj hj hcE hrH O hsI hJ;(try simp only[zlm,zlb,aR,zk1,zk7,Nat.reduceBEq, *]at hcE);(try simp only[zlm,zlb,aR, *]at hrH);(try simp only[zk9,zli,zlI,bL,Nat.reduceAdd]at O);have hB0:(0 == Hj.next)=false:=zkV ac;have hC0:(Hj.next == 0)=false:=zkV ac;by_cases hlt3:j<u.funcs.length
   .have hlt3':(j:Int)<u.funcs.length:=by omega
    have hgx:u.funcs[j]?=some u.funcs[j]:=aT hlt3;have hmem:=cR hlt3;have hgk:=hg _ hmem;generalize u.funcs[j]=g at *;have kv:∀H,zk5 Tryz.prog (zkY pls AZ) 45 [.agg u.cells,.agg g.cells] H fun v H'=>v=.bool (lj u g)/\H'=H:=fun H=>zlM (enc:=wi) (ok:=IM) (out:=fun x=>.bool (lj x.u x.g)) zAM (x:=⟨u,g⟩) rfl ⟨hgk,ha,hf⟩;by_cases hv:lj u g=true
    .repeat' (first
      |(apply ah ?_;clear hK K)|apply Ry.o ?_|apply dG ?_|(apply d7 ?_;first|refine zlc (kv _) ?_)|(apply bb (fun C Z=>?_) (fun C Z=>?_)<;>try(cases C;done))|apply ak ?_|(apply zkU fun K hK=>?_)|apply aG ?_|apply zk3 ?_|fail)
     refine⟨ac,zk8,zk8,zlF,Sa,?_⟩;intro k z g' hg';by_cases e:k=j
     .subst e;rw[hgx]at hg';cases hg';exact hv
     .exact hJ k ac g' hg'
    .have hv':lj u g=false:=by simpa using hv
     have hR:u.funcs.all (lj u)=false:=by
      rw[List.all_eq_false];exact⟨g,hmem,hv⟩
     rw[hR]at hU;clear hJ hR;repeat' (first
      |(apply ah ?_;clear hK K)|apply Ry.o ?_|apply dG ?_|(apply d7 ?_;first|refine zlc (kv _) ?_)|(apply bb (fun C Z=>?_) (fun C Z=>?_)<;>try(cases C;done))|apply ak ?_|(apply zkU fun K hK=>?_)|apply aG ?_|apply zk3 ?_|apply aF ?_|fail)
     all_goals (refine⟨eI,_,eR,?_⟩;try simp only[zkX])
     rw[hU]
   .have hlt3':¬(j:Int)<u.funcs.length:=by omega
    have hR:u.funcs.all (lj u)=true:=iP.2 fun g hm=>by
     obtain⟨k,z,e⟩:=yM hm;exact hJ k ac g (by rw[aT z,e])
    rw[hR]at hU;clear hJ hR;repeat' (first
     |(apply ah ?_;clear hK K)|apply Ry.o ?_|(apply bb (fun C Z=>?_) (fun C Z=>?_)<;>try(cases C;done))|apply ak ?_|(apply zkU fun K hK=>?_)|apply aF ?_|apply zlu ?_)
    all_goals (refine⟨eI,_,eR,?_⟩;try simp only[zkX])
    rw[hU]
  .have hU:px u=false:=by rw[px,iH hc];rfl
   repeat' (first
    |(apply ah ?_;clear hK K)|apply Ry.o ?_|(apply bb (fun C Z=>?_) (fun C Z=>?_)<;>try(cases C;done))|apply ak ?_|(apply zkU fun K hK=>?_)|apply aF ?_|fail)
   all_goals (refine⟨eI,_,eR,?_⟩;try simp only[zkX])
   rw[hU])
noncomputable def Sw:En:=⟨23,true,b7 UnOk (fun u=>[.agg u.cells]) fun u=>.bool (px u)⟩
theorem zBQ(ρ:Nat->Int):zl0 Tryz.prog ρ Sw:=zl7 fun u J=>zrj ρ u J
end
section
theorem Sy:∀(l:List Nd) (seen:List (List UInt8)),l.Nodup->(∀x∈l,NdR x)->(∀x∈l,zlo seen (jj x)=false)->zlP seen (l.map jj)=false
 |[],_,_,_,_=>rfl
 |a::l,seen,hnd,hr,hs=>by
  rw[Dv]at hnd;rw[dM,zlP,hs a ee,gm];refine Sy l _ hnd.2 (fun x hx=>hr x (el _ hx)) fun x hx=>?_;have e:zlo (seen++[jj a]) (jj x)=(zlo seen (jj x)||zlo [jj a] (jj x)):=by unfold zlo;rw[List.any_append]
  rw[e,hs x (el _ hx),gm];have U:zlo [jj a] (jj x)=decide (jj a=jj x):=by simp[zlo]
  rw[U,lJ];exact fun z=>hnd.1 (by rw[Pt (hr a ee) (hr x (el _ hx)) z];exact hx)
theorem zBR{l:List Nd}(Z:l.Nodup)(hr:∀x∈l,NdR x):rk l=true:=by
 unfold rk;rw[Sy l [] Z hr fun x _=>rfl];rfl
theorem zi5{p:Pr}(h:PrIn p)(hz:p.sz<2^30){n:Nat}(hn:2*p.sz<n){f:Fu}(C:f∈p.funcs){g:Gr}(K:rp p n f=some g)(J:g.nodes.length<=2000){u:Un}(ha:u.arrays.length=p.arrays.length)(z:u.funcs.map Gr.params=p.funcs.map fun f=>(f.params.length:Int)):lj u g=true:=by
 obtain⟨_,_,_,h4⟩:=h.lim;obtain⟨l1,l2,l3⟩:=h4 f C;obtain⟨s,v,e1,e2,j,V,gP,gn⟩:=Ss h hn C;have U:g=⟨f.name,f.params.length,v.2.l,v.1,v.2.state⟩:=by
  unfold rp at K;rw[e1,cn,e2,cn]at K;exact(Option.some.inj K).symm
 subst U;simp only at J;have Y:=j.i.fin ac ac;have ok:((List.range v.2.l.length).all (qk u ⟨f.name,f.params.length,v.2.l,v.1,v.2.state⟩))=true:=by
  rw[iP];intro i I;rw[lZ]at I;have hx:v.2.l[i]?=some v.2.l[i]:=aT I;have hm:v.2.l[i]∈v.2.l:=cR I;have hw:=j.i.wf i I;have hp:=j.i.p _ hm;unfold qk;simp only;rw[hx];simp only;rw[fY hw,fq];generalize v.2.l[i]=x at hp;unfold o0;by_cases O:x.op=2
  .rw[am O,fY (hp.pa O)]
  rw[af O];by_cases o:x.op=23\/x.op=28
  .rw[am o,ha];exact fY (hp.ar o)
  rw[af o];by_cases M:x.op=30
  .obtain⟨q1,fn,q2,q3⟩:=hp.fn M;have Z:p.funcs[x.imm.toNat]?=some fn:=q2;have hlt:x.imm.toNat<p.funcs.length:=by
    by_cases q:x.imm.toNat<p.funcs.length
    .exact q
    .rw[lD ac]at Z;cases Z
   have m:u.funcs.length=p.funcs.length:=by have:=jm List.length z;simpa using this
   rw[am M,m,fY (show x.imm<(p.funcs.length:Int) by omega),fq,z,dx,eS,Z];simp only[oH,bI,jJ];omega
  .rw[af M]
 unfold lj;simp only;rw[ok,zBR j.i.nd Y.r,zlz gP j.i.nd ac,V.m.zero,j.st.m.zero,V.i.s,j.st.i.s];have b1:=V.i.lo;have b2:=V.i.hi;have b3:=j.st.i.lo;have b4:=j.st.i.hi;simp only[jJ,co,j0,kZ];refine⟨⟨⟨ac,ac⟩,ac⟩,⟨⟨b1,b2⟩,b3⟩,b4⟩
theorem Sz{p:Pr}{n:Nat}:∀(l:List Fu) (M:List Gr) (u:Un) (e:Int),qo p n l M=some (u,e)->(e=6/\u=⟨[],[]⟩)\/(e=0/\∃U,u=⟨p.arrays,M++U⟩/\cr (fun f g=>rp p n f=some g/\g.nodes.length<=2000) l U)
 |[],M,u,e,h=>by
  rw[qo]at h;cases h;exact .inr ⟨rfl,[],by rw[bj],trivial⟩
 |f::l,M,u,e,h=>by
  rw[qo]at h;simp only[jl]at h;obtain⟨g,K,h⟩:=h;split at h
  .cases h;exact .inl ⟨rfl,rfl⟩
  .rename_i c;rcases Sz l _ u e h with m|⟨m,U,j,z⟩
   .exact .inl m
   .exact .inr ⟨m,g::U,by rw[j,i8];rfl,⟨K,ac⟩,z⟩
theorem SA(K:List (List UInt8)):∀(l:List Fu) (U:List Gr) (seen:List (List UInt8)),cr (fun f g=>g.name=f.name) l U->oc K seen l=false->oc K seen (U.map jr)=false
 |[],[],seen,_,_=>rfl
 |f::l,g::U,seen,ha,h=>by
  rw[oc]at h;simp only[i9]at h;rw[dM,oc];show(zlo seen g.name||zlP K []||oc K (seen++[g.name]) (U.map jr))=false;rw[ha.1,h.1.1,SA K l U _ ha.2 h.2];rfl
theorem Ey{Z β:Type}{q:Z->β->Prop}:∀{a:List Z}{b:List β},cr q a b->∀y∈b,∃x∈a,q x y
 |[],[],_,y,hy=>by simp at hy
 |x::a,z::b,h,y,hy=>by
  rcases fX.1 hy with rfl|hy
  .exact⟨x,ee,h.1⟩
  .obtain⟨w,O,V⟩:=Ey h.2 y hy;exact⟨w,el _ O,V⟩
theorem SB{p:Pr}{n:Nat}{f:Fu}{g:Gr}(h:rp p n f=some g):g.name=f.name/\g.params=f.params.length:=by
 unfold rp at h;simp only[kL]at h;obtain⟨s,_,v,_,rfl⟩:=h;exact⟨rfl,rfl⟩
theorem SD{p:Pr}{n:Nat}:∀{l:List Fu}{U:List Gr},cr (fun f g=>rp p n f=some g/\g.nodes.length<=2000) l U->U.map Gr.params=l.map fun f=>(f.params.length:Int)
 |[],[],_=>rfl
 |f::l,g::U,h=>by rw[dM,dM,SD h.2,(SB h.1.1).2]
theorem zBS{p:Pr}(h:zmw p=0){U:List Gr}(O:cr (fun f g=>g.name=f.name) p.funcs U):zmw (mp ⟨p.arrays,U⟩)=0:=by
 obtain⟨m,j,z,h4,h5⟩:=Jv h;have hl:U.length=p.funcs.length:=O.len.symm;have I:jo (mp ⟨p.arrays,U⟩)=false:=by
  unfold jo at m⊢;simp only[i9,lJ]at m⊢;obtain⟨⟨⟨J,a2⟩,Z⟩,a4⟩:=m;refine⟨⟨⟨J,by simp only[mp,cp];omega⟩,Z⟩,?_⟩;simp only[mp,List.any_map,sI];intro g _;have:ny (jr g)=false:=by
   simp[ny,jr,nS,zl3,zmB,zmN,zl6,jM]
  simp[this]
 have C:hT (mp ⟨p.arrays,U⟩)=true:=by
  unfold hT at j⊢;rw[co]at j⊢;refine⟨j.1,?_⟩;have M:=iP.1 j.2;simp only[mp,List.all_map,iP];intro g K;obtain⟨f,Y,V⟩:=Ey O g K;have:=M f Y;unfold kH fnNames at this;simp only[co,wn,nY,pZ,fR]at this;show kH (jr g)=true;simp[kH,fnNames,jr,ft,eO,ev,mJ,Ex.kind,Ex.kids,Ex.name,Ex.op,V,this.1.1.1.1]
 have o:kI (mp ⟨p.arrays,U⟩)=false:=by
  unfold kI at z⊢;rw[i9]at z⊢;exact⟨z.1,SA _ _ _ _ O z.2⟩
 have e4:(mp ⟨p.arrays,U⟩).funcs.any (iX (mp ⟨p.arrays,U⟩))=false:=by
  simp only[mp,List.any_map,sI];intro g _;simp[iX,jr,zl4,d8,zmD,iW,Ex.kind]
 have e5:(mp ⟨p.arrays,U⟩).funcs.any (kJ (mp ⟨p.arrays,U⟩))=false:=by
  simp only[mp,List.any_map,sI];intro g _;simp[kJ,jr,zl4]
 unfold zmw;rw[I,C,o,e4,e5];rfl
theorem ztV{p:Pr}(h:PrIn p)(hz:p.sz<2^30){n:Nat}(j:2*p.sz<n){u:Un}{e:Int}(M:rV p n=some (u,e)):(e=6/\u=⟨[],[]⟩)\/(e=0/\px u=true/\u.arrays=p.arrays/\u.funcs.length=p.funcs.length/\UnOk u):=by
 unfold rV at M;rw[am h.ck]at M;rcases Sz _ _ _ _ M with m|⟨m,U,h2,z⟩
 .exact .inl m
 rw[ly]at h2;subst h2;have C:=SD z;have hlen:=z.len;have hpz:p.sz=1+zmL p.arrays+zmv p.funcs:=rfl;have Y:cr (fun f g=>g.name=f.name) p.funcs U:=z.mono fun f g k=>(SB k.1).1;refine .inr ⟨m,?_,rfl,by show U.length=_;omega,?_⟩
 .unfold px;rw[zBS h.ck Y,co];refine⟨rfl,iP.2 fun g V=>?_⟩;obtain⟨f,J,K,Z⟩:=Ey z g V;exact zi5 h hz j J K Z rfl C
 .obtain⟨a1,a2,a3,a4⟩:=h.lim;refine⟨by show p.arrays.length<_;omega,by show U.length<_;omega,fun g V=>?_,?_⟩
  .obtain⟨f,J,K,Z⟩:=Ey z g V;obtain⟨s,v,e1,e2,g1,_⟩:=Ss h j J;have I:g=⟨f.name,f.params.length,v.2.l,v.1,v.2.state⟩:=by
    unfold rp at K;rw[e1,cn,e2,cn]at K;exact(Option.some.inj K).symm
   refine⟨ac,fun x hx=>?_⟩;rw[I]at hx;have:=(g1.i.p x hx).len;omega
  .have o:∀{l:List Fu}{U:List Gr},cr (fun f g=>g.name=f.name) l U->zmv (U.map jr)<=4*zmv l:=by
    intro l;induction l with
    |nil=>
     intro U O;cases U with
     |nil=>simp[zmv]
     |cons g U=>exact O.elim
    |cons f l ih=>
     intro U O;cases U with
     |nil=>exact O.elim
     |cons g U=>
      have:=ih O.2;have e:(jr g).sz=1+g.name.length+0+0+0+1:=by simp[Fu.sz,jr,zmd,zld,Ex.sz,zlZ]
      have e2:f.sz=1+f.name.length+zmd f.params+zmd f.locals+zld f.body+f.value.sz:=rfl;rw[dM,zmv,zmv,e,O.1];omega
   have:=o Y;show 1+zmL p.arrays+zmv (U.map jr)<_;omega
structure LwOk (p:Pr):Prop where
 sz:p.sz<2^30
 rg:zmw p=0->∀f∈p.funcs,dt f.body/\d9 f.value
def ij(p:Pr):Un×Int:=(rV p (2*p.sz+1)).getD (⟨[],[]⟩,0)
theorem SE{p:Pr}(h:PrIn p){n:Nat}(J:2*p.sz<n):∀(l:List Fu) (M:List Gr),(∀f∈l,f∈p.funcs)->∃r,qo p n l M=some r
 |[],M,_=>⟨_,rfl⟩
 |f::l,M,hl=>by
  obtain⟨s,v,m,U,_⟩:=Sb h J (hl f ee);rw[qo,rp,m,cn,U,cn,cn];split
  .exact⟨_,rfl⟩
  .exact SE h J l _ fun g K=>hl g (el _ K)
theorem LwOk.low{p:Pr}(h:LwOk p):rV p (2*p.sz+1)=some ((ij p).1,(ij p).2):=by
 have:∃r,rV p (2*p.sz+1)=some r:=by
  unfold rV;split
  .rename_i c;exact SE ⟨c,h.rg c⟩ (cE _) _ _ fun f K=>K
  .exact⟨_,rfl⟩
 obtain⟨r,hr⟩:=this;rw[ij,hr];rfl
theorem zwV{p:Pr}(h:zmw p≠0):ij p=(⟨[],[]⟩,zmw p):=by
 rw[ij,rV,af h];rfl
theorem LwOk.valid{p:Pr}(h:LwOk p)(z:zmw p=0):((ij p).2=6/\(ij p).1=⟨[],[]⟩)\/((ij p).2=0/\px (ij p).1=true/\(ij p).1.arrays=p.arrays/\(ij p).1.funcs.length=p.funcs.length/\UnOk (ij p).1):=
 ztV ⟨z,h.rg z⟩ h.sz (cE _) h.low
noncomputable def JB:En:=⟨27,true,b7 LwOk fc fun p=>.tup [.agg (ij p).1.cells,.int .i64 (ij p).2]⟩
theorem zBT(ρ:Nat->Int):zl0 Tryz.prog ρ JB:=zl7 fun p hp=>ztR ρ p (n:=2*p.sz+1) (by have:=hp.sz;omega) (fun hc=>ziB ⟨hc,hp.rg hc⟩ hp.sz (cE _)) hp.low
theorem lwX{l:List En}(Z:∀M,zme l 27 M=(nW JB).sp M)(I:jb l 27=true){S:Nat->Prop}{n:Nat}{H:Hp}{cs:List AV}{p:Pr}(Y:n<59)(z:zlJ S n H cs p.cells)(J:LwOk p):
 zk5 Tryz.prog (zkY pls l) 27 [.agg cs] H fun v H'=>v=.tup [.agg (ij p).1.cells,.int .i64 (ij p).2]/\Icy S H H':=by
 obtain⟨us,m,j⟩:=z;refine xG (x:=p) (enc:=fc) (ok:=LwOk) (out:=fun p=>.tup [.agg (ij p).1.cells,.int .i64 (ij p).2]) (us:=[.agg us]) (n:=n+1) pd (fun M=>by rw[Z];rfl) I JA J ac ⟨⟨us,m,rfl⟩,trivial⟩ ?_;show [AV.agg (us.map (bX 59))]=_;rw[j 59 ac];rfl
def tyG5a.tyF:=ad @cJ (ad @dd (ad @gX (ad @fx (ad @em (ad @en (ad @zms (ad @xf (ad @eY (ad @vx (ad @RC (ad @RD (ad @Au (ad @kb1 (ad @kb2 (@Jl)))))))))))))))
open tyG5a
set_option maxRecDepth 100000 in
theorem zpw{V:List En}(hG:GenL V){k:Nat}{f:Int}{deep lo:Nat}{H H2:Hp}{r:Nat}{Z:List Int}{c q m:Int}{E2:aw}(hst:deep<=2->qs V k f (deep+1))(O:AtT f deep lo H H2 r Z c q m E2) (hp0:q<6):zlt Tryz.prog (zkY pls V) 84 156 ou E2 H2 (ow k f deep lo H r Z c q m):=by
 obtain⟨hd,hrl,hlo,n2,g2,z,hr2,hL1,U,hqd,k0,k1,k2,k6,k8,k9,k10⟩:=O;have hkeep:(zkY pls V).keep 84=false:=rfl;have hq2:(2:Int)≠0:=aE;have Y:((zlN f).length:Int)≠0:=by rcases tz f with h|h<;>rw[h]<;>decide
 obtain⟨hi0,hix⟩:=sc (zlN f) Y U.1 [];have hxs:=tE U.1;have hxa:=tF U.1;have hxf:=uL U.1;have er:(H.next == r)=false:=zkV ac;have e41:=zmF f 4 1 Z;have e50:=zmF f 5 0 Z;have e32:=zmF f 3 2 Z;have hwd:IntKind.wrap .i64 ((deep:Int)+1)=((deep+1:Nat):Int):=zm3 ac;unfold ow;generalize hR:ig (se f k deep) f Z c q m=R;rw[ig]at hR;dsimp only[ou,fW,sd];repeat' (first
  |(apply ah ?_;clear hK K)|apply Ry.o ?_|(apply bb (fun hb j=>?_) (fun hb j=>?_)<;>try(cases hb;done))|apply ak ?_|(apply zkU fun K hK=>?_)|(apply zmm 8 [(3,9),(3,11),(6,9),(6,11)] fun K hK=>?_)|(apply zlC ?_;try intro _)|apply bZ ?_|apply aG ?_|fail)
 refine aZ rfl bc bi ?_;simp only[iw];refine aS ?_ (jY hG 5 f 0 ac ac lo _ r Z c hr2 ac);rintro v H4 ⟨⟨cs,rfl,J,I,o⟩,C,n4,o4⟩;obtain⟨v0,v1,v2,v3,v4,rfl⟩:=zmq J;obtain⟨w0,zlG,w2,w3,w4⟩:=ji I;have g4:H4.get H.next=some (.cells [.int .i64 0,.str [],.str [],.int .i64 0,.int .i64 0,.int .i64 0,.str [],.int .i64 0,.nilS,.int .i64 0,.int .i64 0,.str [],.int .i64 0,.nilS,.nilS,.nilS,.nilS] 0 true):=by rw[o4 _ ac ac];exact g2
 dsimp only[zk6];repeat' (first
  |apply Rx.o ?_|apply bS ?_|(apply zlC ?_;try intro _)|(apply zmk ?_ ?_<;>clear hK K)|apply bZ ?_|apply zmK rfl ?_|apply aF ?_|fail)
 .exact zlU
 .refine⟨eI,_,(by(try simp only[zk1,zk7,Nat.reduceBEq,tyF,zlX,zl1, *]);first|done|with_reducible rfl),?_⟩;try simp only[zkX]
  rw[am ac]at hR;subst hR;refine wB rfl R0 (pw (n:=8+k) 1 _ [] 0 nD ((o.up ac).keep2 (fun q _ hq=>ac) gc fun q h1 M=>kE) .nilS .nilS .nilS) ?_ ?_ ?_
  .exact C.keep gc fun q hq=>kE
  .simp only[zli];omega
  .intro q h1 M;rw[aJ,af ac,o4 _ ac M];exact z q h1 M
set_option maxRecDepth 100000 in
theorem zrk{V:List En}(hG:GenL V){k:Nat}{f:Int}{deep lo:Nat}{H H2:Hp}{r:Nat}{Z:List Int}{c q m:Int}{E2:aw}(hst:deep<=2->qs V k f (deep+1))(M:AtT f deep lo H H2 r Z c q m E2)(hn0:¬q<6)(hp0:q<8):zlt Tryz.prog (zkY pls V) 84 156 ou E2 H2 (ow k f deep lo H r Z c q m):=by
 obtain⟨hd,hrl,hlo,n2,g2,o2',hr2,hL1,U,hqd,k0,k1,k2,k6,k8,k9,k10⟩:=M;have hkeep:(zkY pls V).keep 84=false:=rfl;have hq2:(2:Int)≠0:=aE;have Y:((zlN f).length:Int)≠0:=by rcases tz f with h|h<;>rw[h]<;>decide
 obtain⟨hi0,hix⟩:=sc (zlN f) Y U.1 [];have hxs:=tE U.1;have hxa:=tF U.1;have hxf:=uL U.1;have er:(H.next == r)=false:=zkV ac;have e41:=zmF f 4 1 Z;have e50:=zmF f 5 0 Z;have e32:=zmF f 3 2 Z;have hwd:IntKind.wrap .i64 ((deep:Int)+1)=((deep+1:Nat):Int):=zm3 ac;unfold ow;generalize hR:ig (se f k deep) f Z c q m=R;rw[ig]at hR;dsimp only[ou,fW,sd];repeat' (first
  |(apply ah ?_;clear hK K)|apply Ry.o ?_|(apply bb (fun hb J=>?_) (fun hb J=>?_)<;>try(cases hb;done))|apply ak ?_|(apply zkU fun K hK=>?_)|(apply zmm 10 [(0,7),(0,10),(0,12),(4,7),(4,10),(4,12)] fun K hK=>?_)|(apply zlC ?_;try intro _)|apply bZ ?_|apply aG ?_|fail)
 refine aZ rfl bc bi ?_;simp only[iw];refine aS ?_ (jY hG 3 f 2 ac ac lo _ r Z c (hr2.keep (dQ _) fun q I=>gk) ac);rintro v H4 ⟨⟨al,rfl,ha1,ha2,o⟩,hr4,n4,O⟩;simp only[zk9]at n4 O o;obtain⟨znw,a1,a2,a3,a4,rfl⟩:=zmq ha1;obtain⟨u0,u1,u2,u3,u4⟩:=ji ha2;have g4s:H4.get (H.next+1)=some (.cells [.str [97],.str [98]] 0 true):=by rw[O _ ac ac,zkZ,am ac]
 dsimp only[zk6];repeat' (first
  |apply Rx.o ?_|(apply zlC ?_;try intro _)|apply bZ ?_|fail)
 refine aZ rfl bc bi ?_;simp only[iw];refine aS ?_ (jY hG 4 f 1 ac ac lo H4 r _ c hr4 ac);rintro v H5 ⟨⟨cs,rfl,hc1,hc2,hc3⟩,hr5,n5,z⟩;obtain⟨v0,v1,v2,v3,v4,rfl⟩:=zmq hc1;obtain⟨w0,zlG,w2,w3,w4⟩:=ji hc2;have g5s:H5.get (H.next+1)=some (.cells [.str [97],.str [98]] 0 true):=by rw[z _ ac ac];exact g4s
 have g5:H5.get H.next=some (.cells [.int .i64 0,.str [],.str [],.int .i64 0,.int .i64 0,.int .i64 0,.str [],.int .i64 0,.nilS,.int .i64 0,.int .i64 0,.str [],.int .i64 0,.nilS,.nilS,.nilS,.nilS] 0 true):=by rw[z _ ac ac,O _ ac ac,zkZ,af ac];exact g2
 dsimp only[zk6];repeat' (first
  |apply Rx.o ?_|apply bS ?_|(apply zlC ?_;try intro _)|(apply zmk ?_ ?_<;>clear hK K)|apply bZ ?_|apply zmK rfl ?_|apply aF ?_|fail)
 .exact zlU
 .refine⟨eI,_,(by(try simp only[zk1,zk7,Nat.reduceBEq,tyF,zlX,zl1, *]);first|done|with_reducible rfl),?_⟩;try simp only[zkX]
  rw[af ac,am ac]at hR;subst hR;refine wB rfl (by simp only[nY,pZ,u0,u1,u2,u3,u4,w0,zlG,w2,w3,w4,fR];rfl) (pw (n:=8+k) 2 _ [] 0 ((o.up ac).keep2 (fun q _ I=>ac) gc fun q C j=>by rw[aJ,af ac,z _ ac ac]) ((hc3.up ac).keep2 (fun q _ I=>ac) gc fun q C j=>kE) .nilS .nilS .nilS) ?_ ?_ ?_
  .exact hr5.keep gc fun q I=>kE
  .simp only[zli];omega
  .intro q C j;rw[aJ,af ac,z _ ac j,O _ ac j,zkZ,af ac];exact o2' q C j
set_option maxRecDepth 100000 in
theorem zwW{V:List En}(hG:GenL V){k:Nat}{f:Int}{deep lo:Nat}{H H2:Hp}{r:Nat}{Z:List Int}{c q m:Int}{E2:aw}(hst:deep<=2->qs V k f (deep+1))(O:AtT f deep lo H H2 r Z c q m E2)(hn0:¬q<6)(hn1:¬q<8)(hn2:¬q<10)(hn3:¬q<12)(hp0:q<14):zlt Tryz.prog (zkY pls V) 84 156 ou E2 H2 (ow k f deep lo H r Z c q m):=by
 obtain⟨hd,hrl,hlo,n2,g2,z,hr2,hL1,U,hqd,k0,k1,k2,k6,k8,k9,k10⟩:=O;have hkeep:(zkY pls V).keep 84=false:=rfl;have hq2:(2:Int)≠0:=aE;have Y:((zlN f).length:Int)≠0:=by rcases tz f with h|h<;>rw[h]<;>decide
 obtain⟨hi0,hix⟩:=sc (zlN f) Y U.1 [];have hxs:=tE U.1;have hxa:=tF U.1;have hxf:=uL U.1;have er:(H.next == r)=false:=zkV ac;have e41:=zmF f 4 1 Z;have e50:=zmF f 5 0 Z;have e32:=zmF f 3 2 Z;have hwd:IntKind.wrap .i64 ((deep:Int)+1)=((deep+1:Nat):Int):=zm3 ac;unfold ow;generalize hR:ig (se f k deep) f Z c q m=R;rw[ig]at hR;dsimp only[ou,fW,sd];repeat' (first
  |(apply ah ?_;clear hK K)|apply Ry.o ?_|(apply bb (fun hb j=>?_) (fun hb j=>?_)<;>try(cases hb;done))|apply ak ?_|(apply zkU fun K hK=>?_)|apply aG ?_|fail)
 refine aZ rfl bc bi ?_;simp only[bj];refine aS ?_ (jY hG 4 f 1 ac ac lo _ r Z c hr2 ac);rintro v H4 ⟨⟨cs,rfl,J,I,o⟩,C,n4,o4⟩;obtain⟨v0,v1,v2,v3,v4,rfl⟩:=zmq J;obtain⟨w0,zlG,w2,w3,w4⟩:=ji I;have g4:H4.get H.next=some (.cells [.int .i64 0,.str [],.str [],.int .i64 0,.int .i64 0,.int .i64 0,.str [],.int .i64 0,.nilS,.int .i64 0,.int .i64 0,.str [],.int .i64 0,.nilS,.nilS,.nilS,.nilS] 0 true):=by rw[o4 _ ac ac];exact g2
 dsimp only[zk6];repeat' (first
  |(apply ah ?_;clear hK K)|apply Rx.o ?_|apply bS ?_|apply aF ?_|fail)
 refine⟨eI,_,(by(try simp only[zk1,zk7,Nat.reduceBEq,tyF,zlX,zl1, *]);first|done|with_reducible rfl),?_⟩;try simp only[zkX]
 rw[af ac,af ac,af ac,af ac,am ac]at hR;subst hR;refine wB rfl R0 (pw (n:=8+k) 5 [] [] 0 nD ((o.up ac).keep2 (fun q _ hq=>ac) gc fun q h1 M=>kE) .nilS .nilS .nilS) ?_ ?_ ?_
 .exact C.keep gc fun q hq=>kE
 .simp only[zli];omega
 .intro q h1 M;rw[aJ,af ac,o4 _ ac M];exact z q h1 M
set_option maxRecDepth 100000 in
theorem ztW{V:List En}(hG:GenL V){k:Nat}{f:Int}{deep lo:Nat}{H z:Hp}{r:Nat}{Y:List Int}{c q m:Int}{o:aw}(hst:deep<=2->qs V k f (deep+1))(O:AtT f deep lo H z r Y c q m o)(hn0:¬q<6)(hn1:¬q<8)(hn2:¬q<10)(hn3:¬q<12)(hn4:¬q<14)(hn5:¬q<15) : zlt Tryz.prog (zkY pls V) 84 156 ou o z (ow k f deep lo H r Y c q m):=by
 obtain⟨hd,hrl,hlo,n2,g2,M,J,hL1,U,hqd,k0,k1,k2,k6,k8,k9,k10⟩:=O;have I:(zkY pls V).keep 84=false:=rfl;have hq2:(2:Int)≠0:=aE;have Z:((zlN f).length:Int)≠0:=by rcases tz f with h|h<;>rw[h]<;>decide
 obtain⟨hi0,hix⟩:=sc (zlN f) Z U.1 [];have hxs:=tE U.1;have hxa:=tF U.1;have hxf:=uL U.1;have er:(H.next == r)=false:=zkV ac;have e41:=zmF f 4 1 Y;have e50:=zmF f 5 0 Y;have e32:=zmF f 3 2 Y;have hwd:IntKind.wrap .i64 ((deep:Int)+1)=((deep+1:Nat):Int):=zm3 ac;unfold ow;generalize C:ig (se f k deep) f Y c q m=R;rw[ig]at C;dsimp only[ou,fW,sd];repeat' (first
  |(apply ah ?_;clear hK K)|apply Ry.o ?_|apply dG ?_|(apply bb (fun hb j=>?_) (fun hb j=>?_)<;>try(cases hb;done))|apply ak ?_|(apply zkU fun K hK=>?_)|apply aG ?_|apply zk3 ?_|apply aF ?_|fail)
 refine⟨eI,_,(by(try simp only[zk1,zk7,Nat.reduceBEq,tyF,zlX,zl1, *]);first|done|with_reducible rfl),?_⟩;try simp only[zkX]
 rw[af ac,af ac,af ac,af ac,af ac,af ac]at C;subst C;refine wB rfl rfl (pw (n:=8+k) 7 [] [] _ nD nD .nilS .nilS .nilS) ?_ ?_ ?_
 .exact J.keep gc fun q hq=>kE
 .simp only[zli];omega
 .intro q h1 h2;rw[aJ,af ac];exact M q h1 h2
end
end Go.Proofs.YtpbcimfiofmoeaaGreat
