/- Parts: SpecY, SpecZ, SpecJ, SpecP, SpecW, VlA, V7, VlB, LpN, VdA, VdB. -/
import Derived.Test.YtpbcimfiofmoeaaGreatPCO
set_option linter.unusedSimpArgs false
set_option linter.unusedVariables false
set_option linter.unusedSectionVars false
set_option linter.defProp false
set_option maxHeartbeats 32000000
namespace Go.Ab
set_option maxRecDepth 20000
open Go
theorem BQ{P:Prop}(h:P:=by rw[List.length_cons];omega):P:=h
theorem FC{P:Prop}(h:P:=by rw[List.length_append]):P:=h
theorem M4{P:Prop}(h:P:=by show s.loops<=(eK ar.len r.1 v.2).loops;omega):P:=h
theorem FD{P:Prop}(h:P:=by rw[Hp.get_set,if_pos rfl,zpn g]):P:=h
theorem vR{P:Prop}(h:P:=by simp only[zfo,Nat.reduceBEq, *];exact zhp (n:=16) ac ac):P:=h
def M5:=@List.take_succ_cons
def vT:=@List.any_map
def M6:=@List.mem_singleton_self
def FE:=@Nat.lt_succ_of_lt
end Go.Ab
namespace Go.Proofs.YtpbcimfiofmoeaaGreat
set_option maxRecDepth 20000
open Go Go.Ab
section
section
variable {A:List Ar} {F:List Fu} {np:Nat}
theorem NdP.names{N m:List zfD}{x:Nd}(h:NdP ⟨A,F,N⟩ np x):NdP ⟨A,F,m⟩ np x:=⟨h.op,h.imm,h.len,h.pa,h.ar,h.fn⟩
theorem LI.names{N m:List zfD}{s:Bd}(h:LI ⟨A,F,N⟩ np s)(L:m.length=N.length):LI ⟨A,F,m⟩ np s:=⟨h.nd,h.wf,fun x C=>(h.p x C).names,h.v,h.vl.trans L.symm,h.st⟩
theorem LI.push{N m:List zfD}{s:Bd}(h:LI ⟨A,F,N⟩ np s){x:Int}(C:IsT s.l 1 x)(L:m.length=N.length+1):LI ⟨A,F,m⟩ np {s with vars:=s.vars++[x] }:=
 ⟨h.nd,h.wf,fun y U=>(h.p y U).names,fun y U=>by
  rcases pM.1 U with U|U
  .exact h.v y U
  .simp only[ly]at U;subst U;exact C,by
  have:=h.vl;show(s.vars++[x]).length=_;rw[fG,this,L];rfl,h.st⟩
theorem FF(Y:np<=6):∀(m k:Nat) (s:Bd) (N Z:List zfD),LI ⟨A,F,N⟩ np s->Z.length=N.length+m->k+m<=np->LI ⟨A,F,Z⟩ np (il m k s)/\(il m k s).loops=s.loops/\(il m k s).l.length<=s.l.length+m
 |0,k,s,N,Z,h,hl,_=>⟨h.names hl,rfl,aE _⟩
 |m+1,k,s,N,Z,h,hl,hk=>by
  obtain⟨C,K,M⟩:=zhy h (n:=⟨2,k,[]⟩) (KD ac ac) aD ⟨by show 0<=(2:Int)/\(2:Int)<256;decide,yk,by show 0<=40;decide,fun _=>by show(k:Int)<np;omega,fun e=>by rcases e with e|e<;>exact absurd e (by show ¬(2:Int)=_;decide),fun e=>absurd e (by show ¬(2:Int)=30;decide)⟩;obtain⟨J,I,V⟩:=FF Y m (k+1) { (zfg ⟨2,k,[]⟩ s).2 with vars:=(zfg ⟨2,k,[]⟩ s).2.vars++[(zfg ⟨2,k,[]⟩ s).1] } ([]::N) Z (C.push K rfl) BQ ac;exact⟨J,I,by have z:(il (m+1) k s).l.length<=(zfg ⟨2,k,[]⟩ s).2.l.length+m:=V;omega⟩
theorem FG:∀(m:Nat) (s:Bd) (N Z:List zfD),LI ⟨A,F,N⟩ np s->Z.length=N.length+m->LI ⟨A,F,Z⟩ np (j7 m s)/\(j7 m s).loops=s.loops/\(j7 m s).l.length<=s.l.length+m
 |0,s,N,Z,h,hl=>⟨h.names hl,rfl,aE _⟩
 |m+1,s,N,Z,h,hl=>by
  obtain⟨C,K,M⟩:=yr h (n:=0) ff;obtain⟨J,I,Y⟩:=FG m { (zfg ⟨1,0,[]⟩ s).2 with vars:=(zfg ⟨1,0,[]⟩ s).2.vars++[(zfg ⟨1,0,[]⟩ s).1] } ([]::N) Z (C.push K rfl) BQ;exact⟨J,I,by have z:(j7 (m+1) s).l.length<=(zfg ⟨1,0,[]⟩ s).2.l.length+m:=Y;omega⟩
theorem FH:LI ⟨A,F,[]⟩ np { (zfg ⟨26,0,[]⟩ ⟨[],[],0,0⟩).2 with state:=(zfg ⟨26,0,[]⟩ ⟨[],[],0,0⟩).1}:=by
 obtain⟨a,b⟩:=EU (l:=[]) (n:=⟨26,0,[]⟩) (fun i I=>by simp at I) KE aD;refine⟨MO AM,b,fun x C=>?_,(fun y U=>by cases U),rfl,a⟩;rcases(rv (l:=[]) (n:=⟨26,0,[]⟩)).1 C with C|rfl
 .cases C
 .exact iu _ _ aD ff au aD aD aD aD
end
structure PrIn (p:Pr):Prop where
 ck:zhj p=0
 rg:∀f∈p.funcs,jb f.body/\iR f.value
theorem FI{p:Pr}(h:zhj p=0):lx p=false/\ja p=true/\mR p=false/\p.funcs.any (mS p)=false/\p.funcs.any (nM p)=false:=by
 unfold zhj at h;split at h
 .cases h
 split at h
 .cases h
 split at h
 .cases h
 split at h
 .cases h
 split at h
 .cases h
 rename_i a b c d e;exact⟨by simpa using a,by simpa using b,BF,by simpa using d,by simpa using e⟩
theorem BR{i:Type}{l:List i}{p:i->Bool}(h:l.any p=false){x:i}(C:x∈l):p x=false:=by
 cases e:p x with
 |false=>rfl
 |true=>rw[Au.2 ⟨x,C,e⟩]at h;cases h
theorem PrIn.lim{p:Pr}(h:PrIn p):(∀a∈p.arrays,1<=a.len/\a.len<=16)/\p.arrays.length<=4/\p.funcs.length<=8/\∀f∈p.funcs,f.params.length<=6/\f.locals.length<=8/\zfQ f.body<=16:=by
 have C:=(FI h.ck).1;unfold lx at C;simp only[gG,i4]at C;obtain⟨⟨⟨Z,g⟩,m⟩,O⟩:=C;refine⟨fun a o=>?_,ac,ac,fun f i=>?_⟩
 .have:=BR m o;unfold t8 at this;simp only[gG,i4]at this;omega
 .have:=BR O i;unfold oJ at this;simp only[gG,i4]at this;omega
theorem PrIn.cx{p:Pr}(h:PrIn p){f:Fu}(i:f∈p.funcs):CxOkU (jI p f):=by
 obtain⟨Z,Y,m,O⟩:=h.lim;have:=O f i;exact⟨Z,Y,m,fun g J=>(O g J).1,by show(f.params++f.locals).length<=14;rw[fG];omega⟩
theorem PrIn.body{p:Pr}(h:PrIn p){f:Fu}(i:f∈p.funcs):SsOk (jI p f) f.body/\XOk (jI p f) f.value:=by
 obtain⟨_,g,_,O,K⟩:=FI h.ck;unfold ja at g;rw[co,gF,gF]at g;have w:=g.2 f i;have u:=BR O i;have b:=BR K i;unfold lT at w;unfold mS at u;unfold nM at b;simp only[co,sE]at w u b;obtain⟨C,j⟩:=h.rg f i;exact⟨⟨w.1.2,u.1,b,C⟩,⟨w.2,u.2,j⟩⟩
theorem FJ{p:Pr}(h:PrIn p){n:Nat}(hn:2*p.sz<n){f:Fu}(i:f∈p.funcs):
 ∃s v,eC (jI p f) n f.body (zhn f)=some s/\ed (jI p f) n f.value s=some v/\LI (jI p f) f.params.length v.2/\IsT v.2.l 1 v.1/\v.2.loops<=16/\v.2.l.length<=64*p.sz:=by
 obtain⟨_,_,_,O⟩:=h.lim;obtain⟨l1,l2,l3⟩:=O f i;obtain⟨o,U⟩:=h.body i;have hc:=h.cx i;have m:=pY i;have g:p.sz=1+jC p.arrays+ig p.funcs:=rfl;have hfs:f.sz=1+f.name.length+zgU f.params+zgU f.locals+zf0 f.body+f.value.sz:=rfl;have e0:=FH (A:=p.arrays) (F:=p.funcs) (np:=f.params.length);obtain⟨Z,K,M⟩:=FF l1 f.params.length 0 _ [] f.params e0 au ac;obtain⟨J,I,Y⟩:=FG f.locals.length _ f.params (f.params++f.locals) Z FC;have hs:LI (jI p f) f.params.length (zhn f):=J;have hs2:(zhn f).loops=0:=I.trans K;have hs3:(zhn f).l.length<=15:=by
  have e1:(zhn f).l.length<=(il f.params.length 0 { (zfg ⟨26,0,[]⟩ ⟨[],[],0,0⟩).2 with state:=(zfg ⟨26,0,[]⟩ ⟨[],[],0,0⟩).1}).l.length+f.locals.length:=Y;have e2:(il f.params.length 0 { (zfg ⟨26,0,[]⟩ ⟨[],[],0,0⟩).2 with state:=(zfg ⟨26,0,[]⟩ ⟨[],[],0,0⟩).1}).l.length<=1+f.params.length:=M;omega
 obtain⟨s,V,L,q3,q4⟩:=(M3 hc (np:=f.params.length) n).2.1 f.body (zhn f) o ac hs ac;obtain⟨v,C,j,z,r4⟩:=qA hc n f.value s U ac L;have lv:=zgg _ n _ _ _ C;exact⟨s,v,V,C,j,z,by rw[lv.n];omega,ac⟩
theorem LI.fin{c:Cx}{np:Nat}{s:Bd}(h:LI c np s)(L:s.l.length<2^36)(z:s.loops<=16):Fin s:=by
 refine⟨fun x C=>?_,L,ac⟩;have hp:=h.p x C;obtain⟨i,I,e⟩:=tp C;have J:s.l[i]?=some x:=by rw[aR I,e]
 have M:=h.wf i I;rw[vm I]at M;obtain⟨t,j,_,_⟩:=Ea J M;refine⟨hp.op,hp.imm,fun k V=>?_,by have:=hp.len;omega⟩;have:=rk j k V;omega
theorem M7{p:Pr}(h:PrIn p)(I:p.sz<2^30){n:Nat}(z:2*p.sz<n):Fw p n:=fun f i=>by
 obtain⟨s,v,Z,g,m,O,K,Y⟩:=FJ h z i;exact⟨s,v,Z,g,m.fin ac K⟩
def zhl(l:List Nd)(A:Nat->Prop)(k:Int):Prop:=∀t,(zhk l k).testBit t=true->A t
theorem vU(l:List Nd):∀{i j:Nat},j<i->(jG l i).getD j 0=(match l[j]? with|some n=>sB n (jG l j)|none=>0)
 |0,j,h=>by omega
 |i+1,j,h=>by
  rw[jG];by_cases e:j<i
  .rw[AF (by rw[xM];exact e)];exact vU l e
  .obtain rfl:j=i:=by omega
   rw[AG (xM l j).symm];cases l[j]? <;>rfl
theorem M8{l m:List Nd}:∀{i:Nat},i<=l.length->jG (l++m) i=jG l i
 |0,_=>rfl
 |i+1,h=>by
  have ih:=M8 (l:=l) (m:=m) (i:=i) ac;rw[jG,jG,ih,je ac]
theorem M9{n:Nd}{h i:List Nat}:∀(V:List Int) (j m:Nat),(∀k∈V,h.getD k.toNat 0=i.getD k.toNat 0)->rp n h j V m=rp n i j V m
 |[],j,m,_=>rfl
 |k::V,j,m,e=>by
  rw[rp,rp,M9 V _ _ fun q L=>e q (dO _ L)];unfold t6;rw[e k dJ]
theorem zrH{l:List Nd}{i:Nat}{n:Nd}(z:l[i]?=some n)(j:∀k∈n.kids,0<=k/\k<i):zhk l i=sB n (jG l l.length):=by
 have I:i<l.length:=by
  by_cases c:i<l.length
  .exact c
  .rw[gI ac]at z;cases z
 unfold zhk;rw[gV,vU l I,z];simp only;unfold sB;refine M9 _ _ _ fun k V=>?_;have:=j k V;rw[vU l (show k.toNat<i by omega),vU l (show k.toNat<l.length by omega)]
theorem Na{l m:List Nd}{k:Int}(M:0<=k)(h1:k<l.length):zhk (l++m) k=zhk l k:=by
 unfold zhk;rw[vU _ (show k.toNat<(l++m).length by rw[fG];omega),vU _ (show k.toNat<l.length by omega),je ac,M8 ac]
theorem zhl.le{l g:List Nd}{A:Nat->Prop}{k:Int}(h:zhl l A k)(M:0<=k)(h1:k<l.length)(L:l<+:g):zhl g A k:=by
 obtain⟨m,rfl⟩:=L;intro t C;rw[Na M h1]at C;exact h t C
theorem zhl.mono{l:List Nd}{A B:Nat->Prop}{k:Int}(h:zhl l A k)(K:∀t,A t->B t):zhl l B k:=fun t C=>K t (h t C)
theorem zrI{n:Nd}{h:List Nat}{A:Nat->Prop}(m:n.op=3->A (n.imm.tdiv 16).toNat)(Z:∀(j:Nat) (k:Int),n.kids[j]?=some k->∀t,(h.getD k.toNat 0).testBit t=true->A t\/(n.op=31/\fu n.kids.length<=j/\t=n.imm.toNat))(t:Nat)(C:(sB n h).testBit t=true):A t:=by
 unfold sB at C;rw[AE,oB]at C;rcases C with C|C
 .by_cases c:n.op=3
  .rw[aq c,xN,iB]at C;rw[<-C];exact m c
  .rw[af c]at C;simp at C
 .obtain⟨⟨k,j⟩,V,o⟩:=Au.1 C;have J:n.kids[j]?=some k:=by
   have:=List.mem_zipIdx_iff_getElem?.1 V;simpa using this
  simp only at o;unfold t6 at o;split at o
  .rename_i c;rw[Em,co,xN]at o;rcases Z j k J t o.1 with a|⟨_,_,e⟩
   .exact a
   .rw[e]at o;simp at o
  .rename_i c;rcases Z j k J t o with a|⟨Y,U,_⟩
   .exact a
   .exact absurd ⟨Y,U⟩ c
theorem zuv{l:List Nd}{n:Nd}(h:fd l n≠0):∀k∈n.kids,0<=k/\k<l.length:=by
 unfold fd at h;split at h
 .exact absurd rfl h
 .rename_i s K;intro k j;have:=rk K k j;omega
theorem BS{l:List Nd}{n:Nd}{A:Nat->Prop}(M:zh9 l)(K:fd l n≠0)(Z:n.op=3->A (n.imm.tdiv 16).toNat)(L:∀(j:Nat) (k:Int),n.kids[j]?=some k->∀t,(zhk l k).testBit t=true->A t\/(n.op=31/\fu n.kids.length<=j/\t=n.imm.toNat)):zhl (iK l n) A (fZ l n):=by
 obtain⟨a,b⟩:=EU M rfl K;have J:=EM l n;have O:=znp l n;have U:=b _ O;rw[vm O]at U;obtain⟨s,i,_,_⟩:=Ea J U;have o:=rk i;intro t C;rw[zrH J fun k V=>⟨(o k V).1,(o k V).2.1⟩]at C;refine zrI Z (fun j k Y t C=>?_) t C;have hr:=zuv K k (lJ Y);obtain⟨m,V⟩:=ru l n;refine L j k Y t ?_;rw[<-Na (m:=m) hr.1 hr.2,V];exact C
theorem yy{l:List Nd}{n:Nd}{A:Nat->Prop}(M:zh9 l)(K:fd l n≠0)(m:n.op≠3)(Z:∀k∈n.kids,zhl l A k):zhl (iK l n) A (fZ l n):=
 BS M K (fun e=>absurd e m) fun j k Y t C=>.inl (Z k (lJ Y) t C)
structure IsM (A:Nat->Prop) (l:List Nd) (t k:Int):Prop where
 i:IsT l t k
 m:zhl l A k
theorem IsM.le{A:Nat->Prop}{l g:List Nd}{t k:Int}(h:IsM A l t k)(L:l<+:g):IsM A g t k:=⟨h.i.le L,h.m.le h.i.lo h.i.hi L⟩
theorem IsM.mono{A B:Nat->Prop}{l:List Nd}{t k:Int}(h:IsM A l t k)(K:∀t,A t->B t):IsM B l t k:=⟨h.i,h.m.mono K⟩
structure LG (c:Cx) (np:Nat) (A:Nat->Prop) (s:Bd):Prop where
 i:LI c np s
 v:∀y∈s.vars,IsM A s.l 1 y
 st:IsM A s.l 2 s.state
structure Ql (s r:Bd):Prop where
 q:∀x∈r.l,x∈s.l\/(x.op≠3/\x.op≠31)
theorem Ql.refl(s:Bd):Ql s s:=⟨fun x h=>.inl h⟩
def ux:=@Ql.refl
theorem Ql.trans{a b d:Bd}(h:Ql a b)(k:Ql b d):Ql a d:=⟨fun x C=>(k.q x C).elim (fun g=>h.q x g) .inr⟩
theorem Ql.setS{a b:Bd}(h:Ql a b)(x:Int):Ql a {b with state:=x}:=⟨h.q⟩
theorem Ql.ofS{a b:Bd}{x:Int}(h:Ql {a with state:=x} b):Ql a b:=⟨h.q⟩
section
variable {c:Cx} {np:Nat} {A:Nat -> Prop} {s:Bd}
theorem LG.setS(h:LG c np A s){x:Int}(C:IsM A s.l 2 x):LG c np A {s with state:=x}:=⟨h.i.setS C.i,h.v,C⟩
theorem LG.setV(h:LG c np A s){x:List Int}(C:∀y∈x,IsM A s.l 1 y)(L:x.length=c.names.length):LG c np A {s with vars:=x}:=⟨h.i.setV (fun y U=>(C y U).i) L,C,h.st⟩
theorem LG.setN(h:LG c np A s)(x:Nat):LG c np A {s with loops:=x}:=⟨h.i.setN x,h.v,h.st⟩
theorem LG.mono{B:Nat->Prop}(h:LG c np A s)(K:∀t,A t->B t):LG c np B s:=⟨h.i,fun y U=>(h.v y U).mono K,h.st.mono K⟩
theorem LG.put(h:LG c np A s){n:Nd}(J:LI c np (zfg n s).2):LG c np A (zfg n s).2:=⟨J,fun y U=>(h.v y U).le (ru _ _),h.st.le (ru _ _)⟩
theorem BT(s:Bd){n:Nd}(m:n.op≠3)(O:n.op≠31):Ql s (zfg n s).2:=⟨fun x C=>by
 rcases rv.1 C with C|rfl
 .exact .inl C
 .exact .inr ⟨m,O⟩⟩
theorem qB(h:LG c np A s){n:Nd}{t:Int}(K:fd s.l n=t)(C:t≠0)(J:NdP c np n)(m:n.op≠3)(O:n.op≠31)(j:∀k∈n.kids,zhl s.l A k):LG c np A (zfg n s).2/\IsM A (zfg n s).2.l t (zfg n s).1/\Ql s (zfg n s).2:=by
 obtain⟨a,b,_⟩:=zhy h.i K C J;exact⟨h.put a,⟨b,yy h.i.wf (by rw[K];exact C) m j⟩,BT s m O⟩
theorem yz{l:List Nd}{a:Int}(h:zhl l A a):∀k∈[a],zhl l A k:=fun k j=>by
 simp only[ly]at j;subst j;exact h
theorem yA{l:List Nd}{a b:Int}(h:zhl l A a)(h2:zhl l A b):∀k∈[a,b],zhl l A k:=fun k j=>by
 rcases eP.1 j with rfl|j
 .exact h
 .exact yz h2 k j
theorem Nb{l:List Nd}{a b d:Int}(h:zhl l A a)(h2:zhl l A b)(m:zhl l A d):∀k∈[a,b,d],zhl l A k:=fun k j=>by
 rcases eP.1 j with rfl|j
 .exact h
 .exact yA h2 m k j
theorem vV(h:LG c np A s){t k a b:Int}(j:IsM A s.l 1 k)(o:IsM A s.l t a)(Z:IsM A s.l t b)(C:t=1\/t=2):LG c np A (zfA k a b s).2/\IsM A (zfA k a b s).2.l t (zfA k a b s).1/\Ql s (zfA k a b s).2:=by
 unfold zfA;split
 .exact⟨h,o,ux s⟩
 .exact qB h (KH j.i o.i Z.i C) ac (iu _ _ aD ff au aD aD aD aD) au au (Nb j.m o.m Z.m)
theorem FK(h:LG c np A s){t v:Int}(U:IsM A s.l 1 v)(M:1<=t)(h1:t<=1000016):LG c np A (my t v s)/\Ql s (my t v s):=by
 have:=qB h (n:=⟨27,t,[s.state,v]⟩) (KJ h.st.i U.i M h1) aD (iu _ _ aD ff au aD aD aD aD) au au (yA h.st.m U.m);exact⟨this.1.setS this.2.1,this.2.2.setS _⟩
theorem yB(h:LG c np A s){n:Int}(z:zho n):LG c np A (zfg ⟨1,n,[]⟩ s).2/\IsM A (zfg ⟨1,n,[]⟩ s).2.l 1 (zfg ⟨1,n,[]⟩ s).1/\Ql s (zfg ⟨1,n,[]⟩ s).2:=
 qB h (KC n) aD (iu _ _ aD z au aD aD aD aD) au au au
theorem BU(h:LG c np A s){op a b:Int}(o:IsM A s.l 1 a)(Z:IsM A s.l 1 b)(M:4<=op)(h1:op<=19):LG c np A (zfg ⟨op,0,[a,b]⟩ s).2/\IsM A (zfg ⟨op,0,[a,b]⟩ s).2.l 1 (zfg ⟨op,0,[a,b]⟩ s).1/\Ql s (zfg ⟨op,0,[a,b]⟩ s).2:=
 qB h (KF o.i Z.i M h1) aD (iu _ _ ac ff au ac ac ac ac) (by show op≠3;omega) (by show op≠31;omega) (yA o.m Z.m)
theorem Nc(h:LG c np A s){n i:Int}(z:zho n)(I:IsM A s.l 1 i):LG c np A (eK n i s)/\Ql s (eK n i s):=by
 obtain⟨Z,K,M⟩:=yB h z;have C:=I.le (zgd ⟨1,n,[]⟩ s).le.l;obtain⟨J,Y,V⟩:=BU Z (op:=19) C K aD aD;obtain⟨c1,U⟩:=FK J (t:=2) Y aD aD;exact⟨c1,M.trans (V.trans U)⟩
theorem zcL(h:LG c np A s){i:Int}(I:IsM A s.l 1 i):LG c np A (mz i s)/\Ql s (mz i s):=by
 obtain⟨Z,K,M⟩:=yB h (n:=0) ff;have C:=I.le (zgd ⟨1,0,[]⟩ s).le.l;obtain⟨J,Y,V⟩:=BU Z (op:=16) C K aD aD;obtain⟨c1,U⟩:=FK J (t:=1) Y aD aD;exact⟨c1,M.trans (V.trans U)⟩
theorem zcM(Z:CxOkU c)(h:LG c np A s){i:Int}(I:IsM A s.l 1 i){k:Nat}(j:k<c.arrays.length):LG c np A (zfg ⟨23,k,[s.state,i]⟩ s).2/\IsM A (zfg ⟨23,k,[s.state,i]⟩ s).2.l 1 (zfg ⟨23,k,[s.state,i]⟩ s).1/\Ql s (zfg ⟨23,k,[s.state,i]⟩ s).2:=by
 obtain⟨a,b,_⟩:=MR Z h.i I.i j;have al:=Z.al;exact⟨h.put a,⟨b,yy h.i.wf (by rw[KI h.st.i I.i ac ac];decide) (by show ¬(23:Int)=3;decide) (yA h.st.m I.m)⟩,BT s (by show ¬(23:Int)=3;decide) (by show ¬(23:Int)=31;decide)⟩
theorem zyy(Z:CxOkU c)(h:LG c np A s){i v:Int}(I:IsM A s.l 1 i)(U:IsM A s.l 1 v){k:Nat}(j:k<c.arrays.length):LG c np A (zfg ⟨28,k,[s.state,i,v]⟩ s).2/\IsM A (zfg ⟨28,k,[s.state,i,v]⟩ s).2.l 2 (zfg ⟨28,k,[s.state,i,v]⟩ s).1/\Ql s (zfg ⟨28,k,[s.state,i,v]⟩ s).2:=by
 obtain⟨a,b,_⟩:=MT Z h.i I.i U.i j;have al:=Z.al;exact⟨h.put a,⟨b,yy h.i.wf (by rw[KL h.st.i I.i U.i ac ac];decide) (by show ¬(28:Int)=3;decide) (Nb h.st.m I.m U.m)⟩,BT s (by show ¬(28:Int)=3;decide) (by show ¬(28:Int)=31;decide)⟩
theorem zcO(h:LG c np A s){v:Int}(U:IsM A s.l 1 v):LG c np A (zfg ⟨29,0,[s.state,v]⟩ s).2/\IsM A (zfg ⟨29,0,[s.state,v]⟩ s).2.l 2 (zfg ⟨29,0,[s.state,v]⟩ s).1/\Ql s (zfg ⟨29,0,[s.state,v]⟩ s).2:=
 qB h (KK h.st.i U.i) aD (iu _ _ aD ff au aD aD aD aD) au au (yA h.st.m U.m)
theorem zcP(h:LG c np A s){v:Int}(U:IsM A s.l 2 v):LG c np A (zfg ⟨24,0,[v]⟩ s).2/\IsM A (zfg ⟨24,0,[v]⟩ s).2.l 1 (zfg ⟨24,0,[v]⟩ s).1/\Ql s (zfg ⟨24,0,[v]⟩ s).2:=
 qB h (KM U.i) aD (iu _ _ aD ff au aD aD aD aD) au au (yz U.m)
theorem zcQ(Z:CxOkU c)(h:LG c np A s){V:List Int}(o:∀a∈V,IsM A s.l 1 a){k:Nat}{f:Fu}(i:c.funcs[k]?=some f)(Y:V.length=f.params.length):LG c np A (zfg ⟨30,k,s.state::V⟩ s).2/\IsM A (zfg ⟨30,k,s.state::V⟩ s).2.l 2 (zfg ⟨30,k,s.state::V⟩ s).1/\Ql s (zfg ⟨30,k,s.state::V⟩ s).2:=by
 obtain⟨a,b,_⟩:=MU Z h.i (fun a h=>(o a h).i) i Y;have g:=Z.fl;have U:=Z.fp f (lJ i);have j:k<c.funcs.length:=by
  by_cases q:k<c.funcs.length
  .exact q
  .rw[gI ac]at i;cases i
 refine⟨h.put a,⟨b,yy h.i.wf (by rw[KN h.st.i (fun a h=>(o a h).i) ac ac ac];decide) (by show ¬(30:Int)=3;decide) fun q L=>?_⟩,BT s (by show ¬(30:Int)=3;decide) (by show ¬(30:Int)=31;decide)⟩;rcases eP.1 L with rfl|L
 .exact h.st.m
 .exact(o q L).m
end
theorem qC{c:Cx}(hc:CxOkU c){np:Nat}{A:Nat->Prop}:∀(n:Nat) (x:Ex) (s:Bd),XOk c x->x.sz<n->LG c np A s->∃r,ed c n x s=some r/\LG c np A r.2/\IsM A r.2.l 1 r.1/\Ql s r.2
 |0,x,s,hx,hd,hs=>by omega
 |n+1,x,s,hx,hd,hs=>by
  have z:=qC hc (np:=np) (A:=A) n;have hwf:=hx.wf;have L:=hx.df;have hrg:=(EV x).1 hx.rg;rw[Es,co,lS]at hwf;rw[Ev,co,ii]at L;have M:=hwf.2;have hsz:=x.sz_eq;unfold ed;by_cases e1:x.kind=1
  .rw[aq e1];obtain⟨a,b,d⟩:=yB hs hrg.1;exact⟨_,rfl,a,b,d⟩
  rw[af e1]at M⊢;by_cases e2:x.kind=2
  .rw[aq e2];have hn:zfE c.names x.name=true:=by have:=L.2;simp[e2]at this;exact this
   have O:cp c.names x.name<s.vars.length:=by rw[hs.i.vl];exact sZ hn
   rw[aR O,jh];exact⟨_,rfl,hs,hs.v _ (dI O),ux s⟩
  rw[af e2]at M⊢;by_cases e3:x.kind=3
  .rw[aq e3]at M⊢;simp only[iX]at M;have hn:zfE (c.arrays.map (·.name)) x.name=true:=by have:=L.2;simp[e3]at this;exact this
   have O:=sZ hn;rw[cO]at O;obtain⟨k,Z⟩:=mU x.kids (i:=0) ac;have hks:=yu Z;obtain⟨r,hr,C,V,r3⟩:=z k s (hx.kid Z) ac hs;rw[Z,b8,hr,b8,aR O,b8];have ha:=hc.a _ (dI O);generalize c.arrays[cp (c.arrays.map (·.name)) x.name]=ar at ha⊢;obtain⟨a1,a2⟩:=Nc C (n:=ar.len) ff V;obtain⟨J,I,K⟩:=zcM hc a1 (V.le (qk ar.len r.1 r.2).le.l) O;exact⟨_,rfl,J,I,r3.trans (a2.trans K)⟩
  rw[af e3]at M⊢;by_cases e5:x.kind=5
  .have e4:¬x.kind=4:=by omega
   rw[af e4,aq e5]at M;rw[aq e5];simp only[iX]at M;obtain⟨k,Z⟩:=mU x.kids (i:=0) ac;obtain⟨k1,j⟩:=mU x.kids (i:=1) ac;obtain⟨k2,U⟩:=mU x.kids (i:=2) ac;have hks:=MV Z j U;obtain⟨r,hr,o,m,g⟩:=z k s (hx.kid Z) ac hs;obtain⟨C,Y,q1,q2,q3⟩:=z k1 r.2 (hx.kid j) ac o;have l1:=zgg c n _ _ _ Y;obtain⟨V,hr2,t1,t2,t3⟩:=z k2 {C.2 with state:=r.2.state} (hx.kid U) ac (q1.setS (o.st.le l1.le.l));have l2:=zgg c n _ _ _ hr2;rw[Z,b8,hr,b8,j,b8,Y,b8,U,b8,hr2,b8];have pc:IsM A V.2.l 1 r.1:=(m.le l1.le.l).le l2.le.l;obtain⟨zfJ,m2,m3⟩:=vV t1 pc (q2.le l2.le.l) t2 (.inl rfl);have lm:=zg0 r.1 C.1 V.1 V.2;obtain⟨zgn,n2,n3⟩:=vV zfJ (pc.le lm.le.l) ((q1.st.le l2.le.l).le lm.le.l) zfJ.st (.inr rfl);have ln:=zg0 r.1 C.2.state (zfA r.1 C.1 V.1 V.2).2.state (zfA r.1 C.1 V.1 V.2).2;exact⟨_,rfl,zgn.setS n2,m2.le ln.le.l,(g.trans (q3.trans (t3.ofS.trans (m3.trans n3)))).setS _⟩
  rw[af e5]at M⊢;by_cases e4:x.kind=4
  .rw[aq e4]at M;simp only[co,oB,iB]at M;have hl:x.kids.length=2\/x.kids.length=1:=by rcases M.2 with h|h<;>omega
   obtain⟨k,Z⟩:=mU x.kids (i:=0) ac;have hks:=yu Z;obtain⟨r,hr,o,m,g⟩:=z k s (hx.kid Z) ac hs;rw[Z,b8,hr,b8];by_cases e6:x.kids.length=1
   .rw[aq e6];have ho:x.op=20\/x.op=21:=by
     rcases M.2 with h|h
     .omega
     .exact h.2
    obtain⟨a,b,d⟩:=qB o (KG m.i ho) aD (iu _ _ ac ff au ac ac ac ac) (by show x.op≠3;omega) (by show x.op≠31;omega) (yz m.m);exact⟨_,rfl,a,b,g.trans d⟩
   .rw[af e6];obtain⟨k1,j⟩:=mU x.kids (i:=1) ac;have hks2:=Fy Z j;obtain⟨C,Y,q1,q2,q3⟩:=z k1 r.2 (hx.kid j) ac o;have l1:=zgg c n _ _ _ Y;rw[j,b8,Y,b8];have ho:4<=x.op/\x.op<=18:=by
     rcases M.2 with h|h
     .have:=h.2;simp[tX]at this;exact this
     .omega
    have p2':=m.le l1.le.l;by_cases e7:x.op=7\/x.op=8
    .rw[aq e7];obtain⟨a1,a2⟩:=zcL q1 q2;have ld:=A0 C.1 C.2;obtain⟨J,I,K⟩:=BU a1 (p2'.le ld.le.l) (q2.le ld.le.l) (by omega:4<=x.op) ac;exact⟨_,rfl,J,I,g.trans (q3.trans (a2.trans K))⟩
    .rw[af e7];obtain⟨J,I,K⟩:=BU q1 p2' q2 (by omega:4<=x.op) ac;exact⟨_,rfl,J,I,g.trans (q3.trans K)⟩
  .rw[af e4]at M;simp at M
theorem Nf{c:Cx}(Z:CxOkU c){np n:Nat}{A:Nat->Prop}:∀(l:List Ex) (s:Bd),(∀x∈l,XOk c x)->zgR l<n->LG c np A s->∃r,nO c n l s=some r/\LG c np A r.2/\(∀a∈r.1,IsM A r.2.l 1 a)/\Ql s r.2
 |[],s,hx,hd,hs=>⟨_,rfl,hs,au,ux s⟩
 |x::l,s,hx,hd,hs=>by
  rw[zgR]at hd;obtain⟨r,hr,M,m,J⟩:=qC Z n x s (hx x dJ) ac hs;obtain⟨j,K,O,L,i⟩:=Nf (n:=n) Z l r.2 (fun y U=>hx y (dO _ U)) ac M;have V:=(qn c n _ _ _ K).1;refine⟨(r.1::j.1,j.2),Mw,O,fun a o=>?_,J.trans i⟩;rcases eP.1 o with rfl|o
  .exact m.le V.le.l
  .exact L a o
structure LP (s:Bd):Prop where
 l1:∀x∈s.l,x.op=31->0<=x.imm/\x.imm<s.loops
 l2:∀x∈s.l,∀y∈s.l,x.op=31->y.op=31->x.imm=y.imm->x=y
 l3:∀x∈s.l,x.op=3->0<=x.imm/\x.imm<16*s.loops
 l4:∀x∈s.l,∀y∈s.l,x.op=31->y.op=3->y.imm.tdiv 16=x.imm->y.imm.tmod 16<fu x.kids.length
structure Dl (s r:Bd):Prop where
 d:∀x∈r.l,x∈s.l\/((x.op=31->(s.loops:Int)<=x.imm)/\(x.op=3->16*(s.loops:Int)<=x.imm))
 n:s.loops<=r.loops
theorem Dl.refl(s:Bd):Dl s s:=⟨fun x h=>.inl h,aE _⟩
theorem Dl.trans{a b e:Bd}(h:Dl a b)(k:Dl b e):Dl a e:=⟨fun x C=>by
 have z:=h.n;rcases k.d x C with i|⟨i,g⟩
 .exact h.d x i
 .exact .inr ⟨fun q=>by have:=i q;omega,fun q=>by have:=g q;omega⟩,cJ h.n k.n⟩
theorem Ql.dl{s r:Bd}(h:Ql s r)(z:s.loops<=r.loops):Dl s r:=⟨fun x C=>(h.q x C).imp id fun q=>⟨fun e=>absurd e q.2,fun e=>absurd e q.1⟩,z⟩
theorem Ql.m31{s r:Bd}(h:Ql s r){x:Nd}(C:x∈r.l)(e:x.op=31):x∈s.l:=(h.q x C).elim id fun q=>absurd e q.2
theorem Ql.m3{s r:Bd}(h:Ql s r){x:Nd}(C:x∈r.l)(e:x.op=3):x∈s.l:=(h.q x C).elim id fun q=>absurd e q.1
theorem LP.ql{s r:Bd}(h:LP s)(q:Ql s r)(z:s.loops<=r.loops):LP r:=
 ⟨fun x C e=>by have:=h.l1 x (q.m31 C e) e;omega,fun x C y U ex i=>h.l2 x (q.m31 C ex) y (q.m31 U i) ex i,fun x C e=>by have:=h.l3 x (q.m3 C e) e;omega,fun x C y U ex i=>h.l4 x (q.m31 C ex) y (q.m3 U i) ex i⟩
theorem LP.setS{s:Bd}(h:LP s)(x:Int):LP {s with state:=x}:=⟨h.l1,h.l2,h.l3,h.l4⟩
theorem LP.setV{s:Bd}(h:LP s)(x:List Int):LP {s with vars:=x}:=⟨h.l1,h.l2,h.l3,h.l4⟩
theorem Dl.setS{s r:Bd}(h:Dl s r)(x:Int):Dl s {r with state:=x}:=⟨h.d,h.n⟩
theorem Dl.setV{s r:Bd}(h:Dl s r)(x:List Int):Dl s {r with vars:=x}:=⟨h.d,h.n⟩
theorem znJ(k a b:Int)(s:Bd)(z:Int):zfA k a b {s with state:=z}=((zfA k a b s).1,{ (zfA k a b s).2 with state:=z}):=by
 unfold zfA;split<;>rfl
section
variable {c:Cx} {np:Nat} {A:Nat -> Prop}
theorem Ng{k:Int}{a:List Int}:∀(m i:Nat) (s:Bd),LG c np A s->IsM A s.l 1 k->(∀y∈a,IsM A s.l 1 y)->a.length=c.names.length->i+m=c.names.length->∃r,lU k a m i s=some r/\LG c np A r/\Ql s r
 |0,i,s,h,_,_,_,_=>⟨s,rfl,h,ux s⟩
 |m+1,i,s,h,hk,ha,hl,hi=>by
  have V:=h.i.vl;have Z:i<a.length:=ac;have g:i<s.vars.length:=ac;unfold lU;rw[aR Z,b8,aR g,b8];obtain⟨zfJ,Y,K⟩:=vV h hk (ha _ (dI Z)) (h.v _ (dI g)) (.inl rfl);have lv:=zg0 k a[i] s.vars[i] s;obtain⟨r,e,C,j⟩:=Ng m (i+1) { (zfA k a[i] s.vars[i] s).2 with vars:=(zfA k a[i] s.vars[i] s).2.vars.set i (zfA k a[i] s.vars[i] s).1} (zfJ.setV (fun y U=>by
   rcases qt U with U|rfl
   .exact zfJ.v y U
   .exact Y) (by rw[jk];exact zfJ.i.vl)) (hk.le lv.le.l) (fun y U=>(ha y U).le lv.le.l) hl ac
  exact⟨r,e,C,K.trans ⟨j.q⟩⟩
def zib(k m:Nat)(s r:Bd):Prop:=∀x∈r.l,x∈s.l\/(x.op=3/\16*(k:Int)<=x.imm/\x.imm<16*(k:Int)+m)
theorem Nh{k m:Nat}(O:k<=15)(M:A k)(L:m<=16):∀(U:List Nat) (j:Nat) (s:Bd),LG c np A s->j+U.length+1<=m->LG c np A (ik (16*(k:Int)+1) U j s)/\zib k m s (ik (16*(k:Int)+1) U j s)
 |[],j,s,h,_=>⟨h,fun x C=>.inl C⟩
 |w::U,j,s,h,Y=>by
  rw[dg]at Y;have z:(16*(k:Int)+1+j).tmod 16=1+j:=by
   rw[BJ ac];omega
  have V:(16*(k:Int)+1+j).tdiv 16=k:=by
   rw[mo ac];omega
  have K:fd s.l ⟨3,16*(k:Int)+1+j,[]⟩=1:=by rw[Be ac ac,z,af ac]
  obtain⟨zfJ,I,g⟩:=zhy h.i (n:=⟨3,16*(k:Int)+1+j,[]⟩) K aD (iu _ _ aD ff au aD aD aD aD);have mm:zhl (zfg ⟨3,16*(k:Int)+1+j,[]⟩ s).2.l A (zfg ⟨3,16*(k:Int)+1+j,[]⟩ s).1:=BS h.i.wf (by rw[K];decide) (fun _=>by show A ((16*(k:Int)+1+j).tdiv 16).toNat;rw[V,gV];exact M) (fun j k Y=>by simp at Y);have J:=h.put zfJ;unfold ik;obtain⟨o,i⟩:=Nh O M L U (j+1) { (zfg ⟨3,16*(k:Int)+1+j,[]⟩ s).2 with vars:=(zfg ⟨3,16*(k:Int)+1+j,[]⟩ s).2.vars.set w (zfg ⟨3,16*(k:Int)+1+j,[]⟩ s).1} (J.setV (fun y Z=>by
   rcases qt Z with Z|rfl
   .exact J.v y Z
   .exact⟨I,mm⟩) Fm) ac
  refine⟨o,fun x C=>?_⟩;rcases i x C with C|C
  .rcases rv.1 C with C|rfl
   .exact .inl C
   .exact .inr ⟨rfl,by show 16*(k:Int)<=16*(k:Int)+1+j;omega,by show 16*(k:Int)+1+j<16*(k:Int)+m;omega⟩
  .exact .inr C
theorem Nk{lp k:Int}{old:List Int}{q:Nd}:∀(Z:List Nat) (j:Nat) (s:Bd),LG c np A s->IsM A s.l 3 lp->s.l[lp.toNat]?=some q->IsM A s.l 1 k->(∀y∈old,IsM A s.l 1 y)->(∀w∈Z,w<old.length)->1<=j->((j+Z.length:Nat):Int)<=fu q.kids.length->j+Z.length<=16 ->
 LG c np A (fB lp k old Z j s)/\Ql s (fB lp k old Z j s)
 |[],j,s,h,_,_,_,_,_,_,_,_=>⟨h,ux s⟩
 |w::Z,j,s,h,hlp,hq,hk,ho,hw,hj,hlv,h16=>by
  rw[dg]at hlv h16;have g:fd s.l ⟨25,j,[lp]⟩=1:=by rw[Bg hlp.i hq ac ac,af ac]
  obtain⟨zfJ,Y,V⟩:=qB h (n:=⟨25,j,[lp]⟩) g aD (iu _ _ aD ff au aD aD aD aD) au au (yz hlp.m);have M:=zgd ⟨25,j,[lp]⟩ s;have C:=hw w dJ;have I:old.getD w 0∈old:=My;obtain⟨zgn,O,L⟩:=vV zfJ (hk.le M.le.l) Y ((ho _ I).le M.le.l) (.inl rfl);have m:=M.trans (zg0 k (zfg ⟨25,j,[lp]⟩ s).1 (old.getD w 0) (zfg ⟨25,j,[lp]⟩ s).2);unfold fB;simp only[];generalize zfA k (zfg ⟨25,j,[lp]⟩ s).1 (old.getD w 0) (zfg ⟨25,j,[lp]⟩ s).2=z at *;have K:z.2.l[lp.toNat]?=some q:=by
   obtain⟨t,J⟩:=m.le.l;rw[<-J,je,hq];have:=hlp.i.hi;have:=hlp.i.lo;omega
  obtain⟨o,i⟩:=Nk (q:=q) (lp:=lp) (k:=k) (old:=old) Z (j+1) {z.2 with vars:=z.2.vars.set w z.1} (zgn.setV (fun y U=>by
   rcases qt U with U|rfl
   .exact zgn.v y U
   .exact O) (by rw[jk];exact zgn.i.vl)) (hlp.le m.le.l) K (hk.le m.le.l) (fun y U=>(ho y U).le m.le.l) (fun y U=>hw y (dO _ U)) ac ac ac
  exact⟨o,V.trans (L.trans ⟨i.q⟩)⟩
end
def FL(c:Cx)(np n:Nat):Prop:=∀A x s,SOk c x->2*x.sz<n->LG c np A s->LP s->s.loops+zgc x<=16->∃r,jH c n x s=some r/\LG c np A r/\LP r/\r.loops<=s.loops+zgc x/\Dl s r
def yC(c:Cx)(np n:Nat):Prop:=∀A l s,SsOk c l->2*zf0 l<n->LG c np A s->LP s->s.loops+zfQ l<=16->∃r,eC c n l s=some r/\LG c np A r/\LP r/\r.loops<=s.loops+zfQ l/\Dl s r
def FM(c:Cx)(np n:Nat):Prop:=∀A x s,SOk c x->x.kind=4->2*x.sz<=n->LG c np A s->LP s->s.loops+zgc x<=16->∃r,j6 c n x s=some r/\LG c np A r/\LP r/\r.loops<=s.loops+zgc x/\Dl s r
theorem zcT{c:Cx}{np k:Nat}{A:Nat->Prop}{r d:Bd}{U:List Nat}{dv:Int}(hk:k<=15)(hwl:U.length<=14)(hr:LG c np A r)(hd:LG c np (fun t=>A t\/t=k) d)(hv:IsM (fun t=>A t\/t=k) d.l 1 dv)(I:r.l<+:d.l)(m:∀i∈U,i<r.vars.length)(N:Nd)
 (Z:N=⟨31,k,r.state::(U.map fun i=>r.vars.getD i 0)++[dv,d.state]++U.map fun i=>d.vars.getD i 0⟩) :
 LG c np A { (zfg N d).2 with vars:=r.vars,state:=r.state} /\ IsM A (zfg N d).2.l 3 (zfg N d).1/\N.kids.length=2*U.length+3:=by
 have z:∀a∈U.map fun i=>r.vars.getD i 0,IsM A d.l 1 a:=fun a o=>by
  obtain⟨i,K,rfl⟩:=lc.1 o;rw[dd,aR (m i K)];exact(hr.v _ (dI _)).le I
 have hn:∀a∈U.map fun i=>d.vars.getD i 0,IsM (fun t=>A t\/t=k) d.l 1 a:=fun a o=>by
  obtain⟨i,K,rfl⟩:=lc.1 o;have:=m i K;have e1:=hd.i.vl;have e2:=hr.i.vl;rw[dd,aR (show i<d.vars.length by omega)];exact hd.v _ (dI _)
 have M:N.kids.length=2*U.length+3:=by rw[Z];simp;omega
 have hs:fd d.l N=3:=by
  rw[Z];exact KO (hr.st.i.le I) (fun a h=>(z a h).i) hv.i hd.st.i (fun a h=>(hn a h).i) au cC ac ac
 have J:N.op=31:=by rw[Z]
 have him:N.imm=k:=by rw[Z]
 have hp:NdP c np N:=by
  have:=iu c np (op:=31) (imm:=k) (kids:=N.kids) aD ff ac aD aD aD aD;rw[show N=⟨31,k,N.kids⟩ by rw[Z]];exact this
 obtain⟨k1,k2,_⟩:=zhy hd.i hs aD hp;have km:zhl (zfg N d).2.l A (zfg N d).1:=BS hd.i.wf (by rw[hs];decide) (fun e=>by rw[J]at e;cases e) (fun j q Y t O=>by
  by_cases c1:fu N.kids.length<=j
  .have V:q∈N.kids:=lJ Y;have hq:zhl d.l (fun t=>A t\/t=k) q:=by
    rw[Z]at V;simp only[pM,ly]at V;rcases V with((rfl|V)|rfl|rfl)|V
    .exact(hr.st.le I).m.mono fun _=>.inl
    .exact(z q V).m.mono fun _=>.inl
    .exact hv.m
    .exact hd.st.m
    .exact(hn q V).m
   rcases hq t O with h|h
   .exact .inl h
   .exact .inr ⟨J,c1,by rw[him,h,gV]⟩
  .rw[M,AB _ ac]at c1;have hlt:j<(r.state::(U.map fun i=>r.vars.getD i 0)).length:=cC;have V:q∈r.state::(U.map fun i=>r.vars.getD i 0):=by
    rw[Z]at Y;simp only at Y;rw[nu,je hlt]at Y;exact lJ Y
   rcases eP.1 V with rfl|V
   .exact .inl ((hr.st.le I).m t O)
   .exact .inl ((z q V).m t O))
 have lk:=(zgd N d).le.l;have g:IsM A (zfg N d).2.l 2 r.state:=(hr.st.le I).le lk;have C:∀y∈r.vars,IsM A (zfg N d).2.l 1 y:=fun y L=>((hr.v y L).le I).le lk;exact⟨⟨(k1.setV (fun y L=>(C y L).i) hr.i.vl).setS g.i,C,g⟩,⟨k2,km⟩,M⟩
theorem zcU{c:Cx}(hc:CxOkU c){np n:Nat}(IS:yC c np n):FM c np (n+1):=fun A x s hx hk hsz h hP hw=>by
 have hs:=x.sz_eq;have hw1:=sy x;rw[aq hk]at hw1;have hv:=hx.value (.inr (.inr (.inr (.inl hk))));unfold j6;obtain⟨r,hr,C,p2,p3⟩:=qC hc n x.value {s with loops:=s.loops+1} hv ac (h.setN _);have lr:=zgg c n _ _ _ hr;have hrn:r.2.loops=s.loops+1:=lr.n;obtain⟨b,hb,hbl⟩:=yw n x.thn (List.replicate r.2.vars.length false) hx.subs.1 ac (by rw[pZ];exact C.i.vl);rw[hr,b8,hb,b8];simp only[];have hwl:=Fz b;have hnl:=hc.nl;have hwm:∀i∈zgG b,i<r.2.vars.length:=fun i hi=>by have:=E7 hi;have:=C.i.vl;omega
 generalize zgG b=V at *;have hm:(16*(s.loops:Int)).tmod 16=0:=Fo;have hdv:(16*(s.loops:Int)).tdiv 16=s.loops:=by rw[mo ac];omega
 have hsq:fd r.2.l ⟨3,16*(s.loops:Int),[]⟩=2:=by rw[Be ac ac,hm,aq rfl]
 have p1':LG c np (fun t=>A t\/t=s.loops) r.2:=C.mono fun _=>.inl;obtain⟨q1,q2,_⟩:=zhy C.i (n:=⟨3,16*(s.loops:Int),[]⟩) hsq aD (iu _ _ aD ff au aD aD aD aD);have qm:zhl (zfg ⟨3,16*(s.loops:Int),[]⟩ r.2).2.l (fun t=>A t\/t=s.loops) (zfg ⟨3,16*(s.loops:Int),[]⟩ r.2).1:=BS C.i.wf (by rw[hsq];decide) (fun _=>.inr (by show((16*(s.loops:Int)).tdiv 16).toNat=_;rw[hdv,gV])) (fun j k hj=>by simp at hj);have qg:=p1'.put q1;have lq:=zgd ⟨3,16*(s.loops:Int),[]⟩ r.2;have vq:∀y∈(zfg ⟨3,16*(s.loops:Int),[]⟩ r.2).2.l,y∈r.2.l\/(y.op=3/\y.imm=16*(s.loops:Int)):=fun y U=>by
  rcases rv.1 U with U|rfl
  .exact .inl U
  .exact .inr ⟨rfl,rfl⟩
 generalize zfg ⟨3,16*(s.loops:Int),[]⟩ r.2=q at *;obtain⟨u1,u2⟩:=Nh (k:=s.loops) (m:=V.length+1) (A:=fun t=>A t\/t=s.loops) ac (.inr rfl) ac V 0 {q.2 with state:=q.1} (qg.setS ⟨q2,qm⟩) ac;have lu:=pA (16*(s.loops:Int)+1) V 0 {q.2 with state:=q.1};generalize ik (16*(s.loops:Int)+1) V 0 {q.2 with state:=q.1}=u at *;have hun:u.loops=s.loops+1:=Mz
 -- what is in u: nodes of s,quiet ones,variables of this loop
 have hu:∀y∈u.l,y∈s.l\/(y.op≠3/\y.op≠31)\/(y.op=3/\16*(s.loops:Int)<=y.imm/\y.imm<16*(s.loops:Int)+(V.length+1:Nat)):=fun y U=>by
  rcases u2 y U with U|U
  .rcases vq y U with U|⟨e1,M⟩
   .rcases p3.q y U with U|U
    .exact .inl U
    .exact .inr (.inl U)
   .exact .inr (.inr ⟨e1,ac,ac⟩)
  .exact .inr (.inr U)
 have O:∀y∈u.l,y.op=31->y∈s.l:=fun y U e=>by
  rcases hu y U with Z|Z|Z
  .exact Z
  .exact absurd e Z.2
  .rw[Z.1]at e;cases e
 have uP:LP u:=by
  refine⟨fun y U e=>?_,fun y U z I L K=>hP.l2 y (O y U L) z (O z I K) L K,fun y U e=>?_,fun y U z I L K e=>?_⟩
  .have:=hP.l1 y (O y U e) e;omega
  .rcases hu y U with Z|Z|Z
   .have:=hP.l3 y Z e;omega
   .exact absurd e Z.1
   .omega
  .rcases hu z I with Z|Z|Z
   .exact hP.l4 y (O y U L) z Z L K e
   .exact absurd K Z.1
   .have:=hP.l1 y (O y U L) L;rw[mo ac]at e;omega
 obtain⟨t,ht,t1,tP,t2,t3⟩:=IS _ x.thn u hx.subs.1 ac u1 uP ac;have lt:=(kR c n).2.1 _ _ _ ht;rw[ht,b8];obtain⟨d,hd,d1,d2,d3⟩:=qC hc n x.value t hv ac t1;have ld:=zgg c n _ _ _ hd;have dP:=tP.ql d3 (by rw[ld.n];exact aE _);rw[hd,b8];have le1:zgy r.2 d.2:=(lq.le.setS q.1).trans (lu.1.trans (lt.1.trans ld.le));have tn:=t3.n;have hdn:s.loops+1<=d.2.loops:=by rw[ld.n];omega
 -- what is in d
 have o:∀y∈d.2.l,y.op=31->y∈s.l\/(s.loops:Int)+1<=y.imm:=fun y U e=>by
  rcases t3.d y (d3.m31 U e)with Z|Z
  .exact .inl (O y Z e)
  .have:=Z.1 e;exact .inr ac
 have hd3:∀y∈d.2.l,y.op=3->y∈s.l\/(16*(s.loops:Int)<=y.imm/\y.imm<16*(s.loops:Int)+(V.length+1:Nat))\/16*((s.loops:Int)+1)<=y.imm:=fun y U e=>by
  rcases t3.d y (d3.m3 U e)with Z|Z
  .rcases hu y Z with Z|Z|Z
   .exact .inl Z
   .exact absurd e Z.1
   .exact .inr (.inl Z.2)
  .have:=Z.2 e;exact .inr (.inr ac)
 obtain⟨g1,g2,hkl⟩:=zcT (k:=s.loops) (dv:=d.1) ac ac C d1 d2 le1.l hwm ⟨31,s.loops,r.2.state::(V.map fun i=>r.2.vars.getD i 0)++[d.1,d.2.state]++V.map fun i=>d.2.vars.getD i 0⟩ rfl;have hop:(⟨31,s.loops,r.2.state::(V.map fun i=>r.2.vars.getD i 0)++[d.1,d.2.state]++V.map fun i=>d.2.vars.getD i 0⟩:Nd).op=31:=rfl;have him:(⟨31,s.loops,r.2.state::(V.map fun i=>r.2.vars.getD i 0)++[d.1,d.2.state]++V.map fun i=>d.2.vars.getD i 0⟩:Nd).imm=s.loops:=rfl;have lk:=zgd ⟨31,s.loops,r.2.state::(V.map fun i=>r.2.vars.getD i 0)++[d.1,d.2.state]++V.map fun i=>d.2.vars.getD i 0⟩ d.2;generalize (⟨31,s.loops,r.2.state::(V.map fun i=>r.2.vars.getD i 0)++[d.1,d.2.state]++V.map fun i=>d.2.vars.getD i 0⟩:Nd)=N at *;have hq:(zfg N d.2).2.l[(zfg N d.2).1.toNat]?=some N:=EM _ _;have Y:∀y∈(zfg N d.2).2.l,y∈d.2.l\/y=N:=fun y U=>rv.1 U;have zgM:(zfg N d.2).2.loops=d.2.loops:=rfl;generalize zfg N d.2=k at *;have hlv:fu (2*V.length+3:Nat)=((V.length+1:Nat):Int):=xy;have g:∀y∈d.2.l,y.op=31->y.imm≠s.loops:=fun y U e M=>by
  rcases o y U e with Z|Z
  .have:=hP.l1 y Z e;omega
  .omega
 have kP:LP k.2:=by
  refine⟨fun y U e=>?_,fun y U z I L K e=>?_,fun y U e=>?_,fun y U z I L K e=>?_⟩
  .rcases Y y U with U|rfl
   .have:=dP.l1 y U e;omega
   .omega
  .rcases Y y U with U|rfl
   .rcases Y z I with I|rfl
    .exact dP.l2 y U z I L K e
    .exact absurd (e.trans him) (g y U L)
   .rcases Y z I with I|rfl
    .exact absurd (e.symm.trans him) (g z I K)
    .rfl
  .rcases Y y U with U|rfl
   .have:=dP.l3 y U e;omega
   .rw[hop]at e;cases e
  .rcases Y z I with I|rfl
   .rcases Y y U with U|rfl
    .exact dP.l4 y U z I L K e
    .rw[hkl,hlv];rcases hd3 z I K with Z|Z|Z
     .have:=hP.l3 z Z K;rw[mo ac]at e;omega
     .rw[BJ ac];omega
     .rw[mo ac]at e;omega
   .rw[hop]at K;cases K
 have kD:Dl s k.2:=by
  refine⟨fun y U=>?_,ac⟩;rcases Y y U with U|rfl
  .by_cases e:y.op=31
   .rcases o y U e with Z|Z
    .exact .inl Z
    .exact .inr ⟨fun _=>ac,fun M=>by rw[e]at M;cases M⟩
   .by_cases e3:y.op=3
    .rcases hd3 y U e3 with Z|Z|Z
     .exact .inl Z
     .exact .inr ⟨fun M=>absurd M e,fun _=>ac⟩
     .exact .inr ⟨fun M=>absurd M e,fun _=>ac⟩
    .exact .inr ⟨fun M=>absurd M e,fun M=>absurd M e3⟩
  .exact .inr ⟨fun _=>ac,fun M=>by rw[hop]at M;cases M⟩
 -- the nodes behind it
 have hlr:fd k.2.l ⟨25,0,[k.1]⟩=2:=by rw[Bg (n:=0) g2.i hq ac (by rw[hkl,hlv];omega),aq rfl]
 obtain⟨f1,f2,f3⟩:=qB g1 (n:=⟨25,0,[k.1]⟩) hlr aD (iu _ _ aD ff au aD aD aD aD) au au (yz g2.m);have lf:=zgd ⟨25,0,[k.1]⟩ {k.2 with vars:=r.2.vars,state:=r.2.state};have ef:zfg ⟨25,0,[k.1]⟩ {k.2 with vars:=r.2.vars}=((zfg ⟨25,0,[k.1]⟩ {k.2 with vars:=r.2.vars,state:=r.2.state}).1,{ (zfg ⟨25,0,[k.1]⟩ {k.2 with vars:=r.2.vars,state:=r.2.state}).2 with state:=k.2.state}):=rfl;rw[ef];generalize zfg ⟨25,0,[k.1]⟩ {k.2 with vars:=r.2.vars,state:=r.2.state}=f at *;have J:r.2.l<+:f.2.l:=(le1.l.trans lk.le.l).trans lf.le.l;obtain⟨zfJ,m2,m3⟩:=vV f1 (p2.le J) f2 (C.st.le J) (.inr rfl);have lm:=zg0 r.1 f.1 r.2.state f.2;simp only[znJ];generalize zfA r.1 f.1 r.2.state f.2=m at *;have lkm:k.2.l<+:m.2.l:=lf.le.l.trans lm.le.l;have hqm:m.2.l[k.1.toNat]?=some N:=by
  obtain⟨z,I⟩:=lkm;rw[<-I,je,hq];have:=g2.i.hi;have:=g2.i.lo;omega
 obtain⟨z1,z2⟩:=Nk (lp:=k.1) (k:=r.1) (old:=r.2.vars) V 1 {m.2 with state:=m.1} (zfJ.setS m2) (g2.le lkm) hqm (p2.le (J.trans lm.le.l)) (fun y U=>(C.v y U).le (J.trans lm.le.l)) hwm (aE _) (by rw[hkl,hlv];omega) ac;have lz:=rx k.1 r.1 r.2.vars V 1 {m.2 with state:=m.1};have hzn:(fB k.1 r.1 r.2.vars V 1 {m.2 with state:=m.1}).loops=d.2.loops:=by
  rw[lz.2.2.2];show m.2.loops=_;rw[lm.n,lf.n];exact zgM
 have qz:Ql k.2 (fB k.1 r.1 r.2.vars V 1 {m.2 with state:=m.1}):=(Ql.mk f3.q:Ql k.2 f.2).trans (m3.trans ⟨z2.q⟩);have hkz:k.2.loops<=(fB k.1 r.1 r.2.vars V 1 {m.2 with state:=m.1}).loops:=by rw[hzn,zgM];exact aE _
 have hzb:(fB k.1 r.1 r.2.vars V 1 {m.2 with state:=m.1}).loops<=s.loops+zgc x:=by rw[hzn,ld.n];omega
 exact⟨_,rfl,z1,kP.ql qz hkz,hzb,kD.trans (qz.dl hkz)⟩
theorem zcV{c:Cx}(O:CxOkU c){np n:Nat}(IS:yC c np n)(IW:FM c np n):FL c np (n+1):=fun A x s C hsz h hP hw=>by
 have hs:=x.sz_eq;have hw1:=sy x;have hkd:=C.kd;unfold jH;by_cases k1:x.kind=1
 .rw[aq k1];obtain⟨r,hr,M,K,J⟩:=qC O n x.value s (C.value (.inl k1)) ac h;have Y:=zgg c n _ _ _ hr;have hn:=C.name (.inl k1);have hvl:=M.i.vl;rw[hr,b8,aq ac];exact⟨_,rfl,M.setV (fun y U=>by
   rcases qt U with U|rfl
   .exact M.v y U
   .exact K) (by rw[jk];exact hvl),(hP.ql J (jF Y.n.symm)).setV _,by show r.2.loops<=_;rw[Y.n];omega,(J.dl (jF Y.n.symm)).setV _⟩
 rw[af k1];by_cases k2:x.kind=2
 .rw[aq k2];obtain⟨r,hr,M,K,J⟩:=qC O n x.at_ s (C.at_ k2) ac h
  obtain⟨v,hv,q1,q2,q3⟩:=qC O n x.value r.2 (C.value (.inr (.inl k2))) ac M;have Y:=zgg c n _ _ _ hr;have lv:=zgg c n _ _ _ hv;have hlt:=C.arr k2;rw[hr,b8,hv,b8,aR hlt,b8];have ha:=O.a _ (dI hlt);generalize c.arrays[cp (c.arrays.map (·.name)) x.name]=ar at ha⊢;have p2':=K.le lv.le.l;obtain⟨o,a2⟩:=Nc q1 (n:=ar.len) ff p2';have zfH:=qk ar.len r.1 v.2;obtain⟨V,I,j⟩:=zyy O o (p2'.le zfH.le.l) (q2.le zfH.le.l) hlt;have Z:=J.trans (q3.trans (a2.trans j));have L:(eK ar.len r.1 v.2).loops=s.loops:=by rw[zfH.n,lv.n,Y.n]
  exact⟨_,rfl,V.setS I,(hP.ql Z M4).setS _,by show(eK ar.len r.1 v.2).loops<=_;omega,(Z.dl M4).setS _⟩
 rw[af k2];by_cases k3:x.kind=3
 .rw[aq k3];rw[af ac]at hw1;obtain⟨r,hr,M,K,J⟩:=qC O n x.value s (C.value (.inr (.inr (.inl k3)))) ac h;have Y:=zgg c n _ _ _ hr;have hrn:=Y.n;have rP:=hP.ql J (jF hrn.symm);obtain⟨a,ha,o,aP,a2,a3⟩:=IS A x.thn r.2 C.subs.1 ac M rP ac;have la:=(kR c n).2.1 _ _ _ ha;have hal:a.vars.length=c.names.length:=o.i.vl;obtain⟨b,hb,V,bP,I,j⟩:=IS A x.els {a with state:=r.2.state,vars:=r.2.vars} C.subs.2 ac ((o.setS (M.st.le la.1.l)).setV (fun y U=>(M.v y U).le la.1.l) M.i.vl) ⟨aP.l1,aP.l2,aP.l3,aP.l4⟩ (by show a.loops+_<=_;omega);have lb:=(kR c n).2.1 _ _ _ hb;have lab:a.l<+:b.l:=lb.1.l;have kb:IsM A b.l 1 r.1:=(K.le la.1.l).le lab;have hbl:=V.i.vl;obtain⟨m,hm,zfJ,m2⟩:=Ng (k:=r.1) (a:=a.vars) b.vars.length 0 b V kb (fun y U=>(o.v y U).le lab) hal ac;have lm:=sM _ _ _ _ _ _ hm;rw[hr,b8,ha,b8,hb,b8,hm,b8];obtain⟨t1,t2,t3⟩:=vV zfJ (kb.le lm.1.l) ((o.st.le lab).le lm.1.l) zfJ.st (.inr rfl);have lt:=zg0 r.1 a.state m.state m;have hbn:(zfA r.1 a.state m.state m).2.loops=b.loops:=by rw[lt.n,lm.2.2.2]
  have Z:=m2.trans t3;have b2':b.loops<=a.loops+zfQ x.els:=I;have dab:Dl a b:=⟨j.d,j.n⟩;exact⟨_,rfl,t1.setS t2,(bP.ql Z (jF hbn.symm)).setS _,by show(zfA r.1 a.state m.state m).2.loops<=_;omega,((J.dl (jF hrn.symm)).trans (a3.trans (dab.trans (Z.dl (jF hbn.symm))))).setS _⟩
 rw[af k3];by_cases k4:x.kind=4
 .rw[aq k4];exact IW A x s C k4 ac h hP hw
 rw[af k4];by_cases k5:x.kind=5
 .rw[aq k5];obtain⟨r,hr,M,K,J⟩:=qC O n x.value s (C.value (.inr (.inr (.inr (.inr k5))))) ac h;have Y:=zgg c n _ _ _ hr;have hrn:=Y.n;rw[hr,b8];obtain⟨V,I,j⟩:=zcO M K;have Z:=J.trans j;exact⟨_,rfl,V.setS I,(hP.ql Z (by show s.loops<=r.2.loops;omega)).setS _,by show r.2.loops<=_;omega,(Z.dl (by show s.loops<=r.2.loops;omega)).setS _⟩
 rw[af k5];by_cases k6:x.kind=6
 .rw[aq k6];obtain⟨r,hr,M,K,J⟩:=Nf O (n:=n) x.args s C.args ac h;obtain⟨Y,hlr⟩:=qn c n _ _ _ hr;obtain⟨c1,c2⟩:=C.call k6;obtain⟨i,hi,hfe⟩:=Ey c.funcs x.to 0 c1;obtain⟨f,hfn⟩:=mU c.funcs hi;have g:zgz c.funcs x.to 0=(i:Int):=by simpa using hfe
  have hn:=C.name (.inr k6);have hvl:=M.i.vl;have hpar:r.1.length=f.params.length:=by
   rw[hlr,c2,py,g,gV,hfn];rfl
  rw[hr,b8,aq ⟨c1,ac⟩];simp only[];rw[g];obtain⟨V,I,j⟩:=zcQ O M K hfn hpar;have lb:=zgd ⟨30,i,r.2.state::r.1⟩ r.2;generalize zfg ⟨30,i,r.2.state::r.1⟩ r.2=z at *;obtain⟨d1,d2,d3⟩:=zcP (V.setS I) I;have ld:=zgd ⟨24,0,[z.1]⟩ {z.2 with state:=z.1};generalize zfg ⟨24,0,[z.1]⟩ {z.2 with state:=z.1}=w at *;have Z:Ql s w.2:=J.trans (j.trans d3.ofS);have L:w.2.loops=s.loops:=by rw[ld.n];show z.2.loops=_;rw[lb.n,Y.n]
  refine⟨_,rfl,d1.setV (fun y U=>?_) (by rw[jk];exact d1.i.vl),(hP.ql Z (jF L.symm)).setV _,by show w.2.loops<=_;omega,(Z.dl (jF L.symm)).setV _⟩;rcases qt U with U|rfl
  .exact d1.v y U
  .exact d2
 rw[af k6];by_cases k7:x.kind=7
 .rw[aq k7];have ht:=C.trap k7;have hw:cu (16+x.n)=16+x.n:=zhb ac ac;rw[hw];obtain⟨o,a2,a3⟩:=yB h (n:=0) ff;obtain⟨V,I⟩:=FK o (t:=16+x.n) a2 ac ac;have lb:=qj (16+x.n) (zfg ⟨1,0,[]⟩ s).1 (zfg ⟨1,0,[]⟩ s).2;have L:(my (16+x.n) (zfg ⟨1,0,[]⟩ s).1 (zfg ⟨1,0,[]⟩ s).2).loops=s.loops:=lb.n;have Z:=a3.trans I;exact⟨_,rfl,V,hP.ql Z (jF L.symm),ac,Z.dl (jF L.symm)⟩
 .omega
theorem zcW{c:Cx}{np n:Nat}(Z:FL c np n)(M:yC c np n):yC c np (n+1):=fun A l s L O h V Y=>by
 cases l with
 |nil=>exact⟨s,by unfold eC;rfl,h,V,ac,Dl.refl s⟩
 |cons x l=>
  obtain⟨C,L⟩:=L.cons;rw[zf0]at O;rw[zfQ]at Y⊢;unfold eC;simp only[];obtain⟨r,hr,U,m,z,J⟩:=Z A x s C ac h V ac;obtain⟨t,K,I,j,o,i⟩:=M A l r L ac U m ac;rw[hr,b8,K];exact⟨t,rfl,I,j,ac,J.trans i⟩
theorem Nl{c:Cx}(Z:CxOkU c){np:Nat}:∀n:Nat,FL c np n/\yC c np n/\FM c np n
 |0=>⟨fun A x s _ h=>ac,fun A l s _ h=>ac,fun A x s C _ h=>by have:=x.sz_eq;omega⟩
 |n+1=>by
  obtain⟨a,b,d⟩:=Nl Z (np:=np) n;exact⟨zcV Z b d,zcW a b,zcU Z b⟩
section
variable {A:List Ar} {F:List Fu} {np:Nat} {B:Nat -> Prop}
theorem LG.names{N m:List zfD}{s:Bd}(h:LG ⟨A,F,N⟩ np B s)(L:m.length=N.length):LG ⟨A,F,m⟩ np B s:=⟨h.i.names L,h.v,h.st⟩
theorem LG.push{N m:List zfD}{s:Bd}(h:LG ⟨A,F,N⟩ np B s){x:Int}(C:IsM B s.l 1 x)(L:m.length=N.length+1):LG ⟨A,F,m⟩ np B {s with vars:=s.vars++[x] }:=
 ⟨h.i.push C.i L,fun y U=>by
  rcases pM.1 U with U|U
  .exact h.v y U
  .simp only[ly]at U;subst U;exact C,h.st⟩
theorem Nm(Y:np<=6):∀(m k:Nat) (s:Bd) (N Z:List zfD),LG ⟨A,F,N⟩ np B s->Z.length=N.length+m->k+m<=np->LG ⟨A,F,Z⟩ np B (il m k s)/\Ql s (il m k s)
 |0,k,s,N,Z,h,hl,_=>⟨h.names hl,ux s⟩
 |m+1,k,s,N,Z,h,hl,hk=>by
  have V:fd s.l ⟨2,k,[]⟩=1:=KD ac ac;obtain⟨C,K,M⟩:=qB h (n:=⟨2,k,[]⟩) V aD ⟨by show 0<=(2:Int)/\(2:Int)<256;decide,yk,by show 0<=40;decide,fun _=>by show(k:Int)<np;omega,fun e=>by rcases e with e|e<;>exact absurd e (by show ¬(2:Int)=_;decide),fun e=>absurd e (by show ¬(2:Int)=30;decide)⟩ au au au;obtain⟨J,I⟩:=Nm Y m (k+1) { (zfg ⟨2,k,[]⟩ s).2 with vars:=(zfg ⟨2,k,[]⟩ s).2.vars++[(zfg ⟨2,k,[]⟩ s).1] } ([]::N) Z (C.push K rfl) BQ ac;exact⟨J,M.trans ⟨I.q⟩⟩
theorem Nn:∀(m:Nat) (s:Bd) (N Z:List zfD),LG ⟨A,F,N⟩ np B s->Z.length=N.length+m->LG ⟨A,F,Z⟩ np B (j7 m s)/\Ql s (j7 m s)
 |0,s,N,Z,h,hl=>⟨h.names hl,ux s⟩
 |m+1,s,N,Z,h,hl=>by
  obtain⟨C,K,M⟩:=yB h (n:=0) ff;obtain⟨J,I⟩:=Nn m { (zfg ⟨1,0,[]⟩ s).2 with vars:=(zfg ⟨1,0,[]⟩ s).2.vars++[(zfg ⟨1,0,[]⟩ s).1] } ([]::N) Z (C.push K rfl) BQ;exact⟨J,M.trans ⟨I.q⟩⟩
theorem zyz:LG ⟨A,F,[]⟩ np B { (zfg ⟨26,0,[]⟩ ⟨[],[],0,0⟩).2 with state:=(zfg ⟨26,0,[]⟩ ⟨[],[],0,0⟩).1}:=by
 have h:=FH (A:=A) (F:=F) (np:=np);refine⟨h,(fun y U=>by cases U),h.st,?_⟩;exact yy (l:=[]) (n:=⟨26,0,[]⟩) (fun i I=>by simp at I) (by rw[KE];decide) au au
end
theorem No{p:Pr}(h:PrIn p){f:Fu}(Z:f∈p.funcs)(B:Nat->Prop):LG (jI p f) f.params.length B (zhn f)/\LP (zhn f)/\(zhn f).loops=0:=by
 obtain⟨_,_,_,O⟩:=h.lim;obtain⟨l1,m,j⟩:=O f Z;have o:=zyz (A:=p.arrays) (F:=p.funcs) (np:=f.params.length) (B:=B);obtain⟨Y,K⟩:=Nm l1 f.params.length 0 _ [] f.params o au ac;obtain⟨J,I⟩:=Nn f.locals.length _ f.params (f.params++f.locals) Y FC;have c1:=FH (A:=p.arrays) (F:=p.funcs) (np:=f.params.length);obtain⟨V,M,_⟩:=FF l1 f.params.length 0 _ [] f.params c1 au ac;obtain⟨_,z,_⟩:=FG f.locals.length _ f.params (f.params++f.locals) V FC;have L:∀x∈(zhn f).l,x.op≠3/\x.op≠31:=fun x C=>by
  rcases(K.trans I).q x C with i|i
  .rcases(rv (l:=[]) (n:=⟨26,0,[]⟩)).1 i with g|rfl
   .cases g
   .exact⟨au,au⟩
  .exact i
 exact⟨J,⟨fun x C e=>absurd e (L x C).2,fun x C y U e=>absurd e (L x C).2,fun x C e=>absurd e (L x C).1,fun x C y U e=>absurd e (L x C).2⟩,z.trans M⟩
theorem FN{p:Pr}(h:PrIn p){n:Nat}(g:2*p.sz<n){f:Fu}(i:f∈p.funcs):
 ∃s v,eC (jI p f) n f.body (zhn f)=some s/\ed (jI p f) n f.value s=some v/\LG (jI p f) f.params.length (fun _=>False) v.2/\IsM (fun _=>False) v.2.l 1 v.1/\LP v.2/\v.2.loops<=zfQ f.body:=by
 obtain⟨_,_,_,O⟩:=h.lim;obtain⟨l1,l2,l3⟩:=O f i;obtain⟨o,U⟩:=h.body i;have hc:=h.cx i;have J:=pY i;have I:p.sz=1+jC p.arrays+ig p.funcs:=rfl;have z:f.sz=1+f.name.length+zgU f.params+zgU f.locals+zf0 f.body+f.value.sz:=rfl;obtain⟨m,Y,g3⟩:=No h i fun _=>False
 obtain⟨s,Z,L,j,q3,q4⟩:=(Nl hc (np:=f.params.length) n).2.1 _ f.body (zhn f) o ac m Y ac;obtain⟨v,C,V,M,K⟩:=qC hc n f.value s U ac L;have lv:=zgg _ n _ _ _ C;exact⟨s,v,Z,C,V,M,j.ql K (jF lv.n.symm),by rw[lv.n];omega⟩
theorem FO:∀(l:List Nd) (t:List Int),l.Nodup->(∀x∈l,x.op=31->0<=x.imm/\x.imm<16)->(∀x∈l,∀y∈l,x.op=31->y.op=31->x.imm=y.imm->x=y)->(∀x∈l,x.op=31->t.getD x.imm.toNat 0<=0)->t.length=16 ->
 ∃Z,kL l t=some Z/\∀k:Nat,0<Z.getD k 0->(Z.getD k 0=t.getD k 0)\/∃x∈l,x.op=31/\x.imm=k/\Z.getD k 0=fu x.kids.length
 |[],t,_,_,_,_,_=>⟨t,rfl,fun k _=>.inl rfl⟩
 |n::l,t,hnd,h0,h1,h2,hl=>by
  rw[ub]at hnd;have o:=fun x C=>h0 x (dO n C);have L:∀x∈l,∀y∈l,x.op=31->y.op=31->x.imm=y.imm->x=y:=fun x C y V=>h1 x (dO n C) y (dO n V);rw[kL];by_cases c:n.op=31
  .have I:=h2 n dJ c;have hr:=h0 n dJ c;rw[aq c,af ac];have U:∀k:Nat,(t.set n.imm.toNat (fu n.kids.length)).getD k 0=if n.imm.toNat=k then fu n.kids.length else t.getD k 0:=fun k=>by
    rw[dd,mL,dd];split
    .rw[aq ac];rfl
    .rfl
   obtain⟨Z,e,Y⟩:=FO l (t.set n.imm.toNat (fu n.kids.length)) hnd.2 o L (fun x C e=>by
    have z:=o x C e;rw[U,af (fun q=>hnd.1 (by rw[h1 n dJ x (dO n C) c e ac];exact C))];exact h2 x (dO n C) e) (by rw[jk];exact hl)
   refine⟨Z,e,fun k j=>?_⟩;rcases Y k j with m|⟨x,C,m⟩
   .rw[U]at m;split at m
    .exact .inr ⟨n,dJ,c,ac,m⟩
    .exact .inl m
   .exact .inr ⟨x,dO n C,m⟩
  .rw[af c];obtain⟨Z,e,Y⟩:=FO l t hnd.2 o L (fun x C=>h2 x (dO n C)) hl;refine⟨Z,e,fun k j=>?_⟩;rcases Y k j with m|⟨x,C,m⟩
   .exact .inl m
   .exact .inr ⟨x,dO n C,m⟩
theorem zkk{s:Bd}(V:LP s)(Z:s.l.Nodup)(z:s.loops<=16):zhV s.l=true:=by
 have I:∀k:Nat,(List.replicate 16 (0:Int)).getD k 0=0:=fun k=>by
  rw[dd,tU];split<;>rfl
 obtain⟨t,e,O⟩:=FO s.l (List.replicate 16 0) Z (fun x C e=>by have:=V.l1 x C e;omega) V.l2 (fun x C e=>by rw[I];exact Int.le_refl _) rfl;unfold zhV;rw[e];simp only;rw[gF];intro y U;unfold AI;by_cases c:y.op=3
 .have m:=V.l3 y U c;by_cases Y:0<t.getD (y.imm.tdiv 16).toNat 0
  .rcases O _ Y with M|⟨x,C,ex,L,K⟩
   .rw[M,I]at Y;omega
   .have:=V.l4 x C y U ex c (by rw[L];have:=D2 m.1 (show(0:Int)<=16 by omega);omega);rw[K];rw[d6 (show ¬fu x.kids.length<=y.imm.tmod 16 by omega),p7];rfl
  .rw[d6 Y,p7,eJ];rfl
 .rw[d6 c,eJ,eJ];rfl
theorem zhl.zero{l:List Nd}{k:Int}(h:zhl l (fun _=>False) k):zhk l k=0:=
 D3 fun t=>by
  rw[xz];cases e:(zhk l k).testBit t with
  |false=>rfl
  |true=>exact(h t e).elim
namespace tyV7
end tyV7
open tyV7
def hM(g:Gr):Fu:=⟨g.name,[],[],[],.mk 1 0 [] 0 []⟩
def fM(u:Un):Pr:=⟨u.arrays,u.funcs.map hM⟩
def mD(u:Un):Bool:=decide (zhj (fM u)=0)&&u.funcs.all (kQ u)
structure UnOk (u:Un):Prop where
 a:u.arrays.length<2^30
 f:u.funcs.length<2^30
 g:∀g∈u.funcs,kK g.nodes
 z:(fM u).sz<2^36
end
section
theorem Np:∀(l:List Nd) (seen:List (List UInt8)),l.Nodup->(∀x∈l,NdR x)->(∀x∈l,zfE seen (zgZ x)=false)->zfW seen (l.map zgZ)=false
 |[],_,_,_,_=>rfl
 |a::l,seen,hnd,hr,hs=>by
  rw[ub]at hnd;rw[dE,zfW,hs a dJ,gH];refine Np l _ hnd.2 (fun x C=>hr x (dO _ C)) fun x C=>?_;have e:zfE (seen++[zgZ a]) (zgZ x)=(zfE seen (zgZ x)||zfE [zgZ a] (zgZ x)):=by unfold zfE;rw[xO]
  rw[e,hs x (dO _ C),gH];have Z:zfE [zgZ a] (zgZ x)=decide (zgZ a=zgZ x):=by simp[zfE]
  rw[Z,i4];exact fun m=>hnd.1 (by rw[Km (hr a dJ) (hr x (dO _ C)) m];exact C)
theorem Nq{l:List Nd}(V:l.Nodup)(hr:∀x∈l,NdR x):sJ l=true:=by
 unfold sJ;rw[Np l [] V hr fun x _=>rfl];rfl
theorem zcZ{p:Pr}(h:PrIn p)(hz:p.sz<2^30){n:Nat}(z:2*p.sz<n){f:Fu}(O:f∈p.funcs){g:Gr}(Z:iL p n f=some g)(L:g.nodes.length<=2000){u:Un}(ha:u.arrays.length=p.arrays.length)(C:u.funcs.map Gr.params=p.funcs.map fun f=>(f.params.length:Int)):kQ u g=true:=by
 obtain⟨_,_,_,h4⟩:=h.lim;obtain⟨l1,l2,l3⟩:=h4 f O;obtain⟨s,v,e1,e2,m,Y,gP,gn⟩:=FN h z O;have o:g=⟨f.name,f.params.length,v.2.l,v.1,v.2.state⟩:=by
  unfold iL at Z;rw[e1,b8,e2,b8]at Z;exact(Option.some.inj Z).symm
 subst o;simp only at L;have j:=m.i.fin ac ac;have ok:((List.range v.2.l.length).all (vt u ⟨f.name,f.params.length,v.2.l,v.1,v.2.state⟩))=true:=by
  rw[gF];intro i I;rw[kZ]at I;have hx:v.2.l[i]?=some v.2.l[i]:=aR I;have hm:v.2.l[i]∈v.2.l:=dI I;have hw:=m.i.wf i I;have hp:=m.i.p _ hm;unfold vt;simp only;rw[hx];simp only;rw[dt hw,fy];generalize v.2.l[i]=x at hp;unfold jY;by_cases V:x.op=2
  .rw[aq V,dt (hp.pa V)]
  rw[af V];by_cases U:x.op=23\/x.op=28
  .rw[aq U,ha];exact dt (hp.ar U)
  rw[af U];by_cases M:x.op=30
  .obtain⟨q1,fn,q2,q3⟩:=hp.fn M;have J:p.funcs[x.imm.toNat]?=some fn:=q2;have hlt:x.imm.toNat<p.funcs.length:=by
    by_cases q:x.imm.toNat<p.funcs.length
    .exact q
    .rw[gI ac]at J;cases J
   have K:u.funcs.length=p.funcs.length:=by have:=kz List.length C;simpa using this
   rw[aq M,K,dt (show x.imm<(p.funcs.length:Int) by omega),fy,C,dd,fT,J];simp only[jh,bS,iB];omega
  .rw[af M]
 unfold kQ;simp only;rw[ok,Nq m.i.nd j.r,zkk gP m.i.nd ac,Y.m.zero,m.st.m.zero,Y.i.s,m.st.i.s];have b1:=Y.i.lo;have b2:=Y.i.hi;have b3:=m.st.i.lo;have b4:=m.st.i.hi;simp only[iB,co,jt,x7];refine⟨⟨⟨ac,ac⟩,ac⟩,⟨⟨b1,b2⟩,b3⟩,b4⟩
theorem Nr{p:Pr}{n:Nat}:∀(l:List Fu) (o:List Gr) (u:Un) (e:Int),mA p n l o=some (u,e)->(e=6/\u=⟨[],[]⟩)\/(e=0/\∃K,u=⟨p.arrays,o++K⟩/\cR (fun f g=>iL p n f=some g/\g.nodes.length<=2000) l K)
 |[],o,u,e,h=>by
  rw[mA]at h;cases h;exact .inr ⟨rfl,[],by rw[bi],trivial⟩
 |f::l,o,u,e,h=>by
  rw[mA]at h;simp only[fH]at h;obtain⟨g,J,h⟩:=h;split at h
  .cases h;exact .inl ⟨rfl,rfl⟩
  .rename_i c;rcases Nr l _ u e h with i|⟨i,K,Z,m⟩
   .exact .inl i
   .exact .inr ⟨i,g::K,by rw[Z,nu];rfl,⟨J,ac⟩,m⟩
theorem Ns(K:List (List UInt8)):∀(l:List Fu) (Z:List Gr) (seen:List (List UInt8)),cR (fun f g=>g.name=f.name) l Z->nL K seen l=false->nL K seen (Z.map hM)=false
 |[],[],seen,_,_=>rfl
 |f::l,g::Z,seen,ha,h=>by
  rw[nL]at h;simp only[gG]at h;rw[dE,nL];show(zfE seen g.name||zfW K []||nL K (seen++[g.name]) (Z.map hM))=false;rw[ha.1,h.1.1,Ns K l Z _ ha.2 h.2];rfl
theorem BV{i β:Type}{q:i->β->Prop}:∀{a:List i}{b:List β},cR q a b->∀y∈b,∃x∈a,q x y
 |[],[],_,y,U=>by simp at U
 |x::a,z::b,h,y,U=>by
  rcases eP.1 U with rfl|U
  .exact⟨x,dJ,h.1⟩
  .obtain⟨w,M,L⟩:=BV h.2 y U;exact⟨w,dO _ M,L⟩
theorem Nt{p:Pr}{n:Nat}{f:Fu}{g:Gr}(h:iL p n f=some g):g.name=f.name/\g.params=f.params.length:=by
 unfold iL at h;simp only[fw]at h;obtain⟨s,_,v,_,rfl⟩:=h;exact⟨rfl,rfl⟩
theorem Nu{p:Pr}{n:Nat}:∀{l:List Fu}{K:List Gr},cR (fun f g=>iL p n f=some g/\g.nodes.length<=2000) l K->K.map Gr.params=l.map fun f=>(f.params.length:Int)
 |[],[],_=>rfl
 |f::l,g::K,h=>by rw[dE,dE,Nu h.2,(Nt h.1.1).2]
theorem zyA{p:Pr}(h:zhj p=0){K:List Gr}(o:cR (fun f g=>g.name=f.name) p.funcs K):zhj (fM ⟨p.arrays,K⟩)=0:=by
 obtain⟨i,Z,m,h4,h5⟩:=FI h;have hl:K.length=p.funcs.length:=o.len.symm;have U:lx (fM ⟨p.arrays,K⟩)=false:=by
  unfold lx at i⊢;simp only[gG,i4]at i⊢;obtain⟨⟨⟨C,a2⟩,M⟩,a4⟩:=i;refine⟨⟨⟨C,by simp only[fM,cO];omega⟩,M⟩,?_⟩;simp only[fM,vT,oZ];intro g _;have:oJ (hM g)=false:=by
   simp[oJ,hM,zgl,zfQ,zhi,kM,eU,mr]
  simp[this]
 have O:ja (fM ⟨p.arrays,K⟩)=true:=by
  unfold ja at Z⊢;rw[co]at Z⊢;refine⟨Z.1,?_⟩;have Y:=gF.1 Z.2;simp only[fM,List.all_map,gF];intro g J;obtain⟨f,V,z⟩:=BV o g J;have:=Y f V;unfold lT fnNames at this;simp only[co,Bc,qd,sU,jV]at this;show lT (hM g)=true;simp[lT,fnNames,hM,gO,gk,eV,lS,Ex.kind,Ex.kids,Ex.name,Ex.op,z,this.1.1.1.1]
 have L:mR (fM ⟨p.arrays,K⟩)=false:=by
  unfold mR at m⊢;rw[gG]at m⊢;exact⟨m.1,Ns _ _ _ _ o m.2⟩
 have I:(fM ⟨p.arrays,K⟩).funcs.any (mS (fM ⟨p.arrays,K⟩))=false:=by
  simp only[fM,vT,oZ];intro g _;simp[mS,hM,zgF,eW,zg5,ii,Ex.kind]
 have j:(fM ⟨p.arrays,K⟩).funcs.any (nM (fM ⟨p.arrays,K⟩))=false:=by
  simp only[fM,vT,oZ];intro g _;simp[nM,hM,zgF]
 unfold zhj;rw[U,O,L,I,j];rfl
theorem zrJ{p:Pr}(h:PrIn p)(hz:p.sz<2^30){n:Nat}(z:2*p.sz<n){u:Un}{e:Int}(V:qi p n=some (u,e)):(e=6/\u=⟨[],[]⟩)\/(e=0/\mD u=true/\u.arrays=p.arrays/\u.funcs.length=p.funcs.length/\UnOk u):=by
 unfold qi at V;rw[aq h.ck]at V;rcases Nr _ _ _ _ V with U|⟨U,K,h2,Z⟩
 .exact .inl U
 rw[oo]at h2;subst h2;have Y:=Nu Z;have hlen:=Z.len;have hpz:p.sz=1+jC p.arrays+ig p.funcs:=rfl;have j:cR (fun f g=>g.name=f.name) p.funcs K:=Z.mono fun f g k=>(Nt k.1).1;refine .inr ⟨U,?_,rfl,by show K.length=_;omega,?_⟩
 .unfold mD;rw[zyA h.ck j,co];refine⟨rfl,gF.2 fun g J=>?_⟩;obtain⟨f,i,m,L⟩:=BV Z g J;exact zcZ h hz z i m L rfl Y
 .obtain⟨a1,a2,a3,a4⟩:=h.lim;refine⟨by show p.arrays.length<_;omega,by show K.length<_;omega,fun g J=>?_,?_⟩
  .obtain⟨f,i,m,L⟩:=BV Z g J;obtain⟨s,v,e1,I,g1,_⟩:=FN h z i;have O:g=⟨f.name,f.params.length,v.2.l,v.1,v.2.state⟩:=by
    unfold iL at m;rw[e1,b8,I,b8]at m;exact(Option.some.inj m).symm
   refine⟨ac,fun x C=>?_⟩;rw[O]at C;have:=(g1.i.p x C).len;omega
  .have M:∀{l:List Fu}{K:List Gr},cR (fun f g=>g.name=f.name) l K->ig (K.map hM)<=4*ig l:=by
    intro l;induction l with
    |nil=>
     intro K o;cases K with
     |nil=>simp[ig]
     |cons g K=>exact o.elim
    |cons f l ih=>
     intro K o;cases K with
     |nil=>exact o.elim
     |cons g K=>
      have:=ih o.2;have e:(hM g).sz=1+g.name.length+0+0+0+1:=by simp[Fu.sz,hM,zgU,zf0,Ex.sz,zgR]
      have I:f.sz=1+f.name.length+zgU f.params+zgU f.locals+zf0 f.body+f.value.sz:=rfl;rw[dE,ig,ig,e,o.1];omega
   have:=M j;show 1+jC p.arrays+ig (K.map hM)<_;omega
theorem zuy{x:St}(h:mQ x=true):x.thn=[]/\x.els=[]:=by
 unfold mQ at h;simp only[iX]at h;exact⟨zp.1 ac,zp.1 ac⟩
theorem Nv{x:St}(h:j0 x=true):jl x=true/\gO x.thn=true/\gO x.els=true:=by
 rw[ue]at h;unfold jZ at h;simp only[co]at h;exact⟨h.1.1.2,h.1.2,h.2⟩
theorem zyB{x:St}(h:jl x=true)(m:x.kind≠3)(O:x.kind≠4):x.thn=[]/\x.els=[]:=by
 apply zuy;unfold jl at h;cases i:mQ x with
 |true=>rfl
 |false=>
  rw[i]at h;simp only[m,O,cS,eJ]at h;split at h
  .cases h
  .split at h
   .cases h
   .split at h
    .cases h
    .split at h
     .cases h
     .split at h<;>cases h
theorem zuz{x:St}(h:jl x=true)(O:x.kind=4):x.els=[]:=by
 unfold jl at h;rw[af ac,af ac,af ac,aq O]at h;simp only[iX]at h;exact zp.1 ac
theorem vW{x:St}(h:jl x=true)(m:x.kind≠3)(O:x.kind≠4):zgc x=0:=by
 obtain⟨a,b⟩:=zyB h m O;rw[sy,a,b,af O];rfl
structure Lo (s r:Bd) (k:Nat):Prop where
 n:r.loops=s.loops+k
 e:∀j,s.loops<=j->j<r.loops->∃y∈r.l,y.op=31/\y.imm=(j:Int)
theorem Lo.zero{s r:Bd}(h:r.loops=s.loops):Lo s r 0:=⟨h,fun j i g=>ac⟩
def s6:=@Lo.zero
theorem Lo.trans{a b c:Bd}{k m:Nat}(h:Lo a b k)(g:Lo b c m)(L:b.l<+:c.l):Lo a c (k+m):=⟨by rw[g.n,h.n];omega,fun j i Z=>by
 by_cases q:j<b.loops
 .obtain⟨y,O,U⟩:=h.e j i q;exact⟨y,L.subset O,U⟩
 .exact g.e j ac Z⟩
theorem Lo.ext{a b c:Bd}{k:Nat}(h:Lo a b k)(L:b.l<+:c.l)(z:c.loops=b.loops):Lo a c k:=h.trans (s6 z) L
theorem Lo.of{a b s:Bd}{k:Nat}(h:Lo a b k)(z:s.loops=a.loops):Lo s b k:=⟨by rw[h.n,z],fun j i g=>h.e j ac g⟩
theorem zc5(n:Nd)(s:Bd):n∈(zfg n s).2.l:=by
 show n∈iK s.l n;unfold iK fZ;split
 .rename_i h;have:=List.findIdx_lt_length.1 h;obtain⟨x,C,g⟩:=this;simp only[iB]at g;rw[<-g];exact C
 .exact List.mem_append_right _ (M6 _)
theorem Nw(c:Cx):∀n:Nat,(∀x s r,j0 x=true->jH c n x s=some r->Lo s r (zgc x))/\(∀l s r,gO l=true->eC c n l s=some r->Lo s r (zfQ l))/\(∀x s r,j0 x=true->x.kind=4->j6 c n x s=some r->Lo s r (zgc x))
 |0=>⟨fun _ _ _ _ h=>by simp[jH]at h,fun _ _ _ _ h=>by simp[eC]at h,fun _ _ _ _ _ h=>by simp[j6]at h⟩
 |n+1=>by
  obtain⟨I1,L,I3⟩:=Nw c n;obtain⟨L1,L2,L3⟩:=kR c n;refine⟨fun x s r C h=>?_,fun l s r C h=>?_,fun x s r C M h=>?_⟩
  .obtain⟨Y,ht,he⟩:=Nv C;unfold jH at h;split at h
   .rename_i k1;rw[vW Y ac ac];simp only[fH]at h;obtain⟨v,Z,h⟩:=h;split at h
    .cases h;exact s6 (zgg c n _ _ _ Z).n
    .cases h
   split at h
   .rename_i k2;rw[vW Y ac ac];simp only[fw]at h;obtain⟨i,Z,v,g,a,_,rfl⟩:=h;have a:=(zgg c n _ _ _ Z).trans ((zgg c n _ _ _ g).trans ((qk a.len i.1 v.2).trans (zgd ⟨28,cp (c.arrays.map (·.name)) x.name,[(eK a.len i.1 v.2).state,i.1,v.1]⟩ _)));exact s6 a.n
   split at h
   .rename_i k3;simp only[fw]at h;obtain⟨q,Z,a,g,b,J,m,M,rfl⟩:=h;have e1:=zgg c n _ _ _ Z;have e2:=L _ _ _ ht g;have o:=L _ _ _ he J;have p2:=L2 _ _ _ g;have p3:=L2 _ _ _ J;have K:=sM _ _ _ _ _ _ M;have e5:=zg0 q.1 a.state m.state m;have hw:zgc x=zfQ x.thn+zfQ x.els:=by rw[sy,af ac];omega
    rw[hw];have t1:Lo s a (zfQ x.thn):=e2.of e1.n.symm;have t2:Lo a b (zfQ x.els):=⟨o.n,o.e⟩;have t3:=t1.trans t2 p3.1.l;exact(t3.ext K.1.l K.2.2.2).ext e5.le.l e5.n
   split at h
   .rename_i k4;exact I3 _ _ _ C k4 h
   split at h
   .rw[vW Y ac ac];simp only[fw]at h;obtain⟨v,Z,rfl⟩:=h;exact s6 ((zgg c n _ _ _ Z).trans (zgd ⟨29,0,[v.2.state,v.1]⟩ v.2)).n
   split at h
   .rw[vW Y ac ac];simp only[fH]at h;obtain⟨av,Z,h⟩:=h;split at h
    .cases h;exact s6 (qn c n _ _ _ Z).1.n
    .cases h
   split at h
   .rw[vW Y ac ac];cases h;exact s6 ((zgd ⟨1,0,[]⟩ s).trans (qj (cu (16+x.n)) (zfg ⟨1,0,[]⟩ s).1 _)).n
   .rw[vW Y ac ac];cases h;exact s6 rfl
  .unfold eC at h;cases l with
   |nil=>cases h;exact s6 rfl
   |cons x l=>
    have V:j0 x=true/\gO l=true:=by
     rw[gO,co]at C;exact C
    simp only[fH]at h;obtain⟨q,Z,g⟩:=h;rw[zfQ];exact(I1 _ _ _ V.1 Z).trans (L _ _ _ V.2 g) (L2 _ _ _ g).1.l
  .obtain⟨Y,ht,_⟩:=Nv C;have hw:zgc x=1+zfQ x.thn:=by rw[sy,aq M,zuz Y M];rfl
   unfold j6 at h;simp only[fw]at h;obtain⟨q,Z,b,_,t,g,d,J,rfl⟩:=h;have e1:=zgg c n _ _ _ Z;have e2:=pA (16*(s.loops:Int)+1) (zgG b) 0 { (zfg ⟨3,16*(s.loops:Int),[]⟩ q.2).2 with state:=(zfg ⟨3,16*(s.loops:Int),[]⟩ q.2).1};have o:=L _ _ _ ht g;have K:=zgg c n _ _ _ J;rw[hw];have zgn:q.2.loops=s.loops+1:=e1.n;have n2:=e2.2.2.2;have n3:t.loops=s.loops+1+zfQ x.thn:=by rw[o.n,n2];show q.2.loops+_=_;omega
   have n4:d.2.loops=t.loops:=K.n;generalize hK:(⟨31,s.loops,q.2.state::((zgG b).map fun i=>q.2.vars.getD i 0)++[d.1,d.2.state]++((zgG b).map fun i=>d.2.vars.getD i 0)⟩:Nd)=zgM;have k1:zgM.op=31/\zgM.imm=(s.loops:Int):=by rw[<-hK];exact⟨rfl,rfl⟩
   have hin:=zc5 zgM d.2;have hp:=zgd zgM d.2;generalize (zfg zgM d.2)=O at *;have hf:=zgd ⟨25,0,[O.1]⟩ {O.2 with vars:=q.2.vars};generalize (zfg ⟨25,0,[O.1]⟩ {O.2 with vars:=q.2.vars})=I at *;have hm:=zg0 q.1 I.1 q.2.state I.2;generalize zfA q.1 I.1 q.2.state I.2=U at *;have hl:=rx O.1 q.1 q.2.vars (zgG b) 1 {U.2 with state:=U.1};generalize fB O.1 q.1 q.2.vars (zgG b) 1 {U.2 with state:=U.1}=z at *;have zfJ:O.2.l<+:z.l:=(hf.le.l.trans hm.le.l).trans hl.1.l;have m2:z.loops=d.2.loops:=by
    rw[hl.2.2.2];show U.2.loops=_;rw[hm.n,hf.n];show O.2.loops=_;exact hp.n
   refine⟨ac,fun j j1 j2=>?_⟩;by_cases c0:j=s.loops
   .subst c0;exact⟨zgM,zfJ.subset hin,k1⟩
   .obtain⟨y,y1,y2⟩:=o.e j (by rw[n2];show q.2.loops<=j;omega) ac;exact⟨y,zfJ.subset (hp.le.l.subset (K.le.l.subset y1)),y2⟩
def qD(l:List Nd):Nat:=(l.filter fun n=>decide (n.op=31)).length
theorem Nx:∀(k:Nat) (l:List Nat),l.Nodup->(∀x∈l,x<k)->(∀j,j<k->j∈l)->l.length=k
 |0,l,_,h,_=>by
  cases l with
  |nil=>rfl
  |cons a l=>exact absurd (h a dJ) ac
 |k+1,l,hn,h1,h2=>by
  have V:=h2 k (cI k);have ih:=Nx k (l.erase k) (hn.erase k) (fun x C=>by
   have:=(hn.mem_erase_iff).1 C;have:=h1 x this.2;omega) (fun j Y=>(hn.mem_erase_iff).2 ⟨ac,h2 j ac⟩)
  rw[List.length_erase_of_mem V]at ih;have:0<l.length:=List.length_pos_of_mem V;omega
theorem zl1{l:List Nd}(z:l.Nodup)(h2:∀x∈l,∀y∈l,x.op=31->y.op=31->x.imm=y.imm->x=y)(h1:∀x∈l,x.op=31->0<=x.imm):((l.filter fun n=>decide (n.op=31)).map fun n=>n.imm.toNat).Nodup:=by
 refine List.pairwise_map.2 ?_;refine List.Pairwise.imp_of_mem ?_ (List.Pairwise.filter _ z);intro a b o Z U e;simp only[oX,iB]at o Z;have:=h1 a o.1 o.2;have:=h1 b Z.1 Z.2;exact U (h2 a o.1 b Z.1 o.2 Z.2 ac)
theorem Ny{p:Pr}(h:PrIn p){n:Nat}(z:2*p.sz<n){f:Fu}(i:f∈p.funcs){g:Gr}(J:iL p n f=some g):qD g.nodes=zfQ f.body/\∀x∈g.nodes,x.op=31->0<=x.imm/\x.imm<zfQ f.body:=by
 obtain⟨s,v,O,L,M,q4,o,q6⟩:=FN h z i;have Z:g.nodes=v.2.l:=by
  unfold iL at J;rw[O,b8,L,b8,az]at J;rw[<-J]
 obtain⟨g1,g2,K⟩:=No h i fun _=>False
 have hb:=(h.body i).1;have V:=(Nw (jI p f) n).2.1 f.body (zhn f) s hb.wf O;have lv:=zgg _ n _ _ _ L;have hl:v.2.loops=zfQ f.body:=by rw[lv.n,V.n,K];omega
 rw[Z];have Y:∀x∈v.2.l,x.op=31->0<=x.imm/\x.imm<zfQ f.body:=fun x C e=>by have:=o.l1 x C e;rw[hl]at this;exact this
 refine⟨?_,Y⟩;have:=Nx (zfQ f.body) ((v.2.l.filter fun n=>decide (n.op=31)).map fun n=>n.imm.toNat) (zl1 M.i.nd o.l2 fun x C e=>(Y x C e).1) (fun x C=>by
  obtain⟨y,U,rfl⟩:=lc.1 C;simp only[oX,iB]at U;have:=Y y U.1 U.2;omega) (fun j hj=>by
  obtain⟨y,I,m,y3⟩:=V.e j ac (by rw[V.n];omega);exact lc.2 ⟨y,by simp only[oX,iB];exact⟨lv.le.l.subset I,m⟩,ac⟩)
 rw[cO]at this;exact this
def jc(f:Nat->Bool):List Bool:=(List.range 16).map f
theorem vX(f:Nat->Bool):(jc f).length=16:=by simp[jc]
theorem yD{f g:Nat->Bool}(h:∀t,t<16->f t=g t):jc f=jc g:=List.map_congr_left fun t C=>h t (kZ.1 C)
theorem Nz(f:Nat->Bool)(j:Nat)(x:Bool):(jc f).set j x=jc (fun t=>if t=j then x else f t):=by
 apply D1;intro t;by_cases h:t<16
 .rw[mL,vX,jc,jc,fT,fT,zm h];by_cases e:j=t
  .subst e;simp[h]
  .rw[af e];have i:¬t=j:=fun h=>e h.symm;simp[i]
 .rw[gI (by rw[jk,vX];omega),gI (by rw[vX];omega)]
def vY(n:Nd)(h:List (List Bool))(p:Int×Nat)(t:Nat):Bool:=(h.getD p.1.toNat []).getD t false&&(!decide (n.op=31) || !decide ((t:Int)=n.imm)||decide ((p.2:Int)<(n.kids.length:Int).tdiv 2))
def rJ(n:Nd)(h:List (List Bool))(k t:Nat):Bool:=(n.kids.zipIdx.take k).any fun p=>vY n h p t
theorem zuB{n:Nd}{h:List (List Bool)}{k t:Nat}{x:Int}(C:n.kids[k]?=some x):rJ n h (k+1) t=(rJ n h k t||vY n h (x,k) t):=by
 unfold rJ;rw[oA,List.getElem?_zipIdx,C];simp
theorem NA(n:Nd)(h:List (List Bool))(t:Nat):(rJ n h n.kids.length t||(decide (n.op=3)&&decide ((t:Int)=n.imm.tdiv 16)))=t7 n h t:=by
 unfold rJ t7 vY;rw[fN au]
def lY(H:Hp)(v:AV)(K:List (List Bool)):Prop:=(v=.nilS/\K=[])\/∃(q:Nat) (z:List Nat),v=.sl q 0 K.length 1/\q<H.next/\H.get q=some (.cells (z.map fun k=>AV.sl k 0 16 1) 0 true)/\z.length=K.length /\
 ∀(i k:Nat) (b:List Bool),z[i]?=some k->K[i]?=some b->k<H.next/\k≠q/\b.length=16/\H.get k=some (.cells (b.map .bool) 0 true)
theorem lY.keep{H H':Hp}{v:AV}{K:List (List Bool)}(h:lY H v K)(o:H.next<=H'.next)(J:∀k,k<H.next->H'.get k=H.get k):lY H' v K:=by
 rcases h with h|⟨q,z,U,g,O,L,I⟩
 .exact .inl h
 .refine .inr ⟨q,z,U,ac,by rw[J q g];exact O,L,fun i k b Z m=>?_⟩;obtain⟨C,Y,M,V⟩:=I i k b Z m;exact⟨ac,Y,M,by rw[J k C];exact V⟩
theorem lY.lt{H:Hp}{v:AV}{K:List (List Bool)}(h:lY H v K){q o m z:Nat}(e:v=.sl q o m z):q<H.next:=by
 rcases h with⟨h,_⟩|⟨M,Z,i,g,_⟩
 .rw[h]at e;cases e
 .rw[i]at e;cases e;exact g
theorem lY.push{H:Hp}{v:AV}{K:List (List Bool)}(h:lY H v K){x r imm:Nat}{b:List Bool}(C:x<H.next)(g:∀q o m z,v=.sl q o m z->x≠q)(L:H.get x=some (.cells (b.map .bool) 0 true))(hb:b.length=16)(hr:H.get r=some (.cells [.sl x 0 16 1] imm true))(hl:K.length<2^30):
 ∃v' H',zgH Tryz.prog false H 133 133 v (.sl r 0 1 1)=some (v',H')/\lY H' v' (K++[b])/\H'.next=H.next+1:=by
 have O:zg1=70368744177664:=rfl;have J:zhd H 1 (.sl r 0 1 1)=some (0+1,[.sl x 0 16 1]):=by
  have:=se (H:=H) (r:=r) (o:=0) (n:=1) (z:=1) (s:=1) hr au;rw[this];rfl
 rcases h with⟨rfl,rfl⟩|⟨q,V,rfl,h2,h3,M,h5⟩
 .refine⟨.sl H.next 0 1 1,H.alloc (.cells [.sl x 0 16 1] 0 true),append_nil Tryz.underlying133 z8 DF DG aj J rfl rfl (by rw[O];omega) (by rw[O];omega),.inr ⟨H.next,[x],rfl,cI _,iH,rfl,fun i k c Z Y=>?_⟩,rfl⟩;cases i with
  |zero=>
   simp only[pm,az,oo]at Z Y;subst Z;subst Y;exact⟨FE C,ac,hb,by rw[zfk,af ac];exact L⟩
  |succ i=>simp at Z
 .have I:=g q 0 K.length 1 rfl;refine⟨_,_,Ia Tryz.underlying133 z8 DF DG aj J rfl rfl h3 (by rw[cO,M,kX]) (by rw[O];omega) (by rw[O];omega),.inr ⟨H.next,V++[x],by rw[fG];rfl,cI _,?_,by rw[fG,fG,M];rfl,fun i k c Z Y=>?_⟩,rfl⟩
  .show((H.kill q).alloc _).get (H.kill q).next=_
   rw[zfk,aq rfl,r0];rfl
  .have U:∀k,k<H.next->k≠q->((H.kill q).alloc (.cells ((V.map fun k=>AV.sl k 0 16 1)++[.sl x 0 16 1]) 0 true)).get k=H.get k:=fun k e3 e4=>by
    rw[zfk,af mn,zhm,af e4]
   by_cases hi:i<V.length
   .rw[je hi]at Z;rw[je ac]at Y;obtain⟨a1,a2,a3,a4⟩:=h5 i k c Z Y;exact⟨FE a1,ac,a3,by rw[U k a1 a2];exact a4⟩
   .rw[l0 ac]at Z;rw[l0 ac,<-M]at Y;cases hj:i-V.length with
    |zero=>
     rw[hj]at Z Y;simp only[pm,az]at Z Y;subst Z;subst Y;exact⟨FE C,ac,hb,by rw[U _ C I];exact L⟩
    |succ j=>rw[hj]at Z;simp at Z
theorem bnB(H:Hp)(q:Nat):zgW Tryz.prog H 133 1 [(0,.sl q 0 16 1)]=some (.sl H.next 0 1 1,H.alloc (.cells [.sl q 0 16 1] 0 true)):=aj
theorem lY.at{H:Hp}{v:AV}{K:List (List Bool)}(h:lY H v K){i:Nat}(I:i<K.length):∃r k,zgi Tryz.prog 133 v (.int .i64 (i:Int))=some (.ptr r i)/\iU Tryz.prog H 84 (.ptr r i)=some (.sl k 0 16 1) /\
 H.get k=some (.cells ((K.getD i []).map .bool) 0 true)/\(K.getD i []).length=16:=by
 rcases h with⟨_,rfl⟩|⟨q,z,rfl,g,m,O,Y⟩
 .simp at I
 .have L:i<z.length:=by omega
  obtain⟨C,V,M,Z⟩:=Y i z[i] K[i] (aR L) (aR I);refine⟨q,z[i],by rw[xh Tryz.underlying133 z8 I];simp,?_,?_⟩
  .rw[zU Tryz.underlying84 rfl m,fT,aR L];rfl
  .rw[dd,aR I];exact⟨Z,M⟩
def BW(K:List (List Bool)):AV:=.lst (K.map fun b=>[AV.lst (b.map fun x=>[AV.bool x])])
def tyVdB.tyF:=ad @ej (ad @cN (ad @tJ (ad @iD (ad @eQ (ad @li (ad @xr (ad @IA (ad @pS (@bnB)))))))))
open tyVdB
noncomputable def NB:{c:SC // aH 77 (Tryz.f83.body.getD .skip)=c}:=by
 refine⟨?_,?_⟩;rotate_left
 .simp only[Tryz.f83,bS,aH,zfO,zfL,zfR,zfS,Nat.blt,Nat.ble];rfl
def FP(l:List Nd):Prop:=Eo l/\0<l.length
theorem zrK{l:List Nd}{i:Nat}{n:Nd}(z:l[i]?=some n):zhc l (i+1)=zhc l i++[jc (t7 n (zhc l i))]:=by rw[zhc,z];rfl
theorem NC(H:Hp)(n:Nat):∀b:List Bool,iceL (iceV H (n+1)) (b.map .bool)=some (b.map .bool)
 |[]=>rfl
 |x::b=>by
  have:=NC H n b;have e:iceV H (n+1) (.bool x)=some (.bool x):=rfl;simp only[dE,iceL,e,this]
theorem ND:∀b:List Bool,jN 1 b.length (b.map AV.bool)=b.map fun x=>[AV.bool x]
 |[]=>rfl
 |x::b=>by
  have:=ND b;simp only[dE,dg,jN,M5,vE,va,fo,this]
theorem zyC{H:Hp}{k:Nat}{b:List Bool}(h:H.get k=some (.cells (b.map .bool) 0 true))(o:b.length=16)(n:Nat):iceV H (n+2) (.sl k 0 16 1)=some (.lst (b.map fun x=>[AV.bool x])):=by
 have e:iceV H (n+2) (.sl k 0 16 1)=match H.get k with
  |some (.cells Z _ _)=>match iceL (iceV H (n+1)) ((Z.drop 0).take (16*1))with
   |some g=>if g.length=16*1 then some (.lst (jN 1 16 g))else none
   |none=>none
  |_=>none:=rfl
 rw[e,h];simp only[fo,kX];rw[fN (by rw[cO,o];omega),NC];simp only[cO,o,cV];rw[<-o,ND]
theorem NE{H:Hp}(n:Nat):∀(z:List Nat) (K:List (List Bool)),z.length=K.length->(∀(i k:Nat) (b:List Bool),z[i]?=some k->K[i]?=some b->b.length=16/\H.get k=some (.cells (b.map .bool) 0 true)) ->
 iceL (iceV H (n+2)) (z.map fun k=>AV.sl k 0 16 1)=some (K.map fun b=>AV.lst (b.map fun x=>[AV.bool x]))
 |[],[],_,_=>rfl
 |[],_::_,h,_=>by simp at h
 |_::_,[],h,_=>by simp at h
 |q::z,b::K,h,hr=>by
  obtain⟨Y,g⟩:=hr 0 q b rfl rfl;have ih:=NE n z K jv (fun i k b Z m=>hr (i+1) k b uJ uS);simp only[dE,iceL,zyC g Y n,ih]
theorem chunk_rows:∀(K:List AV),jN 1 K.length K=K.map fun x=>[x]
 |[]=>rfl
 |x::b=>by
  have:=chunk_rows b;simp only[dE,dg,jN,M5,vE,va,fo,this]
theorem lY.ice{H:Hp}{v:AV}{K:List (List Bool)}(h:lY H v K)(J:0<K.length):iceV H 4 v=some (BW K):=by
 rcases h with⟨_,rfl⟩|⟨q,z,rfl,M,V,O,Y⟩
 .simp at J
 .have e:iceV H 4 (.sl q 0 K.length 1)=match H.get q with
   |some (.cells U _ _)=>match iceL (iceV H 3) ((U.drop 0).take (K.length*1))with
    |some g=>if g.length=K.length*1 then some (.lst (jN 1 K.length g))else none
    |none=>none
   |_=>none:=rfl
  rw[e,V];simp only[fo,kX];rw[fN (by rw[cO];omega),NE 1 z K O (fun i k b Z m=>⟨(Y i k b Z m).2.2.1,(Y i k b Z m).2.2.2⟩)];simp only[cO,cV];have m:K.length=(K.map fun b=>AV.lst (b.map fun x=>[AV.bool x])).length:=by rw[cO]
  rw[m,chunk_rows,tD];rfl
theorem zpn{P C:Nat->Bool}{j:Nat}(h:C j=true):(jc fun t=>P t||(decide (t<j)&&C t)).set j true=jc fun t=>P t||(decide (t<j+1)&&C t):=by
 rw[Nz];apply yD;intro t _;by_cases e:t=j
 .subst e;rw[aq rfl,h];simp
 .rw[af e];have:decide (t<j)=decide (t<j+1):=by rw[p6];omega
  rw[this]
theorem NF{P C:Nat->Bool}{j:Nat}(h:C j=false):(jc fun t=>P t||(decide (t<j)&&C t))=jc fun t=>P t||(decide (t<j+1)&&C t):=by
 apply yD;intro t _;by_cases e:t=j
 .subst e;rw[h];simp
 .have:decide (t<j)=decide (t<j+1):=by rw[p6];omega
  rw[this]
theorem NG:(List.replicate 16 false:List Bool)=jc fun _=>false:=aD
set_option maxRecDepth 100000 in
theorem zrL(ρ:Nat->Int)(l:List Nd)(hl:FP l):ce Tryz.prog ρ 83 [iI l] (BW (zhc l l.length)):=xt (m:=4) (cfg:=zfn pls []) fit (pO ρ) (iF.look trivial) (.cons (vn _) .nil) (by
 obtain⟨⟨hnd,hok⟩,hpos⟩:=hl;have hl1:=hnd.1;have hw:=zha 83;have hkeep:(zfn pls []).keep 83=false:=rfl;have q2:(2:Int)≠0:=aD;have q16:(16:Int)≠0:=aD;have hmk:∀H:Hp,zhT Tryz.prog H 84 (.int .i64 16) (.int .i64 16)=some (.sl H.next 0 16 1,H.alloc (.cells ((jc fun _=>false).map .bool) 0 true)):=fun H=>by rw[<-NG];exact D8 16 ac
 refine zfz (M:=77) (rs:=[.tmp 2]) (hw.call _) hw.ice hw.froz Tryz.func83 rfl rfl NB.2 rfl ?_;dsimp only[NB,zft,Nat.reduceAdd];repeat' (first
  |(apply ah ?_;clear hK K)|apply Rx.o ?_|(apply bt (fun V Z=>?_) (fun V Z=>?_)<;>try(cases V;done))|apply ak ?_|(apply zff fun K hK=>?_)|apply ay ?_|apply zfh ?_|apply ax ?_|apply zfr ?_)
 refine zgs [0,2] [] 4 l.length (fun i E H=>∃v,E.at 3=v/\lY H v (zhc l i)) eE ⟨.nilS,eE,.inl ⟨rfl,rfl⟩⟩ ?_;rintro i E U hi O L I hsI ⟨v,k3,hv⟩;(try simp only[zfT,zfB,a0,zfo,zfv,Nat.reduceBEq,Nat.reduceAdd,Nat.reduceLeDiff,tyF, *]at O);(try simp only[zfT,zfB,a0,zfo,zfv,Nat.reduceBEq,Nat.reduceAdd,Nat.reduceLeDiff,tyF, *]at L);(try simp only[zfw,zfI,zgj,b9,Nat.reduceAdd]at I);by_cases hlt:i<l.length
 .have hlt':(i:Int)<l.length:=by omega
  have hgx:l[i]?=some l[i]:=aR hlt;have hon:=hok i _ hgx;have hnk:=hnd.2 _ (dI hlt);have hrow:=zrK hgx;have hhl:=sC l i;generalize l[i]=n at *;generalize zhc l i=h at *;repeat' (first
   |(apply ah ?_;clear hK K)|apply Ry.o ?_|apply bM ?_|apply ib ?_|(apply bC (fun J Y=>?_) (fun J Y=>?_)<;>try(cases J;done))|(apply aL (fun V Z=>?_) (fun V Z=>?_)<;>try(cases V;done))|apply ak ?_|(apply zff fun K hK=>?_)|apply ay ?_|apply zfh ?_|apply ax ?_|apply zfr ?_)
  generalize C:Hp.set (Hp.alloc _ _) _ _=Hb;have nb:U.next+2<=Hb.next:=by rw[<-C];exact aE _
  have gb:Hb.get U.next=some (.cells ((jc fun t=>rJ n h 0 t).map .bool) 0 true):=by
   rw[<-C,aQ,af ye,zfk,af ye,zfk,aq rfl]
   congr 2
  have g5:Hb.get (U.next+1)=some (.cells n.cells 0 true):=by rw[<-C,aQ,aq rfl]
  have fb:∀x,x<U.next->Hb.get x=U.get x:=fun x hx=>by rw[<-C,aQ,af ye,zfk,af ye,zfk,af ac]
  clear C;refine zgs [0,2,3,4,5,6] [] 7 n.kids.length (fun k E H=>H.get U.next=some (.cells ((jc fun t=>rJ n h k t).map .bool) 0 true)/\H.get (U.next+1)=some (.cells n.cells 0 true)/\∀x,x<U.next->H.get x=U.get x) eE ⟨gb,g5,fb⟩ ?_;clear gb g5 fb;rintro k E3 H3 hk O L I hsI ⟨gb,g5,fb⟩;(try simp only[zfT,zfB,a0,zfo,zfv,Nat.reduceBEq,Nat.reduceAdd,Nat.reduceLeDiff,tyF, *]at O);(try simp only[zfT,zfB,a0,zfo,zfv,Nat.reduceBEq,Nat.reduceAdd,Nat.reduceLeDiff,tyF, *]at L);(try simp only[zfw,zfI,zgj,b9,Nat.reduceAdd]at I);have hv3:lY H3 v h:=hv.keep ac fb;by_cases hkt:k<n.kids.length
  .have hkt':(k:Int)<n.kids.length:=by omega
   have hgy:n.kids[k]?=some n.kids[k]:=aR hkt;obtain⟨d0,d1⟩:=hon.kids _ (dI hkt);have hsucc:=fun t=>zuB (n:=n) (h:=h) (t:=t) hgy;generalize n.kids[k]=kd at *;obtain⟨d,rfl⟩:=jw d0;repeat' (first
    |(apply ah ?_;clear hK K)|apply Ry.o ?_|apply bM ?_|apply ib ?_|(apply bC (fun J Y=>?_) (fun J Y=>?_)<;>try(cases J;done))|(apply aL (fun V Z=>?_) (fun V Z=>?_)<;>try(cases V;done))|apply ak ?_|(apply zff fun K hK=>?_)|apply ay ?_|apply zfh ?_|apply ax ?_|apply zfr ?_)
   refine zgs [0,2,3,4,5,6,7] [] 8 16 (fun j E H=>H.get U.next=some (.cells ((jc fun t=>rJ n h k t||(decide (t<j)&&vY n h ((d:Int),k) t)).map .bool) 0 true)/\H.get (U.next+1)=some (.cells n.cells 0 true)/\∀x,x<U.next->H.get x=U.get x) eE ⟨by simpa using gb,g5,fb⟩ ?_;clear gb g5 fb hv3;rintro j E4 H4 hj O L I hsI ⟨gc,g6,fc⟩;(try simp only[zfT,zfB,a0,zfo,zfv,Nat.reduceBEq,Nat.reduceAdd,Nat.reduceLeDiff,tyF, *]at O);(try simp only[zfT,zfB,a0,zfo,zfv,Nat.reduceBEq,Nat.reduceAdd,Nat.reduceLeDiff,tyF, *]at L);(try simp only[zfw,zfI,zgj,b9,Nat.reduceAdd]at I);have n4:U.next+2<=H4.next:=ac
   have hv4:lY H4 v h:=hv.keep ac fc;obtain⟨r,w,hix,hld,hgw,hbl⟩:=hv4.at (i:=d) ac;have e1:IntKind.wrap .i64 ((n.kids.length:Int).tdiv 2)=(n.kids.length:Int).tdiv 2:=by
    rw[mo ac];exact zhb ac ac
   by_cases hjt:j<16
   .have hjt':(j:Int)<16:=by omega
    have hixw:=vF (q:=w) hjt;have hlw:=E6 hgw (m:=j) ac;have hixq:=vF (q:=U.next) hjt;have hst:=Br gc (m:=j) (by rw[vX];exact hjt) true;have g:vY n h ((d:Int),k) j=((h.getD d []).getD j false&&(!decide (n.op=31) || !decide ((j:Int)=n.imm)||decide ((k:Int)<(n.kids.length:Int).tdiv 2))):=by rw[vY,gV]
    generalize (h.getD d []).getD j false=b at *;have hgo:∀x,((H4.set U.next x).get (U.next+1)=some (.cells n.cells 0 true))/\∀y,y<U.next->(H4.set U.next x).get y=U.get y:=fun x=>⟨by rw[aQ,af ac];exact g6,fun y hy=>by rw[aQ,af ac];exact fc y hy⟩
    cases b with
    |false=>
     rw[eJ]at g;repeat' (first
      |(apply ah ?_;clear hK K)|apply Ry.o ?_|apply bM ?_|apply ib ?_|(apply bC (fun J Y=>?_) (fun J Y=>?_)<;>try(cases J;done))|(apply aL (fun V Z=>?_) (fun V Z=>?_)<;>try(cases V;done))|apply ak ?_|(apply zff fun K hK=>?_)|apply ay ?_|apply zfh ?_|apply ax ?_|apply zfr ?_)
     refine⟨ac,eL,eL,zf4,vR,?_⟩;exact⟨by rw[<-NF g];exact gc,g6,fc⟩
    |true=>
    rw[fy]at g;by_cases h31:n.op=31
    .by_cases hji:n.imm=(j:Int)
     .by_cases hlv:(k:Int)<(n.kids.length:Int).tdiv 2
      .rw[dt hlv,AL]at g;repeat' (first
        |(apply ah ?_;clear hK K)|apply Ry.o ?_|apply bM ?_|apply ib ?_|(apply bC (fun J Y=>?_) (fun J Y=>?_)<;>try(cases J;done))|(apply aL (fun V Z=>?_) (fun V Z=>?_)<;>try(cases V;done))|apply ak ?_|(apply zff fun K hK=>?_)|apply ay ?_|apply zfh ?_|apply ax ?_|apply zfr ?_)
       refine⟨ac,eL,eL,zf4,vR,?_⟩;exact⟨FD,hgo _⟩
      .rw[dt h31,dt hji.symm,d6 hlv]at g;repeat' (first
        |(apply ah ?_;clear hK K)|apply Ry.o ?_|apply bM ?_|apply ib ?_|(apply bC (fun J Y=>?_) (fun J Y=>?_)<;>try(cases J;done))|(apply aL (fun V Z=>?_) (fun V Z=>?_)<;>try(cases V;done))|apply ak ?_|(apply zff fun K hK=>?_)|apply ay ?_|apply zfh ?_|apply ax ?_|apply zfr ?_)
       refine⟨ac,eL,eL,zf4,vR,?_⟩;exact⟨by rw[<-NF g];exact gc,g6,fc⟩
     .have hji':¬(j:Int)=n.imm:=fun e=>hji e.symm;rw[d6 hji',iC,AL,o0]at g;clear hji;repeat' (first
       |(apply ah ?_;clear hK K)|apply Ry.o ?_|apply bM ?_|apply ib ?_|(apply bC (fun J Y=>?_) (fun J Y=>?_)<;>try(cases J;done))|(apply aL (fun V Z=>?_) (fun V Z=>?_)<;>try(cases V;done))|apply ak ?_|(apply zff fun K hK=>?_)|apply ay ?_|apply zfh ?_|apply ax ?_|apply zfr ?_)
      refine⟨ac,eL,eL,zf4,vR,?_⟩;exact⟨FD,hgo _⟩
    .rw[d6 h31,iC,o0,o0]at g;repeat' (first
      |(apply ah ?_;clear hK K)|apply Ry.o ?_|apply bM ?_|apply ib ?_|(apply bC (fun J Y=>?_) (fun J Y=>?_)<;>try(cases J;done))|(apply aL (fun V Z=>?_) (fun V Z=>?_)<;>try(cases V;done))|apply ak ?_|(apply zff fun K hK=>?_)|apply ay ?_|apply zfh ?_|apply ax ?_|apply zfr ?_)
     refine⟨ac,eL,eL,zf4,vR,?_⟩;exact⟨FD,hgo _⟩
   .have hjt':¬(j:Int)<16:=by omega
    have hj16:j=16:=ac;subst hj16;repeat' (first
     |(apply ah ?_;clear hK K)|apply Ry.o ?_|apply bM ?_|apply ib ?_|(apply bC (fun J Y=>?_) (fun J Y=>?_)<;>try(cases J;done))|(apply aL (fun V Z=>?_) (fun V Z=>?_)<;>try(cases V;done))|apply ak ?_|(apply zff fun K hK=>?_)|apply ay ?_|apply zfh ?_|apply ax ?_|apply zfr ?_)
    refine⟨ac,eL,eL,zf4,ES,?_⟩;refine⟨?_,g6,fc⟩;rw[gc]
    congr 3
    apply yD;intro t ht;rw[hsucc,dt ht,fy]
  .have hkt':¬(k:Int)<n.kids.length:=by omega
   have gb:H3.get U.next=some (.cells ((jc fun t=>rJ n h n.kids.length t).map .bool) 0 true):=by
    rw[show n.kids.length=k by omega];exact gb
   have n3:U.next+2<=H3.next:=ac
   repeat' (first
    |(apply ah ?_;clear hK K)|apply Ry.o ?_|apply bM ?_|apply ib ?_|(apply bC (fun J Y=>?_) (fun J Y=>?_)<;>try(cases J;done))|apply ak ?_|(apply zff fun K hK=>?_)|apply ay ?_|apply zfh ?_|apply ax ?_|apply zfr ?_)
   (apply bt (fun V Z=>?_) (fun V Z=>?_)<;>try(cases V;done));repeat' (first
    |(apply ah ?_;clear hK K)|apply Rx.o ?_|apply ak ?_|(apply zff fun K hK=>?_)|apply ay ?_|apply zfh ?_|apply ax ?_|apply zfr ?_)
   refine JB (fun E' H'=>E'.at 2=.nilS/\E'.at 0=iI l/\E'.at 3=v/\E'.at 4=.int .i64 i/\E'.at 5=.sl U.next 0 16 1/\H'.get U.next=some (.cells ((jc (t7 n h)).map .bool) 0 true)/\H'.next=H3.next/\∀x,x<U.next->H'.get x=U.get x) ?_ ?_
   .by_cases h3:n.op=3
    .obtain⟨m0,zfJ⟩:=hon.lv h3;have hd:n.imm.tdiv 16=n.imm/16:=mo m0;obtain⟨m,hm⟩:=jw (show 0<=n.imm.tdiv 16 by omega);have hm16:m<16:=ac;have ew:IntKind.wrap .i64 (m:Int)=m:=zhb ac ac;have hixq:=vF (q:=U.next) hm16;have hst:=Br gb (m:=m) (by rw[vX];exact hm16) true;clear hd;repeat' (first
      |(apply ah ?_;clear hK K)|apply Ry.o ?_|apply bM ?_|apply ib ?_|(apply bC (fun J Y=>?_) (fun J Y=>?_)<;>try(cases J;done))|(apply aL (fun V Z=>?_) (fun V Z=>?_)<;>try(cases V;done))|apply ak ?_|(apply zff fun K hK=>?_)|apply ay ?_|apply zfh ?_|apply ax ?_|apply zfr ?_)
     refine⟨rfl,eE,eE,eE,eE,eE,?_,rfl,fun x hx=>by rw[aQ,af ac];exact fb x hx⟩;rw[aQ,aq rfl,Nz]
     congr 3
     apply yD;intro t ht;rw[<-NA,dt h3,hm,fy];by_cases e:t=m
     .subst e;simp
     .rw[af e,d6 (show ¬(t:Int)=(m:Int) by omega),gK]
    .repeat' (first
      |(apply ah ?_;clear hK K)|apply Ry.o ?_|apply bM ?_|apply ib ?_|(apply bC (fun J Y=>?_) (fun J Y=>?_)<;>try(cases J;done))|(apply aL (fun V Z=>?_) (fun V Z=>?_)<;>try(cases V;done))|apply ak ?_|(apply zff fun K hK=>?_)|apply ay ?_|apply zfh ?_|apply ax ?_|apply zfr ?_)
     refine⟨rfl,eE,eE,eE,eE,eE,?_,rfl,fb⟩;rw[gb]
     congr 3
     apply yD;intro t ht;rw[<-NA,d6 h3,eJ,gK]
   clear gb g5 fb;rintro E5 H5 ⟨k2,k0,k3',k4,k5,g6,n5,f6⟩;dsimp only[nE];have n5':U.next+2<=H5.next:=ac
   clear n5;have hv5:lY (H5.alloc (.cells [.sl U.next 0 16 1] 0 true)) v h:=hv.keep fx fun x hx=>by rw[zfk,af ac];exact f6 x hx
   obtain⟨v',H6,a6,o6,n6⟩:=hv5.push (x:=U.next) (r:=H5.next) (imm:=0) (b:=jc (t7 n h)) fx (fun q o m z e=>by have:=hv.lt e;omega) (by rw[zfk,af ac];exact g6) (vX _) kV ac;have n6':U.next<=H6.next:=by simp only[zfw]at n6;omega
   clear n6 hv5;repeat' (first
    |(apply ah ?_;clear hK K)|apply Rx.o ?_|(apply bt (fun V Z=>?_) (fun V Z=>?_)<;>try(cases V;done))|apply ak ?_|(apply zff fun K hK=>?_)|apply ay ?_|apply zfh ?_|apply ax ?_|apply zfr ?_)
   refine⟨ac,eL,eL,zf4,rD,?_⟩;exact⟨v',eE,by rw[hrow];exact o6⟩
 .have hlt':¬(i:Int)<l.length:=by omega
  repeat' (first
   |(apply ah ?_;clear hK K)|apply Ry.o ?_|apply bM ?_|apply ib ?_|(apply bC (fun J Y=>?_) (fun J Y=>?_)<;>try(cases J;done))|(apply aL (fun V Z=>?_) (fun V Z=>?_)<;>try(cases V;done))|apply ak ?_|(apply zff fun K hK=>?_)|apply ay ?_|apply zfh ?_|apply ax ?_|apply zfr ?_)
  all_goals (refine⟨zfj,_,zfq,?_⟩;try simp only[zfi])
  have hie:i=l.length:=ac;subst hie;exact hv.ice (by rw[sC];exact hpos))
end
end Go.Proofs.YtpbcimfiofmoeaaGreat
