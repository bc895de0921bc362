/- Parts: SpecI, EsP, AbWt, Pls, Facts, AbFor. -/
import Derived.KernelRfl
import Derived.Test.YtljebeflbbgibaaGreatRows
import Derived.Test.YtljebeflbbgibaaGreatXCE
set_option linter.unusedSimpArgs false
set_option linter.unusedVariables false
set_option linter.unusedSectionVars false
set_option linter.defProp false
set_option maxHeartbeats 32000000
namespace Go.Ab
set_option maxRecDepth 20000
open Go
theorem pf{P:Prop}(h:P:=by rw[zf2];omega):P:=h
theorem dk{P:Prop}(h:P:=by decide):P:=h
theorem ET{P:Prop}(h:P:=by simp only[List.mem_cons,List.not_mem_nil,or_false]at j;omega):P:=h
theorem xh{P:Prop}(h:P:=by simp[my];omega):P:=h
theorem sk{P:Prop}(h:P:=by rw[F];rfl):P:=h
theorem EU{P:Prop}(h:P:=by simp only[zdE,gU,beq_self_eq_true,cond_true]):P:=h
theorem af{P:Prop}(h:P:=by kernel_rfl):P:=h
theorem qr{P:Prop}(h:P:=by cases k<;>kernel_rfl):P:=h
def cS:=@List.getD_eq_getElem?_getD
def uz:=@List.headD_cons
def cP:=@Nat.lt_succ_self
def ke:=@List.getElem?_cons_zero
def uA:=@List.mem_singleton
def sm:=@List.not_mem_nil
def sn:=@or_false
def ad:=@And.intro
def gX:=@Bool.not_false
def dw:=@Bool.true_and
def aX:=@and_true
end Go.Ab
namespace Go.Ab
set_option maxRecDepth 20000
open Go
instance:DecidableEq Nd:=fun x y=>decidable_of_iff (x.op=y.op/\x.imm=y.imm/\x.kids=y.kids) (by cases x;cases y;simp)
def bg(op:Int):Int×Bool:=
 if op=1\/op=2\/op=3\/op=26 then (0,true)
 else if op=20\/op=21\/op=24\/op=25 then (1,true)
 else if op=23\/op=27\/op=29 then (2,true)
 else if op=22\/op=28 then (3,true)
 else if op=30\/op=31 then (-1,true)
 else if 4<=op/\op<=19 then (2,true)
 else (0,false)
def dR(n:Int):Int:=(n-1).tdiv 2
def ki(l:List Nd)(k:Int):Int:=match l[k.toNat]? with
 |some n=>n.kids.length
 |none=>0
def zeC(l:List Nd)(n:Nd):Int:=
 if n.op=2 then 5 else if n.op=3 then 255 else if n.op=23\/n.op=28 then 3 else if n.op=30 then 7 else if n.op=31 then 15
 else if n.op=25 then dR (ki l (n.kids.headD 0))-1 else 0
def zeh(l:List Nd)(n:Nd):Bool:=
 if n.op=1 then true
 else if n.op=27 then decide (1<=n.imm)&&decide (n.imm<=1000016)
 else decide (0<=n.imm)&&decide (n.imm<=zeC l n)
def zet(op:Int):List Int:=
 if op=22 then [1,1,1]else if op=23\/op=27\/op=29 then [2,1]else if op=28 then [2,1,1]else if op=24 then [2]else if op=25 then [3]else [1,1]
def zed:List Int->List Int->Bool
 |[],_=>true
 |a::s,w=>decide (a=w.headD 0)&&zed s w.tail
def iL(n:Nat):List Int:=((List.replicate n (1:Int)).set 0 2).set (dR n+1).toNat 2
def zd2(op:Int)(s:List Int):Bool:=
 if (bg op).2=false then false
 else if 0<=(bg op).1/\(bg op).1≠s.length then false
 else if op=31 then decide (3<=s.length)&&decide (s.length%2=1)&&decide (dR s.length<=16)&&zed s (iL s.length)
 else if op=30 then decide (1<=s.length)&&decide (s.length<=7)&&decide (s.headD 0=2)&&s.tail.all fun x=>decide (x=1)
 else if op=22/\s.getD 1 0=2 then decide (s.headD 0=1)&&decide (s.getD 2 0=2)
 else zed s (zet op)
def jx(i:Nat)(j:List Int):List Int->Option (List Int)
 |[]=>some []
 |k::ks=>if k<0\/(i:Int)<=k\/j.getD k.toNat 0=0 then none else (jx i j ks).map fun s=>j.getD k.toNat 0::s
def zey(n:Nd)(s:List Int):Int:=
 if n.op=31 then 3
 else if n.op=26\/n.op=27\/n.op=28\/n.op=29\/n.op=30 then 2
 else if n.op=22 then s.getD 1 0
 else if n.op=3/\n.imm.tmod 16=0 then 2
 else if n.op=25/\n.imm=0 then 2
 else 1
def jV(l:List Nd)(i:Nat)(j:List Int):Int:=match l[i]? with
 |none=>0
 |some n=>match jx i j n.kids with
  |none=>0
  |some s=>if zd2 n.op s&&zeh l n then zey n s else 0
def zd0(l:List Nd):Nat->List Int
 |0=>[]
 |i+1=>zd0 l i++[jV l i (zd0 l i)]
def zeo(l:List Nd)(i:Int):Int:=if i<0\/(l.length:Int)<=i then 0 else (zd0 (l.take (i.toNat+1)) (i.toNat+1)).getD i.toNat 0
theorem zf2(l:List Nd):∀i,(zd0 l i).length=i
 |0=>rfl
 |i+1=>by rw[zd0,ep,zf2 l i];rfl
theorem uB(l:List Nd):∀{i j:Nat},j<i->(zd0 l i).getD j 0=jV l j (zd0 l j)
 |0,j,h=>by omega
 |i+1,j,h=>by
  rw[zd0];by_cases e:j<i
  .rw[cS,fz (by rw[zf2];exact e),<-cS];exact uB l e
  .obtain rfl:j=i:=by omega
   rw[cS,fZ pf,zf2,gT];rfl
theorem so{i:Nat}{j:List Int}:∀{U s:List Int},jx i j U=some s->∀k∈U,0<=k/\k<i/\j.getD k.toNat 0≠0
 |[],s,_,k,h=>by simp at h
 |a::U,s,h,k,Z=>by
  rw[jx]at h;split at h
  .cases h
  .rename_i c;obtain⟨t,I,_⟩:=mR.1 h;rcases ff.1 Z with rfl|Z
   .omega
   .exact so I k Z
theorem pg{i:Nat}{j:List Int}:∀{U s:List Int},jx i j U=some s->s.length=U.length
 |[],s,h=>by cases h;rfl
 |a::U,s,h=>by
  rw[jx]at h;split at h
  .cases h
  .obtain⟨t,I,rfl⟩:=mR.1 h;rw[dq,dq,pg I]
theorem N7{l:List Nd}{i:Nat}{j:List Int}{n:Nd}(m:l[i]?=some n)(h:jV l i j≠0):∃s,jx i j n.kids=some s/\zd2 n.op s=true/\zeh l n=true:=by
 unfold jV at h;rw[m]at h;simp only at h;split at h
 .exact absurd rfl h
 .rename_i s K;split at h
  .rename_i c;rw[dC]at c;exact⟨s,K,c.1,c.2⟩
  .exact absurd rfl h
theorem N8{l:List Nd}{m:Nat}{n:Nd}(h:n.op=25->∃k U,n.kids=k::U/\k.toNat<m):zeh (l.take m) n=zeh l n:=by
 have e:zeC (l.take m) n=zeC l n:=by
  unfold zeC;by_cases c:n.op=25
  .obtain⟨k,U,i,g⟩:=h c;rw[c];simp only[i,uz,ki,mQ,g,bT]
  .simp only[c,cn]
 unfold zeh;rw[e]
theorem N9{l:List Nd}{i m:Nat}(M:i<m)(j:List Int):jV (l.take m) i j=jV l i j:=by
 unfold jV;rw[mQ,az M];cases O:l[i]? with
 |none=>rfl
 |some n=>
  simp only;cases Z:jx i j n.kids with
  |none=>rfl
  |some s=>
   simp only;by_cases c:zd2 n.op s=true
   .have e:zeh (l.take m) n=zeh l n:=N8 fun K=>by
     have F:=pg Z;have V:s.length=1:=by
      have c2:=c;unfold zd2 at c2;rw[K]at c2;have:bg 25=(1,true):=dk;rw[this]at c2;simp only at c2;split at c2
      .cases c2
      .split at c2
       .cases c2
       .omega
     cases Y:n.kids with
     |nil=>rw[Y,V]at F;simp at F
     |cons k U=>
      refine⟨k,U,rfl,?_⟩;have:=so Z k (by rw[Y];exact fh);omega
    rw[e]
   .have I:zd2 n.op s=false:=by simpa using c
    rw[I,dZ,dZ]
theorem EV{l:List Nd}{m:Nat}:∀{i:Nat},i<=m->zd0 (l.take m) i=zd0 l i
 |0,_=>rfl
 |i+1,h=>by rw[zd0,zd0,EV (by omega:i<=m),N9 ac]
theorem EW{l:List Nd}{i:Nat}(h:i<l.length):zeo l i=jV l i (zd0 l i):=by
 unfold zeo;rw[ai ac,dQ,EV (aM _),uB l (cP i)]
theorem Oa{l:List Nd}{i j:Nat}(O:j<i)(A:i<=l.length):(zd0 l i).getD j 0=zeo l j:=by
 rw[uB l O,EW ac]
end Go.Ab
namespace Go.Proofs.YtljebeflbbgibaaGreat
set_option maxRecDepth 20000
open Go Go.Ab
def mr(c:Int):List Nd:=[⟨26,0,[]⟩,⟨1,8,[]⟩,⟨1,0,[]⟩,⟨29,0,[0,1]⟩,⟨27,c,[3,2]⟩]
noncomputable def ze2(l:List Nd)(n:Nd):List Nd:=if n∈l then l else l++[n]
noncomputable def ph(store:Bool)(s:Int)(l:List Nd):Nd:=if store then ⟨28,0,[s,2,(l.length:Int)-1]⟩else ⟨29,0,[s,(l.length:Int)-1]⟩
noncomputable def ss(store:Bool)(l:List Nd)(s:Int)(o:Int):List Nd:=ze2 (ze2 l ⟨1,o,[]⟩) (ph store s (ze2 l ⟨1,o,[]⟩))
def mw:S9:=⟨[[0]],[],3,0,0,0⟩
def xi(c:Int)(s:S9):Prop:=s.ed=2/\s.code=c/\s.out=[8]/\∃x,s.cells=[[x]]
structure Es9 (c:Int) (l:List Nd) (D:List R9):Prop where
 den:Den9 l mw [] D
 len:5<=l.length
 two:D[2]?=some ⟨true,0,none⟩
 stop:∀(j:Nat) nd,4<=j->l[j]?=some nd->nd.op=27\/nd.op=28\/nd.op=29->∃s,D[j]?=some ⟨true,0,some s⟩/\xi c s
 flat:∀nd∈l,nd.op≠3/\nd.op≠31
theorem EX{D:List R9}(r:R9){k:Int}(A:0<=k)(h:k<D.length):zeg (D++[r]) k=zeg D k:=by
 rw[zeg,zeg,az A,az A,fz ac]
theorem EY{D:List R9}(r:R9){n:Nd}(h:∀k∈n.kids,0<=k/\k<D.length)(j:Nat):et (D++[r]) n j=et D n j:=by
 unfold et;cases O:n.kids[j]? with
 |none=>rfl
 |some k=>
  obtain⟨a,b⟩:=h k (i5 O);rw[da,da,EX r a b]
theorem EZ{D:List R9}(r:R9){n:Nd}{start:S9}{args:List Int}(h:∀k∈n.kids,0<=k/\k<D.length):jY start args (D++[r]) n=jY start args D n:=by
 by_cases F:n.op=22
 .have hc:∀R,jY start args R n=(j8 R n).bind (zeg R):=fun R=>by
   unfold jY;rw[ai ac,ai ac,ai ac,az F]
  have K:j8 (D++[r]) n=j8 D n:=by unfold j8;rw[EY r h]
  rw[hc,hc,K];cases e:j8 D n with
  |none=>rfl
  |some k=>
   rw[da,da];unfold j8 at e;obtain⟨q,_,C⟩:=cm.1 e;have M:k∈n.kids:=by
    split at C<;>exact i5 C
   exact EX r (h k M).1 (h k M).2
 .exact EO F fun j=>EY r h j
theorem Den9.snoc{l:List Nd}{start:S9}{args:List Int}{D:List R9}(h:Den9 l start args D){n:Nd}(j:∀k∈n.kids,0<=k/\k<(l.length:Int)){r:R9}(hr:jY start args D n=some r):Den9 (l++[n]) start args (D++[r.known]):=by
 have F:=h.len;refine⟨by rw[ep,ep,F];rfl,fun i J A=>?_,fun i J A=>?_⟩
 .by_cases c:i<l.length
  .rw[fz c]at A;exact h.kids i J A
  .rw[fZ ac]at A;have:i=l.length:=by
    by_cases e:i-l.length=0
    .omega
    .rw[fg cf]at A;cases A
   subst this;rw[gT]at A;simp only[ke,aA]at A;subst A;exact j
 .by_cases c:i<l.length
  .rw[fz c]at A;obtain⟨q,Y,g⟩:=h.ok i J A;refine⟨q,?_,by rw[fz ac];exact g⟩;rw[EZ _ fun k j=>?_]
   .exact Y
   .have:=h.kids i J A k j;omega
  .rw[fZ ac]at A;have:i=l.length:=by
    by_cases e:i-l.length=0
    .omega
    .rw[fg cf]at A;cases A
   subst this;rw[gT]at A;simp only[ke,aA]at A;subst A;refine⟨r,?_,by rw[fZ ac,F,gT];rfl⟩;rw[EZ _ fun k Z=>by have:=j k Z;omega];exact hr
theorem AK{c:Int}{l:List Nd}{D:List R9}(h:Es9 c l D){n:Nd}{s:Nat}{q:Int}(K:∃st,D[s]?=some ⟨true,0,some st⟩/\xi c st)(F:0<=q/\q<l.length)
 (m:(∃j,n=⟨29,j,[(s:Int),q]⟩)\/(∃j,n=⟨27,j,[(s:Int),q]⟩)\/n=⟨28,0,[(s:Int),2,q]⟩):∃st,jY mw [] D n=some ⟨false,0,some st⟩/\xi c st:=by
 obtain⟨st,Y,g,Z,U,x,i⟩:=K;have A:zeg D (s:Int)=some ⟨true,0,some st⟩:=by rw[mp];exact Y
 obtain⟨C,V⟩:=uy (res:=D) F.1 (by rw[h.den.len];exact F.2);have O:zeg D 2=some ⟨true,0,none⟩:=h.two;rcases m with⟨j,rfl⟩|⟨j,rfl⟩|rfl
 .refine⟨st,?_,g,Z,U,x,i⟩;have e:jY mw [] D ⟨29,j,[(s:Int),q]⟩=((zeg D (s:Int)).bind fun r=>r.s.bind fun s=>if s.ed≠0 then some s else (zeg D q).bind fun a=>some {s with out:=a.v::s.out}).bind fun s=>some ⟨false,0,some s⟩:=rfl;rw[e,A,da,da,az tX];rfl
 .refine⟨st,?_,g,Z,U,x,i⟩;have e:jY mw [] D ⟨27,j,[(s:Int),q]⟩=((zeg D (s:Int)).bind fun r=>r.s.bind fun s=>if s.ed≠0 then some s else (zeg D q).bind fun a=>some (if a.v≠0 then s else {s with ed:=2,code:=j})).bind fun s=>some ⟨false,0,some s⟩:=rfl;rw[e,A,da,da,az tX];rfl
 .refine⟨{st with cells:=[[C.v]] },?_,g,Z,U,C.v,rfl⟩;have e:jY mw [] D ⟨28,0,[(s:Int),2,q]⟩=((zeg D (s:Int)).bind fun r=>r.s.bind fun s=>(zeg D 2).bind fun a=>(zeg D q).bind fun b=>xd s 0 a.v b.v).bind fun s=>some ⟨false,0,some s⟩:=rfl;rw[e,A,O,V,da,da,da,da];obtain⟨M,o,f,ed,L,z⟩:=st;simp only at i;subst i;rfl
theorem Es9.snoc{c:Int}{l:List Nd}{D:List R9}(h:Es9 c l D){n:Nd}(V:∀k∈n.kids,0<=k/\k<(l.length:Int)){r:R9}(hr:jY mw [] D n=some r)(K:n.op≠3/\n.op≠31)(U:n.op=27\/n.op=28\/n.op=29->∃s,r.known=⟨true,0,some s⟩/\xi c s):Es9 c (l++[n]) (D++[r.known]):=by
 have F:=h.den.len;have M:=h.len;refine⟨h.den.snoc V hr,by rw[ep];omega,by rw[fz ac];exact h.two,fun j Z O A g=>?_,fun Z J=>?_⟩
 .by_cases c1:j<l.length
  .rw[fz c1]at A;obtain⟨s,i,Y⟩:=h.stop j Z O A g;exact⟨s,by rw[fz ac];exact i,Y⟩
  .rw[fZ ac]at A;have:j=l.length:=by
    by_cases e:j-l.length=0
    .omega
    .rw[fg cf]at A;cases A
   subst this;rw[gT]at A;simp only[ke,aA]at A;subst A;obtain⟨s,i,Y⟩:=U g;exact⟨s,by rw[fZ ac,F,gT,i];rfl,Y⟩
 .rcases oa.1 J with J|J
  .exact h.flat Z J
  .rw[uA.1 J];exact K
theorem Ob{c:Int}{l:List Nd}{D:List R9}(h:Es9 c l D)(o:Int):∃F,Es9 c (ze2 l ⟨1,o,[]⟩) F:=by
 unfold ze2;split
 .exact⟨D,h⟩
 .exact⟨_,h.snoc (n:=⟨1,o,[]⟩) (fun k j=>by cases j) (r:=⟨false,o,none⟩) rfl ⟨aB,aB⟩ (fun e=>by simp at e)⟩
theorem Od{c:Int}{l:List Nd}{D:List R9}(h:Es9 c l D)(store:Bool){s:Nat}(U:4<=s){nd:Nd}(K:l[s]?=some nd)(g:nd.op=27\/nd.op=28\/nd.op=29):∃F,Es9 c (ze2 l (ph store s l)) F:=by
 have Y:s<l.length:=(de.1 K).1;have V:=h.len;unfold ze2;split
 .exact⟨D,h⟩
 .have A:=h.stop s nd U K g;cases store with
  |true=>
   obtain⟨st,i,Z⟩:=AK h A (q:=(l.length:Int)-1) (n:=⟨28,0,[(s:Int),2,(l.length:Int)-1]⟩) ⟨ac,ac⟩ (.inr (.inr rfl));exact⟨_,h.snoc (n:=⟨28,0,[(s:Int),2,(l.length:Int)-1]⟩) (fun k j=>ET) i ⟨aB,aB⟩ (fun _=>⟨st,rfl,Z⟩)⟩
  |false=>
   obtain⟨st,i,Z⟩:=AK h A (q:=(l.length:Int)-1) (n:=⟨29,0,[(s:Int),(l.length:Int)-1]⟩) ⟨ac,ac⟩ (.inl ⟨0,rfl⟩);exact⟨_,h.snoc (n:=⟨29,0,[(s:Int),(l.length:Int)-1]⟩) (fun k j=>ET) i ⟨aB,aB⟩ (fun _=>⟨st,rfl,Z⟩)⟩
def Oe(c:Int):List R9:=[⟨true,0,some mw⟩,⟨true,8,none⟩,⟨true,0,none⟩,⟨true,0,some {mw with out:=[8] }⟩,⟨true,0,some {mw with out:=[8],ed:=2,code:=c}⟩]
theorem Of(c:Int):Es9 c (mr c) (Oe c) where
 den:=⟨rfl,fun i Z h q F=>by
  match i,h with
  |0,h=>cases h;cases F
  |1,h=>cases h;cases F
  |2,h=>cases h;cases F
  |3,h=>cases h;simp at F;omega
  |4,h=>cases h;simp at F;omega
  |_+5,h=>simp[mr]at h,fun i Z h=>by
  match i,h with
  |0,h=>cases h;exact⟨_,rfl,rfl⟩
  |1,h=>cases h;exact⟨_,rfl,rfl⟩
  |2,h=>cases h;exact⟨_,rfl,rfl⟩
  |3,h=>cases h;exact⟨_,rfl,rfl⟩
  |4,h=>cases h;exact⟨_,rfl,rfl⟩
  |_+5,h=>simp[mr]at h⟩
 len:=by simp[mr]
 two:=rfl
 stop:=fun j Z O A g=>by
  match j,A with
  |0,_=>omega
  |1,_=>omega
  |2,_=>omega
  |3,_=>omega
  |4,A=>exact⟨{mw with out:=[8],ed:=2,code:=c},rfl,rfl,rfl,rfl,0,rfl⟩
  |_+5,A=>simp[mr]at A
 flat:=fun Z J=>by
  simp only[mr,ff,sm,sn]at J;rcases J with rfl|rfl|rfl|rfl|rfl<;>exact⟨aB,aB⟩
def my(l:List Nd)(s d:Int):Gr:=⟨[102],0,l++[⟨27,d,[s,2]⟩],1,l.length⟩
theorem Og{c:Int}{l:List Nd}{D:List R9}(h:Es9 c l D)(Y:l.length<2000){s:Nat}(U:4<=s){nd:Nd}(K:l[s]?=some nd)(Z:nd.op=27\/nd.op=28\/nd.op=29)(d:Int):∃n m,xe n m (my l s d) mw []=some ⟨2,c,[8],0⟩:=by
 have C:s<l.length:=(de.1 K).1;have h5:=h.len;obtain⟨st,M,V⟩:=AK h (h.stop s nd U K Z) (q:=2) (n:=⟨27,d,[(s:Int),2]⟩) ⟨ac,ac⟩ (.inr (.inl ⟨d,rfl⟩));have z:=h.snoc (n:=⟨27,d,[(s:Int),2]⟩) (fun k O=>by simp only[ff,sm,sn]at O;omega) M ⟨aB,aB⟩ (fun _=>⟨st,rfl,V⟩);have o:=h.den.len;obtain⟨A,L⟩:∃A,(D++[(⟨false,0,some st⟩:R9).known])[1]?=some A:=⟨_,aR (by rw[ep];omega)⟩;obtain⟨n,m,e⟩:=N6 (g:=my l s d) xh z.den (i:=l.length) (j:=1) rfl (by simp[my]) rfl xh (ri:=⟨true,0,some st⟩) (by rw[fZ ac,o,gT];rfl) rfl L;obtain⟨J,I,F,x,g4⟩:=V;refine⟨n,m,e.trans ?_⟩;rw[lH,az J,I,F];rfl
end Go.Proofs.YtljebeflbbgibaaGreat
namespace Go.Ab
set_option maxRecDepth 20000
open Go
structure Rc where
 op:Op
 did:Bool
 E:ax
 H:Hp
 val:AV
 H':Hp
section
variable (P:Program) (cfg:Cfg) (f:FuncId)
def dz:List SOp->List Rc->ax->Hp->(List Rc->ax->Hp->Prop)->Prop
 |[],tr,E,H,Q=>Q tr E H
 |o::l,tr,E,H,Q=>match o.g with
  |none=>fS P cfg f o.op E H fun v H'=>dz l (tr++[⟨o.op,true,E,H,v,H'⟩]) (zdE E o.d v) H' Q
  |some (s,b)=>(E.at s=.bool b/\fS P cfg f o.op E H fun v H'=>dz l (tr++[⟨o.op,true,E,H,v,H'⟩]) (zdE E o.d v) H' Q)\/((E.at s=.bool (!b)\/E.at s=zev)/\dz l (tr++[⟨o.op,false,E,H,zev,H⟩]) (zdE E o.d zev) H Q)
def uC(F:List Rc)(H':Hp)(m:Nat):Hp:=match F[m]? with
 |some r=>r.H
 |none=>H'
def m7(r:Rc)(H:Hp):Prop:=match ze9 r.op with
 | .read=>∃g,zez P cfg (fun _=>.fail) 0 r.E H r.op=.val r.val g
 | .make=>∃b,H.get r.H.next=some b/\r.H'.get r.H.next=some b
 |_=>True
def xj(F:List Rc)(H':Hp)(i m:Nat):Prop:=match F[i]? with
 |some r=>r.did=true->m7 P cfg r (uC F H' m)
 |none=>True
def oq(M:List (Nat×Nat))(F:List Rc)(H':Hp):Prop:=(∀r∈F,r.H.next<=r.H'.next)/\∀p∈M,xj P cfg F H' p.1 p.2
end
section
variable {P:Program} {cfg:Cfg} {f N:Nat}
def qs(r:Rec):Rc:=⟨r.o.op,r.did,r.E,r.H,r.val,r.H'⟩
theorem HB.beq_refl(b:HB):HB.beq b b=true:=by
 cases b with
 |cells a i t=>simp[HB.beq,zga]
 |map C=>simp[HB.beq,zga]
theorem dz.run{J:List Oper}{Q:List Rc->ax->Hp->Prop}:∀{l:List Oper}{r:List SOp}{Z:List Rc}{E:ax}{H:Hp},zdD N J l=some r->dz P cfg f r Z E H Q ->
 ∃n E' H' rs,gL P cfg (ev P cfg n) f N J l E H=.done E' H' rs/\Q (Z++rs.map qs) E' H'
 |[],r,Z,E,H,hs,F=>by
  simp only[zdD,aA]at hs;subst hs;unfold dz at F;exact⟨0,E,H,[],rfl,by simpa using F⟩
 |o::l,r,Z,E,H,hs,F=>by
  simp only[zdD]at hs;split at hs
  .rename_i d g r' i h2 A;simp only[aA]at hs;subst hs;obtain⟨zft,z⟩:=Eh (E:=E) h2;have Y:∀k k',k<=k'->zfm (ev P cfg k) (ev P cfg k'):=fun k k' hk t ht=>Au hk ht;have V:fS P cfg f o.op E H (fun v H'=>dz P cfg f r' (Z++[⟨o.op,true,E,H,v,H'⟩]) (zdE E d v) H' Q)->zfr J E o=true->∃n E' H' rs,gL P cfg (ev P cfg n) f N J (o::l) E H=.done E' H' rs/\Q (Z++rs.map qs) E' H':=fun I K=>by
    unfold fS at I;obtain⟨n,v,H1,j,g2⟩:=I;obtain⟨m,U,M,rs,O,L⟩:=dz.run A g2;refine⟨max n m,U,M,⟨o,true,E,H,v,H1⟩::rs,?_,by simpa [qs]using L⟩;simp only[gL,K];rw[wU (Y n (max n m) (wS _ _)) (by rw[j];simp),j];simp only[wY i,zfW];rw[wW (Y m (max n m) (wT _ _)) (by rw[O];simp),O];rfl
   unfold dz at F;cases C:g with
   |none=>
    rw[C]at F;exact V F (zft C)
   |some sb=>
    obtain⟨s,b⟩:=sb;rw[C]at F;simp only[]at F;rcases F with⟨e,F⟩|⟨e,F⟩
    .exact V F ((z s b C).1 e)
    .obtain⟨m,U,M,rs,O,L⟩:=dz.run A F;refine⟨m,U,M,⟨o,false,E,H,zev,H⟩::rs,?_,by simpa [qs]using L⟩;simp only[gL,(z s b C).2 e,wY i,zfW,O,lc]
  .simp at hs
theorem Oh{M:List (Nat×Nat)}{rs:List Rec}{H':Hp}(h:oq P cfg M (rs.map qs) H'):pU P cfg M rs H'=true:=by
 unfold pU;simp only[dC,gS];refine⟨fun r Z=>Nat.ble_eq_true_of_le (h.1 _ (l8.2 ⟨r,Z,rfl⟩)),fun p hp=>?_⟩;have K:=h.2 p hp;have m:uC (rs.map qs) H' p.2=zd5 rs H' p.2:=by
  unfold uC zd5;rw[dK];cases rs[p.2]? <;>rfl
 unfold xj at K;rw[dK,m]at K;cases hr:rs[p.1]? with
 |none=>rfl
 |some r=>
  rw[hr]at K;simp only[iZ,qs]at K;simp only[oc,l7];cases hd:r.did with
  |false=>exact .inl rfl
  |true=>
   right
   have K:=K hd;unfold m7 at K;unfold zcL;cases j:ze9 r.o.op with
   |calm=>rfl
   |act=>rfl
   |read=>
    rw[j]at K;simp only[]at K⊢;obtain⟨Y,g⟩:=K;rw[g];exact AV.beq_refl _
   |make=>
    rw[j]at K;simp only[]at K⊢;obtain⟨b,i,g⟩:=K;rw[i,g];exact HB.beq_refl b
theorem E6{id:Nat}{ops A:List Oper}{l:List SOp}{M:List (Nat×Nat)}{E:ax}{H:Hp}{Q:AX->ax->Hp->Prop}
 (Z:∀ih:Task->Res,zfx P cfg ih f N E H (cfg.plan f id) ops=j0 P cfg ih f N A E H) (Y:mO A=true) (V:zdD N A A=some l) (m:lh A=M)
 (h:∀K:List Rc->ax->Hp->Prop,(∀F E' H',oq P cfg M F H'->Q .normal E' H'->K F E' H')->dz P cfg f l [] E H K):zdX P cfg f N (.draw id ops) E H Q:=by
 unfold zdX;intro code hc;cases code with
 |region O g draw=>
  cases draw with
  |false=>simp only[aC,zdG]at hc;split at hc<;>simp at hc
  |true=>
   simp only[aC,SC.draw.injEq]at hc;obtain⟨rfl,rfl⟩:=hc;obtain⟨n,E',H',rs,i,U,o⟩:=dz.run V (h (fun F E' H'=>oq P cfg M F H'/\Q .normal E' H') fun _ _ _ h I=>⟨h,I⟩);refine⟨_,_,_,zek.draw (n:=n) (r:=.done .normal E' H') ?_ aB,o⟩;rw[Z];unfold j0;rw[Y];simp only[i];rw[m,Oh (by simpa using U)]
 |_=>simp[aC]at hc
theorem Oi{id:Nat}{ops:List Oper}{l:List SOp}{M:List (Nat×Nat)}{E:ax}{H:Hp}{Q:AX->ax->Hp->Prop}(F:cfg.plan f id=.text)(Y:mO ops=true)(V:zdD N ops ops=some l)(m:lh ops=M)
 (h:∀K:List Rc->ax->Hp->Prop,(∀Z E' H',oq P cfg M Z H'->Q .normal E' H'->K Z E' H')->dz P cfg f l [] E H K):zdX P cfg f N (.draw id ops) E H Q:=
 E6 (fun ih=>sk) Y V m h
theorem Oj{id:Nat}{ops:List Oper}{J:List Nat}{l:List SOp}{M:List (Nat×Nat)}{E:ax}{H:Hp}{Q:AX->ax->Hp->Prop}(F:cfg.plan f id=.perm J)(z:tN J ops=true)(Y:mO (fF J ops)=true)(V:zdD N (fF J ops) (fF J ops)=some l)(m:lh (fF J ops)=M)
 (h:∀K:List Rc->ax->Hp->Prop,(∀Z E' H',oq P cfg M Z H'->Q .normal E' H'->K Z E' H')->dz P cfg f l [] E H K):zdX P cfg f N (.draw id ops) E H Q:=
 E6 (fun ih=>by rw[F];simp only[zfx,z]) Y V m h
theorem dz.nil{F:List Rc}{E:ax}{H:Hp}{Q:List Rc->ax->Hp->Prop}(h:Q F E H):dz P cfg f [] F E H Q:=h
theorem dz.step{d:Nat}{op:Op}{l:List SOp}{Z:List Rc}{E:ax}{H:Hp}{Q:List Rc->ax->Hp->Prop}
 (h:aE P cfg f [⟨some d,op,none⟩] E H fun E' H'=>dz P cfg f l (Z++[⟨op,true,E,H,E'.at d,H'⟩]) E' H' Q):dz P cfg f (⟨some d,op,none⟩::l) Z E H Q:=by
 unfold aE at h;simp only[]at h;unfold dz;refine fS.mono (fun v H' F=>?_) h;unfold aE at F;have:(zdE E (some d) v).at d=v:=EU;rw[this]at F;exact F
def bl:=@dz.step
theorem zfJ{op:Op}{l:List SOp}{F:List Rc}{E:ax}{H:Hp}{Q:List Rc->ax->Hp->Prop}(j:ze9 op=.act)
 (h:aE P cfg f [⟨none,op,none⟩] E H fun E' H'=>∀v,dz P cfg f l (F++[⟨op,true,E,H,v,H'⟩]) E' H' Q):dz P cfg f (⟨none,op,none⟩::l) F E H Q:=by
 unfold aE at h;simp only[]at h;unfold dz;refine fS.mono (fun v H' Z=>?_) h;unfold aE at Z;exact Z v
theorem dz.guard{d:Option Nat}{op:Op}{s:Nat}{b t:Bool}{l:List SOp}{F:List Rc}{E:ax}{H:Hp}{Q:List Rc->ax->Hp->Prop}(h:E.at s=.bool t)(h1:t=b->dz P cfg f (⟨d,op,none⟩::l) F E H Q)(h2:t=!b->dz P cfg f l (F++[⟨op,false,E,H,zev,H⟩]) (zdE E d zev) H Q):
 dz P cfg f (⟨d,op,some (s,b)⟩::l) F E H Q:=by
 unfold dz;simp only[];by_cases e:t=b
 .left
  refine⟨by rw[h,e],?_⟩;have:=h1 e;unfold dz at this;exact this
 .right
  have C:t=!b:=by cases t<;>cases b<;>simp_all
  exact⟨.inl (by rw[h,C]),h2 C⟩
theorem Ol{t:TypeId}{x:Operand}{E:ax}{zd3 Z H:Hp}{v a:AV}(h:zdo E x=some a)(h1:zeX P H t a=some v):m7 P cfg ⟨.load t x,true,E,zd3,v,Z⟩ H:=
 ⟨H,by simp only[zez,cB,tG,Go.Ab.ret,h,h1,ze8]⟩
theorem Om{t:TypeId}{x y:Operand}{ok:Bool}{E:ax}{zd3 Z H:Hp}{v a b:AV}(h:zdo E x=some a)(h1:zdo E y=some b)(h2:zfv P H t a b ok=some v):m7 P cfg ⟨.lookup t x y ok,true,E,zd3,v,Z⟩ H:=
 ⟨H,by simp only[zez,cB,tL,Go.Ab.ret,h,h1,h2,ze8]⟩
theorem On{t:TypeId}{x:Operand}{E:ax}{zd3 Z H:Hp}{v a:AV}(h:zdo E x=some a)(h1:zdY P H t a=some v):m7 P cfg ⟨.call ⟨.builtin .len,#[x],#[t]⟩,true,E,zd3,v,Z⟩ H:=
 ⟨H,by simp only[zez,oU,zfj,h,mN,h1,ze8]⟩
theorem Oo{s t:TypeId}{x:Operand}{E:ax}{zd3 Z H:Hp}{v a:AV}(h:zdo E x=some a)(h1:zfA P H s t a=some v):m7 P cfg ⟨.convert s t x,true,E,zd3,v,Z⟩ H:=
 ⟨H,by simp only[zez,cB,tH,Go.Ab.ret,h,h1,ze8]⟩
theorem Oq{t:TypeId}{x:Operand}{lo A:Option Operand}{j L:Option AV}{E:ax}{zd3 Z H:Hp}{v a:AV}(h:zdo E x=some a)(h1:zfB E lo=some j)(h2:zfB E A=some L)(o:k8 P H t a j L=some v):m7 P cfg ⟨.slice t x lo A none,true,E,zd3,v,Z⟩ H:=
 ⟨H,by simp only[zez,cB,tK,Go.Ab.ret,h,h1,h2,o,ze8]⟩
theorem Ot{op:Op}{E:ax}{zd3 Z H:Hp}{v:AV}{b:HB}(j:ze9 op=.make)(h:H.get zd3.next=some b)(h2:Z.get zd3.next=some b):m7 P cfg ⟨op,true,E,zd3,v,Z⟩ H:=by
 unfold m7;rw[j];exact⟨b,h,h2⟩
theorem Ou{F:List Rc}{H':Hp}{i m:Nat}{r:Rc}(h:F[i]?=some r)(K:r.did=true->m7 P cfg r (uC F H' m)):xj P cfg F H' i m:=by
 unfold xj;rw[h];exact K
end
section
variable {P:Program} {cfg:Cfg} {f:FuncId} {l:List SOp} {E:ax} {H:Hp} {Q:ax -> Hp -> Prop} {d:Nat} {x y:Operand} {ts:Array TypeId} {k k':IntKind} {a b:Int}
theorem aE.min2(h:zdo E x=some (.int k a))(h1:zdo E y=some (.int k' b))(j:aE P cfg f l (T.set E d (some (.int k (min a b)))) H Q):aE P cfg f (⟨some d,.call ⟨.builtin .min,#[x,y],ts⟩,none⟩::l) E H Q:=
 w1 (c:=⟨.builtin .min,#[x,y],ts⟩) rfl (vs:=[.int k a,.int k' b]) Ap (v:=.int k (min a b)) (by
  simp only[mN,oT,mm,cC,cn,jI]
  congr 3;omega) j
theorem aE.max2(h:zdo E x=some (.int k a))(h1:zdo E y=some (.int k' b))(j:aE P cfg f l (T.set E d (some (.int k (max a b)))) H Q):aE P cfg f (⟨some d,.call ⟨.builtin .max,#[x,y],ts⟩,none⟩::l) E H Q:=
 w1 (c:=⟨.builtin .max,#[x,y],ts⟩) rfl (vs:=[.int k a,.int k' b]) Ap (v:=.int k (max a b)) (by
  simp only[mN,oT,mm,bT,jI]
  congr 3;omega) j
end
attribute [irreducible] dz
end Go.Ab
namespace Go.Proofs.YtljebeflbbgibaaGreat
set_option maxRecDepth 20000
open Go Go.Ab
theorem fit:Fit Tryz.prog:=Fit.of af
def pls:List (Nat×Nat×Plan):=[(7,9,(.perm [0,1,2,4,5,8,10,3,6,7,9,11])),
 (7,10,(.perm [0,1,2,4,5,8,10,3,6,7,9,11])),
 (8,4,(.perm [0,1,2,4,5,6,7,11,12,3,8,9,10,13,14])),
 (14,22,(.perm [0,1,2,3,4,5,6,7,10,8,9,11])),
 (73,14,(.perm [0,1,2,4,5,7,9,3,6,8,10])),
 (116,23,(.perm [0,1,2,3,4,5,6,7,9,10,11,12,13,14,8,15,16,17,18,19])),
 (116,24,(.perm [0,1,2,3,4,5,6,8,9,10,11,12,13,7,14,15,16])),
 (152,13,(.perm [0,1,2,3,4,5,6,8,9,7,10,11,12])),
 (176,23,(.perm [0,2,3,4,5,6,7,1,8,9]))]
def zdy:=ad @N2 (ad @List.toList_toArray.{0} (ad @zec (ad @nZ (ad @zfR (ad @lC (ad @gX (ad @List.length_map.{0,0} (ad @Int.natCast_zero (ad @M3 (ad @M4 (ad @M5 (ad @M6 (ad @M7 (ad @gU (ad @cond_true.{1} (ad @cond_false.{1} (@bC)))))))))))))))))
def zdJ:=ad @Ex.clen (ad @Ex.c0 (ad @Ex.c1 (ad @Ex.c2 (ad @Ex.c3 (ad @Ex.c4 (ad @Ex.whole (ad @Ex.one (ad @St.clen (ad @St.c0 (ad @St.c1 (ad @St.c2 (ad @St.c3 (ad @St.c4 (ad @St.c5 (ad @St.c6 (ad @St.c7 (ad @St.c8 (ad @St.c9 (ad @St.c10 (ad @St.c11 (ad @St.c12 (ad @St.c13 (ad @St.c14 (ad @St.c15 (ad @St.c16 (ad @St.whole (ad @St.one (ad @NQ (ad @St.part_value (ad @Fu.clen (ad @Fu.c0 (ad @Fu.c1 (ad @Fu.c2 (ad @Fu.c3 (ad @Fu.c4 (ad @Fu.c5 (ad @Fu.c6 (ad @Fu.c7 (ad @Fu.c8 (ad @Fu.whole (ad @Fu.one (ad @Fu.part_value (ad @Ar.clen (ad @Ar.c0 (ad @Ar.c1 (ad @Ar.whole (ad @Ar.one (ad @Pr.clen (ad @Pr.c0 (ad @Pr.c1 (ad @Pr.whole (ad @Pr.one (ad @Tk.clen (ad @Tk.c0 (ad @Tk.c1 (ad @Tk.c2 (ad @Tk.whole (ad @Tk.one (ad @Nd.clen (ad @Nd.c0 (ad @Nd.c1 (ad @Nd.c2 (ad @w7 (ad @Nd.one (ad @Gr.clen (ad @Gr.c0 (ad @Gr.c1 (ad @Gr.c2 (ad @Gr.c3 (ad @Gr.c4 (ad @Gr.whole (ad @Gr.one (ad @Un.clen (ad @Un.c0 (ad @Un.c1 (ad @Un.whole (ad @Un.one (ad @NM (ad @NN (ad @NO (ad @NP (ad @List.getElem?_drop.{0} (ad @mT (ad @if_true.{1} (ad @r8 (ad @w5 (ad @Ev (ad @Nw (ad @cells_int (ad @Ew (ad @Nx (ad @Ny (ad @Nz (ad @NA (ad @NB (ad @NC (ad @ND (ad @Ey (ad @NE (ad @NF (ad @NG (ad @NH (ad @NI (ad @NJ (ad @NK (ad @NL (ad @List.all_cons.{0} (ad @List.all_nil.{0} (ad @j6 (ad @dw (ad @aX (ad @fR (ad @cG (ad @aM (ad @List.nil_append.{0} (ad @List.append_nil.{0} (ad @List.cons_append.{0} (ad @zdA (ad @zdQ (ad @zec (ad @beq_self_eq_true.{0} (ad @Av (ad @Aw (ad @Ez (ad @io (ad @List.getElem?_map.{0,0} (ad @Option.map_some.{0,0} (ad @r4 (ad @Nv (ad @Nu (ad @Nr (ad @Ns (ad @get_set (ad @r7 (ad @List.getElem?_cons_succ.{0} (ad @List.getElem?_cons_zero.{0} (ad @List.drop_succ_cons.{0} (ad @List.drop_zero.{0} (ad @List.take_succ_cons.{0} (ad @List.take_zero.{0} (ad @List.length_cons.{0} (ad @List.length_nil.{0} (ad @Int.natCast_nonneg (ad @dQ (ad @M8 (ad @M9 (ad @Na (ad @Nb (ad @Nc (ad @Nf (ad @Ng (ad @Nh (ad @Ni (ad @Nj (ad @Nk (ad @Nl (ad @Nm (ad @Nn (ad @No (@Np))))))))))))))))))))))))))))))))))))))))))))))))))))))))))))))))))))))))))))))))))))))))))))))))))))))))))))))))))))))))))))))))))))))))))))))))))))))))))))))))
structure Plain (cfg:Cfg) (f:FuncId):Prop where
 call:∀args,cfg.call f args=none
 ice:cfg.ice f=false
 froz:cfg.froz f=false
theorem uD:zdB Tryz.prog 2=some 1:=af
theorem AL:zd6 Tryz.prog 2=some 8:=af
theorem Ov(cs:List AV)(o:Nat):zdx Tryz.prog 2 cs o=cs[o]?:=zeQ Tryz.underlying2 rfl cs o
theorem AM:zdZ Tryz.prog 2=some [(.int .i64 0)]:=af
def cN:=ad @uD (ad @Ov (ad @AL (@AM)))
theorem ju:zdB Tryz.prog 3=some 1:=af
theorem qt:zd6 Tryz.prog 3=some 8:=af
theorem Ow(cs:List AV)(o:Nat):zdx Tryz.prog 3 cs o=cs[o]?:=zeQ Tryz.underlying3 rfl cs o
theorem qu:zdZ Tryz.prog 3=some [(.int .i64 0)]:=af
def b9:=ad @ju (ad @Ow (ad @qt (@qu)))
theorem xl:zdB Tryz.prog 4=some 1:=af
theorem E7:zd6 Tryz.prog 4=some 1:=af
theorem Oz(cs:List AV)(o:Nat):zdx Tryz.prog 4 cs o=cs[o]?:=zeQ Tryz.underlying4 rfl cs o
theorem E8:zdZ Tryz.prog 4=some [(.bool false)]:=af
def lI:=ad @xl (ad @Oz (ad @E7 (@E8)))
theorem AN:zdB Tryz.prog 5=some 1:=af
theorem AO:zd6 Tryz.prog 5=some 1:=af
theorem OA(cs:List AV)(o:Nat):zdx Tryz.prog 5 cs o=cs[o]?:=zeQ Tryz.underlying5 rfl cs o
theorem AP:zdZ Tryz.prog 5=some [(.int .u8 0)]:=af
def uE:=ad @AN (ad @OA (ad @AO (@AP)))
theorem AQ:zdB Tryz.prog 9=some 1:=af
theorem AR:zd6 Tryz.prog 9=some 16:=af
theorem OB(cs:List AV)(o:Nat):zdx Tryz.prog 9 cs o=cs[o]?:=zeQ Tryz.underlying9 rfl cs o
theorem AS:zdZ Tryz.prog 9=some [(.str [])]:=af
theorem OC(H:Hp)(s:List UInt8):zdY Tryz.prog H 9 (.str s)=some (.int .i64 s.length):=Nq Tryz.underlying9 s
theorem OD(s:List UInt8){n:Int}(m:0<=n)(k:IntKind):lW Tryz.prog 9 (.str s) (.int k n)=w4 (s[n.toNat]?):=Nt Tryz.underlying9 s m k
def dA:=ad @AQ (ad @OB (ad @AR (ad @AS (ad @OC (@OD)))))
theorem OE:zdB Tryz.prog 23=some 1:=af
theorem OF:zd6 Tryz.prog 23=some 24:=af
theorem OG(cs:List AV)(o:Nat):zdx Tryz.prog 23 cs o=cs[o]?:=zeQ Tryz.underlying23 rfl cs o
theorem OH:zdZ Tryz.prog 23=some [.nilS]:=af
theorem OI(xs:List (List AV)){n:Int}(m:0<=n)(k:IntKind):zdV Tryz.prog 23 (.lst xs) (.int k n)=gE 1 (xs[n.toNat]?):=zfF Tryz.underlying23 (show zdB Tryz.prog 3=some 1 from by kernel_rfl) xs m k
theorem OJ(r o l z:Nat){n:Int}(m:0<=n)(k:IntKind):zdV Tryz.prog 23 (.sl r o l z) (.int k n)=bif decide (n.toNat<l)then some (.ptr r (o+n.toNat*1))else none:=zfG Tryz.underlying23 (show zdB Tryz.prog 3=some 1 from by kernel_rfl) r o l z m k
theorem OK(H:Hp)(xs:List (List AV)):zdY Tryz.prog H 23 (.lst xs)=some (.int .i64 xs.length):=zfE Tryz.underlying23 xs
theorem OL(H:Hp)(r o n z:Nat):zdY Tryz.prog H 23 (.sl r o n z)=some (.int .i64 n):=zfn Tryz.underlying23 r o n z
theorem OM(H:Hp):zdY Tryz.prog H 23 .nilS=some (.int .i64 0):=zfs Tryz.underlying23
def ea:=ad @OE (ad @OG (ad @OF (ad @OH (ad @OI (ad @OJ (ad @OK (ad @OL (@OM))))))))
theorem pi:zdB Tryz.prog 25=some 3:=af
theorem uF:zd6 Tryz.prog 25=some 40:=af
theorem ON(cs:List AV)(o:Nat):zdx Tryz.prog 25 cs o=zd7 3 (cs.drop o):=zfo Tryz.underlying25 rfl pi cs o
theorem uG:zdZ Tryz.prog 25=some [(.int .i64 0),(.int .i64 0),.nilS]:=af
theorem OO(r o:Nat):zdt Tryz.prog 25 (.ptr r o) 0=some (.ptr r (o+0)):=af
theorem OP(cs:List AV):zdt Tryz.prog 25 (.iptr cs) 0=some (.iptr (cs.drop 0)):=af
theorem OQ(cs:List AV):zdN Tryz.prog 25 (.agg cs) 0=zdx Tryz.prog 3 cs 0:=af
theorem OR(r o:Nat):zdt Tryz.prog 25 (.ptr r o) 1=some (.ptr r (o+1)):=af
theorem OS(cs:List AV):zdt Tryz.prog 25 (.iptr cs) 1=some (.iptr (cs.drop 1)):=af
theorem OT(cs:List AV):zdN Tryz.prog 25 (.agg cs) 1=zdx Tryz.prog 2 cs 1:=af
theorem OU(r o:Nat):zdt Tryz.prog 25 (.ptr r o) 2=some (.ptr r (o+2)):=af
theorem OV(cs:List AV):zdt Tryz.prog 25 (.iptr cs) 2=some (.iptr (cs.drop 2)):=af
theorem OW(cs:List AV):zdN Tryz.prog 25 (.agg cs) 2=zdx Tryz.prog 23 cs 2:=af
def eV:=ad @pi (ad @ON (ad @uF (ad @uG (ad @OO (ad @OP (ad @OQ (ad @OR (ad @OS (ad @OT (ad @OU (ad @OV (@OW))))))))))))
theorem OX:zdB Tryz.prog 26=some 1:=af
theorem OY:zd6 Tryz.prog 26=some 24:=af
theorem OZ(cs:List AV)(o:Nat):zdx Tryz.prog 26 cs o=cs[o]?:=zeQ Tryz.underlying26 rfl cs o
theorem O0:zdZ Tryz.prog 26=some [.nilS]:=af
theorem O1(xs:List (List AV)){n:Int}(m:0<=n)(k:IntKind):zdV Tryz.prog 26 (.lst xs) (.int k n)=gE 3 (xs[n.toNat]?):=zfF Tryz.underlying26 (show zdB Tryz.prog 25=some 3 from by kernel_rfl) xs m k
theorem O2(r o l z:Nat){n:Int}(m:0<=n)(k:IntKind):zdV Tryz.prog 26 (.sl r o l z) (.int k n)=bif decide (n.toNat<l)then some (.ptr r (o+n.toNat*3))else none:=zfG Tryz.underlying26 (show zdB Tryz.prog 25=some 3 from by kernel_rfl) r o l z m k
theorem O3(H:Hp)(xs:List (List AV)):zdY Tryz.prog H 26 (.lst xs)=some (.int .i64 xs.length):=zfE Tryz.underlying26 xs
theorem O4(H:Hp)(r o n z:Nat):zdY Tryz.prog H 26 (.sl r o n z)=some (.int .i64 n):=zfn Tryz.underlying26 r o n z
theorem O5(H:Hp):zdY Tryz.prog H 26 .nilS=some (.int .i64 0):=zfs Tryz.underlying26
def eO:=ad @OX (ad @OZ (ad @OY (ad @O0 (ad @O1 (ad @O2 (ad @O3 (ad @O4 (@O5))))))))
theorem E9:zdB Tryz.prog 28=some 5:=af
theorem O6:zd6 Tryz.prog 28=some 64:=af
theorem O7(cs:List AV)(o:Nat):zdx Tryz.prog 28 cs o=zd7 5 (cs.drop o):=zfo Tryz.underlying28 rfl E9 cs o
theorem O8:zdZ Tryz.prog 28=some [(.str []),(.int .i64 0),.nilS,(.int .i64 0),(.int .i64 0)]:=af
theorem O9(r o:Nat):zdt Tryz.prog 28 (.ptr r o) 0=some (.ptr r (o+0)):=af
theorem Pa(cs:List AV):zdt Tryz.prog 28 (.iptr cs) 0=some (.iptr (cs.drop 0)):=af
theorem Pb(cs:List AV):zdN Tryz.prog 28 (.agg cs) 0=zdx Tryz.prog 9 cs 0:=af
theorem Pc(r o:Nat):zdt Tryz.prog 28 (.ptr r o) 1=some (.ptr r (o+1)):=af
theorem Pd(cs:List AV):zdt Tryz.prog 28 (.iptr cs) 1=some (.iptr (cs.drop 1)):=af
theorem Pe(cs:List AV):zdN Tryz.prog 28 (.agg cs) 1=zdx Tryz.prog 3 cs 1:=af
theorem Pf(r o:Nat):zdt Tryz.prog 28 (.ptr r o) 2=some (.ptr r (o+2)):=af
theorem Pg(cs:List AV):zdt Tryz.prog 28 (.iptr cs) 2=some (.iptr (cs.drop 2)):=af
theorem Ph(cs:List AV):zdN Tryz.prog 28 (.agg cs) 2=zdx Tryz.prog 26 cs 2:=af
theorem Pi(r o:Nat):zdt Tryz.prog 28 (.ptr r o) 3=some (.ptr r (o+3)):=af
theorem Pj(cs:List AV):zdt Tryz.prog 28 (.iptr cs) 3=some (.iptr (cs.drop 3)):=af
theorem Pk(cs:List AV):zdN Tryz.prog 28 (.agg cs) 3=zdx Tryz.prog 3 cs 3:=af
theorem Pm(r o:Nat):zdt Tryz.prog 28 (.ptr r o) 4=some (.ptr r (o+4)):=af
theorem Pn(cs:List AV):zdt Tryz.prog 28 (.iptr cs) 4=some (.iptr (cs.drop 4)):=af
theorem Po(cs:List AV):zdN Tryz.prog 28 (.agg cs) 4=zdx Tryz.prog 3 cs 4:=af
def m8:=ad @E9 (ad @O7 (ad @O6 (ad @O8 (ad @O9 (ad @Pa (ad @Pb (ad @Pc (ad @Pd (ad @Pe (ad @Pf (ad @Pg (ad @Ph (ad @Pi (ad @Pj (ad @Pk (ad @Pm (ad @Pn (@Po))))))))))))))))))
theorem Pp:zdB Tryz.prog 29=some 1:=af
theorem Pq:zd6 Tryz.prog 29=some 24:=af
theorem Ps(cs:List AV)(o:Nat):zdx Tryz.prog 29 cs o=cs[o]?:=zeQ Tryz.underlying29 rfl cs o
theorem Pt:zdZ Tryz.prog 29=some [.nilS]:=af
theorem Pu(xs:List (List AV)){n:Int}(m:0<=n)(k:IntKind):zdV Tryz.prog 29 (.lst xs) (.int k n)=gE 5 (xs[n.toNat]?):=zfF Tryz.underlying29 (show zdB Tryz.prog 28=some 5 from by kernel_rfl) xs m k
theorem Pv(r o l z:Nat){n:Int}(m:0<=n)(k:IntKind):zdV Tryz.prog 29 (.sl r o l z) (.int k n)=bif decide (n.toNat<l)then some (.ptr r (o+n.toNat*5))else none:=zfG Tryz.underlying29 (show zdB Tryz.prog 28=some 5 from by kernel_rfl) r o l z m k
theorem Pw(H:Hp)(xs:List (List AV)):zdY Tryz.prog H 29 (.lst xs)=some (.int .i64 xs.length):=zfE Tryz.underlying29 xs
theorem Px(H:Hp)(r o n z:Nat):zdY Tryz.prog H 29 (.sl r o n z)=some (.int .i64 n):=zfn Tryz.underlying29 r o n z
theorem Py(H:Hp):zdY Tryz.prog H 29 .nilS=some (.int .i64 0):=zfs Tryz.underlying29
def m9:=ad @Pp (ad @Ps (ad @Pq (ad @Pt (ad @Pu (ad @Pv (ad @Pw (ad @Px (@Py))))))))
theorem Pz:zdB Tryz.prog 30=some 1:=af
theorem PA:zd6 Tryz.prog 30=some 24:=af
theorem PB(cs:List AV)(o:Nat):zdx Tryz.prog 30 cs o=cs[o]?:=zeQ Tryz.underlying30 rfl cs o
theorem PC:zdZ Tryz.prog 30=some [.nilS]:=af
theorem PD(xs:List (List AV)){n:Int}(m:0<=n)(k:IntKind):zdV Tryz.prog 30 (.lst xs) (.int k n)=gE 2 (xs[n.toNat]?):=zfF Tryz.underlying30 (show zdB Tryz.prog 42=some 2 from by kernel_rfl) xs m k
theorem PE(r o l z:Nat){n:Int}(m:0<=n)(k:IntKind):zdV Tryz.prog 30 (.sl r o l z) (.int k n)=bif decide (n.toNat<l)then some (.ptr r (o+n.toNat*2))else none:=zfG Tryz.underlying30 (show zdB Tryz.prog 42=some 2 from by kernel_rfl) r o l z m k
theorem PF(H:Hp)(xs:List (List AV)):zdY Tryz.prog H 30 (.lst xs)=some (.int .i64 xs.length):=zfE Tryz.underlying30 xs
theorem PG(H:Hp)(r o n z:Nat):zdY Tryz.prog H 30 (.sl r o n z)=some (.int .i64 n):=zfn Tryz.underlying30 r o n z
theorem PH(H:Hp):zdY Tryz.prog H 30 .nilS=some (.int .i64 0):=zfs Tryz.underlying30
def iq:=ad @Pz (ad @PB (ad @PA (ad @PC (ad @PD (ad @PE (ad @PF (ad @PG (@PH))))))))
theorem Fa:zdB Tryz.prog 32=some 2:=af
theorem PI:zd6 Tryz.prog 32=some 48:=af
theorem PJ(cs:List AV)(o:Nat):zdx Tryz.prog 32 cs o=zd7 2 (cs.drop o):=zfo Tryz.underlying32 rfl Fa cs o
theorem PK:zdZ Tryz.prog 32=some [.nilS,.nilS]:=af
theorem PL(r o:Nat):zdt Tryz.prog 32 (.ptr r o) 0=some (.ptr r (o+0)):=af
theorem PM(cs:List AV):zdt Tryz.prog 32 (.iptr cs) 0=some (.iptr (cs.drop 0)):=af
theorem PN(cs:List AV):zdN Tryz.prog 32 (.agg cs) 0=zdx Tryz.prog 30 cs 0:=af
theorem PO(r o:Nat):zdt Tryz.prog 32 (.ptr r o) 1=some (.ptr r (o+1)):=af
theorem PP(cs:List AV):zdt Tryz.prog 32 (.iptr cs) 1=some (.iptr (cs.drop 1)):=af
theorem PQ(cs:List AV):zdN Tryz.prog 32 (.agg cs) 1=zdx Tryz.prog 29 cs 1:=af
def jL:=ad @Fa (ad @PJ (ad @PI (ad @PK (ad @PL (ad @PM (ad @PN (ad @PO (ad @PP (@PQ)))))))))
theorem uH:zdB Tryz.prog 33=some 1:=af
theorem AT:zd6 Tryz.prog 33=some 24:=af
theorem PR(cs:List AV)(o:Nat):zdx Tryz.prog 33 cs o=cs[o]?:=zeQ Tryz.underlying33 rfl cs o
theorem AU:zdZ Tryz.prog 33=some [.nilS]:=af
theorem PS(xs:List (List AV)){n:Int}(m:0<=n)(k:IntKind):zdV Tryz.prog 33 (.lst xs) (.int k n)=gE 1 (xs[n.toNat]?):=zfF Tryz.underlying33 (show zdB Tryz.prog 2=some 1 from by kernel_rfl) xs m k
theorem PT(r o l z:Nat){n:Int}(m:0<=n)(k:IntKind):zdV Tryz.prog 33 (.sl r o l z) (.int k n)=bif decide (n.toNat<l)then some (.ptr r (o+n.toNat*1))else none:=zfG Tryz.underlying33 (show zdB Tryz.prog 2=some 1 from by kernel_rfl) r o l z m k
theorem PU(H:Hp)(xs:List (List AV)):zdY Tryz.prog H 33 (.lst xs)=some (.int .i64 xs.length):=zfE Tryz.underlying33 xs
theorem PV(H:Hp)(r o n z:Nat):zdY Tryz.prog H 33 (.sl r o n z)=some (.int .i64 n):=zfn Tryz.underlying33 r o n z
theorem PW(H:Hp):zdY Tryz.prog H 33 .nilS=some (.int .i64 0):=zfs Tryz.underlying33
def lJ:=ad @uH (ad @PR (ad @AT (ad @AU (ad @PS (ad @PT (ad @PU (ad @PV (@PW))))))))
theorem Fb:zdB Tryz.prog 35=some 4:=af
theorem PX:zd6 Tryz.prog 35=some 48:=af
theorem PY(cs:List AV)(o:Nat):zdx Tryz.prog 35 cs o=zd7 4 (cs.drop o):=zfo Tryz.underlying35 rfl Fb cs o
theorem PZ:zdZ Tryz.prog 35=some [(.int .i64 0),(.int .i64 0),.nilS,(.int .i64 0)]:=af
theorem P0(r o:Nat):zdt Tryz.prog 35 (.ptr r o) 0=some (.ptr r (o+0)):=af
theorem P1(cs:List AV):zdt Tryz.prog 35 (.iptr cs) 0=some (.iptr (cs.drop 0)):=af
theorem P2(cs:List AV):zdN Tryz.prog 35 (.agg cs) 0=zdx Tryz.prog 3 cs 0:=af
theorem P3(r o:Nat):zdt Tryz.prog 35 (.ptr r o) 1=some (.ptr r (o+1)):=af
theorem P4(cs:List AV):zdt Tryz.prog 35 (.iptr cs) 1=some (.iptr (cs.drop 1)):=af
theorem P5(cs:List AV):zdN Tryz.prog 35 (.agg cs) 1=zdx Tryz.prog 3 cs 1:=af
theorem P6(r o:Nat):zdt Tryz.prog 35 (.ptr r o) 2=some (.ptr r (o+2)):=af
theorem P7(cs:List AV):zdt Tryz.prog 35 (.iptr cs) 2=some (.iptr (cs.drop 2)):=af
theorem P8(cs:List AV):zdN Tryz.prog 35 (.agg cs) 2=zdx Tryz.prog 33 cs 2:=af
theorem P9(r o:Nat):zdt Tryz.prog 35 (.ptr r o) 3=some (.ptr r (o+3)):=af
theorem Qa(cs:List AV):zdt Tryz.prog 35 (.iptr cs) 3=some (.iptr (cs.drop 3)):=af
theorem Qb(cs:List AV):zdN Tryz.prog 35 (.agg cs) 3=zdx Tryz.prog 2 cs 3:=af
def AW:=ad @Fb (ad @PY (ad @PX (ad @PZ (ad @P0 (ad @P1 (ad @P2 (ad @P3 (ad @P4 (ad @P5 (ad @P6 (ad @P7 (ad @P8 (ad @P9 (ad @Qa (@Qb)))))))))))))))
theorem Fc:zdB Tryz.prog 42=some 2:=af
theorem Qc:zd6 Tryz.prog 42=some 24:=af
theorem Qd(cs:List AV)(o:Nat):zdx Tryz.prog 42 cs o=zd7 2 (cs.drop o):=zfo Tryz.underlying42 rfl Fc cs o
theorem Qe:zdZ Tryz.prog 42=some [(.str []),(.int .i64 0)]:=af
theorem Qf(r o:Nat):zdt Tryz.prog 42 (.ptr r o) 0=some (.ptr r (o+0)):=af
theorem Qg(cs:List AV):zdt Tryz.prog 42 (.iptr cs) 0=some (.iptr (cs.drop 0)):=af
theorem Qh(cs:List AV):zdN Tryz.prog 42 (.agg cs) 0=zdx Tryz.prog 9 cs 0:=af
theorem Qi(r o:Nat):zdt Tryz.prog 42 (.ptr r o) 1=some (.ptr r (o+1)):=af
theorem Qj(cs:List AV):zdt Tryz.prog 42 (.iptr cs) 1=some (.iptr (cs.drop 1)):=af
theorem Qk(cs:List AV):zdN Tryz.prog 42 (.agg cs) 1=zdx Tryz.prog 3 cs 1:=af
def kQ:=ad @Fc (ad @Qd (ad @Qc (ad @Qe (ad @Qf (ad @Qg (ad @Qh (ad @Qi (ad @Qj (@Qk)))))))))
theorem Ql:zdB Tryz.prog 58=some 1:=af
theorem Qm:zd6 Tryz.prog 58=some 24:=af
theorem Qn(cs:List AV)(o:Nat):zdx Tryz.prog 58 cs o=cs[o]?:=zeQ Tryz.underlying58 rfl cs o
theorem Qo:zdZ Tryz.prog 58=some [.nilS]:=af
theorem Qp(xs:List (List AV)){n:Int}(m:0<=n)(k:IntKind):zdV Tryz.prog 58 (.lst xs) (.int k n)=gE 1 (xs[n.toNat]?):=zfF Tryz.underlying58 (show zdB Tryz.prog 33=some 1 from by kernel_rfl) xs m k
theorem Qq(r o l z:Nat){n:Int}(m:0<=n)(k:IntKind):zdV Tryz.prog 58 (.sl r o l z) (.int k n)=bif decide (n.toNat<l)then some (.ptr r (o+n.toNat*1))else none:=zfG Tryz.underlying58 (show zdB Tryz.prog 33=some 1 from by kernel_rfl) r o l z m k
theorem Qr(H:Hp)(xs:List (List AV)):zdY Tryz.prog H 58 (.lst xs)=some (.int .i64 xs.length):=zfE Tryz.underlying58 xs
theorem Qs(H:Hp)(r o n z:Nat):zdY Tryz.prog H 58 (.sl r o n z)=some (.int .i64 n):=zfn Tryz.underlying58 r o n z
theorem Qt(H:Hp):zdY Tryz.prog H 58 .nilS=some (.int .i64 0):=zfs Tryz.underlying58
def su:=ad @Ql (ad @Qn (ad @Qm (ad @Qo (ad @Qp (ad @Qq (ad @Qr (ad @Qs (@Qt))))))))
theorem Qu:zdB Tryz.prog 62=some 1:=af
theorem Qv:zd6 Tryz.prog 62=some 24:=af
theorem Qw(cs:List AV)(o:Nat):zdx Tryz.prog 62 cs o=cs[o]?:=zeQ Tryz.underlying62 rfl cs o
theorem Qx:zdZ Tryz.prog 62=some [.nilS]:=af
theorem Qy(xs:List (List AV)){n:Int}(m:0<=n)(k:IntKind):zdV Tryz.prog 62 (.lst xs) (.int k n)=gE 9 (xs[n.toNat]?):=zfF Tryz.underlying62 (show zdB Tryz.prog 106=some 9 from by kernel_rfl) xs m k
theorem Qz(r o l z:Nat){n:Int}(m:0<=n)(k:IntKind):zdV Tryz.prog 62 (.sl r o l z) (.int k n)=bif decide (n.toNat<l)then some (.ptr r (o+n.toNat*9))else none:=zfG Tryz.underlying62 (show zdB Tryz.prog 106=some 9 from by kernel_rfl) r o l z m k
theorem QA(H:Hp)(xs:List (List AV)):zdY Tryz.prog H 62 (.lst xs)=some (.int .i64 xs.length):=zfE Tryz.underlying62 xs
theorem QB(H:Hp)(r o n z:Nat):zdY Tryz.prog H 62 (.sl r o n z)=some (.int .i64 n):=zfn Tryz.underlying62 r o n z
theorem QC(H:Hp):zdY Tryz.prog H 62 .nilS=some (.int .i64 0):=zfs Tryz.underlying62
def na:=ad @Qu (ad @Qw (ad @Qv (ad @Qx (ad @Qy (ad @Qz (ad @QA (ad @QB (@QC))))))))
theorem Fe:zdB Tryz.prog 64=some 2:=af
theorem QD:zd6 Tryz.prog 64=some 48:=af
theorem QE(cs:List AV)(o:Nat):zdx Tryz.prog 64 cs o=zd7 2 (cs.drop o):=zfo Tryz.underlying64 rfl Fe cs o
theorem QF:zdZ Tryz.prog 64=some [.nilS,.nilS]:=af
theorem QG(r o:Nat):zdt Tryz.prog 64 (.ptr r o) 0=some (.ptr r (o+0)):=af
theorem QH(cs:List AV):zdt Tryz.prog 64 (.iptr cs) 0=some (.iptr (cs.drop 0)):=af
theorem QI(cs:List AV):zdN Tryz.prog 64 (.agg cs) 0=zdx Tryz.prog 30 cs 0:=af
theorem QJ(r o:Nat):zdt Tryz.prog 64 (.ptr r o) 1=some (.ptr r (o+1)):=af
theorem QK(cs:List AV):zdt Tryz.prog 64 (.iptr cs) 1=some (.iptr (cs.drop 1)):=af
theorem QL(cs:List AV):zdN Tryz.prog 64 (.agg cs) 1=zdx Tryz.prog 62 cs 1:=af
def kj:=ad @Fe (ad @QE (ad @QD (ad @QF (ad @QG (ad @QH (ad @QI (ad @QJ (ad @QK (@QL)))))))))
theorem QM:zdB Tryz.prog 66=some 1:=af
theorem QN:zd6 Tryz.prog 66=some 8:=af
theorem QO(cs:List AV)(o:Nat):zdx Tryz.prog 66 cs o=cs[o]?:=zeQ Tryz.underlying66 rfl cs o
theorem QP:zdZ Tryz.prog 66=some [(.int .i64 0)]:=af
def sw:=ad @QM (ad @QO (ad @QN (@QP)))
theorem QQ:zdB Tryz.prog 73=some 1:=af
theorem QR:zd6 Tryz.prog 73=some 24:=af
theorem QS(cs:List AV)(o:Nat):zdx Tryz.prog 73 cs o=cs[o]?:=zeQ Tryz.underlying73 rfl cs o
theorem QT:zdZ Tryz.prog 73=some [.nilS]:=af
theorem QU(xs:List (List AV)){n:Int}(m:0<=n)(k:IntKind):zdV Tryz.prog 73 (.lst xs) (.int k n)=gE 1 (xs[n.toNat]?):=zfF Tryz.underlying73 (show zdB Tryz.prog 74=some 1 from by kernel_rfl) xs m k
theorem QV(r o l z:Nat){n:Int}(m:0<=n)(k:IntKind):zdV Tryz.prog 73 (.sl r o l z) (.int k n)=bif decide (n.toNat<l)then some (.ptr r (o+n.toNat*1))else none:=zfG Tryz.underlying73 (show zdB Tryz.prog 74=some 1 from by kernel_rfl) r o l z m k
theorem QW(H:Hp)(xs:List (List AV)):zdY Tryz.prog H 73 (.lst xs)=some (.int .i64 xs.length):=zfE Tryz.underlying73 xs
theorem QX(H:Hp)(r o n z:Nat):zdY Tryz.prog H 73 (.sl r o n z)=some (.int .i64 n):=zfn Tryz.underlying73 r o n z
theorem QY(H:Hp):zdY Tryz.prog H 73 .nilS=some (.int .i64 0):=zfs Tryz.underlying73
def pj:=ad @QQ (ad @QS (ad @QR (ad @QT (ad @QU (ad @QV (ad @QW (ad @QX (@QY))))))))
theorem Ff:zdB Tryz.prog 74=some 1:=af
theorem Fg:zd6 Tryz.prog 74=some 24:=af
theorem QZ(cs:List AV)(o:Nat):zdx Tryz.prog 74 cs o=cs[o]?:=zeQ Tryz.underlying74 rfl cs o
theorem Fh:zdZ Tryz.prog 74=some [.nilS]:=af
theorem Q0(xs:List (List AV)){n:Int}(m:0<=n)(k:IntKind):zdV Tryz.prog 74 (.lst xs) (.int k n)=gE 1 (xs[n.toNat]?):=zfF Tryz.underlying74 (show zdB Tryz.prog 125=some 1 from by kernel_rfl) xs m k
theorem Q1(r o l z:Nat){n:Int}(m:0<=n)(k:IntKind):zdV Tryz.prog 74 (.sl r o l z) (.int k n)=bif decide (n.toNat<l)then some (.ptr r (o+n.toNat*1))else none:=zfG Tryz.underlying74 (show zdB Tryz.prog 125=some 1 from by kernel_rfl) r o l z m k
theorem Q3(H:Hp)(xs:List (List AV)):zdY Tryz.prog H 74 (.lst xs)=some (.int .i64 xs.length):=zfE Tryz.underlying74 xs
theorem Q4(H:Hp)(r o n z:Nat):zdY Tryz.prog H 74 (.sl r o n z)=some (.int .i64 n):=zfn Tryz.underlying74 r o n z
theorem Q5(H:Hp):zdY Tryz.prog H 74 .nilS=some (.int .i64 0):=zfs Tryz.underlying74
def xm:=ad @Ff (ad @QZ (ad @Fg (ad @Fh (ad @Q0 (ad @Q1 (ad @Q3 (ad @Q4 (@Q5))))))))
theorem Q6:zdB Tryz.prog 76=some 1:=af
theorem Q7:zd6 Tryz.prog 76=some 8:=af
theorem Q8(cs:List AV)(o:Nat):zdx Tryz.prog 76 cs o=cs[o]?:=zeQ Tryz.underlying76 rfl cs o
theorem Q9:zdZ Tryz.prog 76=some [.nilP]:=af
def qv:=ad @Q6 (ad @Q8 (ad @Q7 (@Q9)))
theorem Ra:zdB Tryz.prog 77=some 1:=af
theorem Rb:zd6 Tryz.prog 77=some 8:=af
theorem Rd(cs:List AV)(o:Nat):zdx Tryz.prog 77 cs o=cs[o]?:=zeQ Tryz.underlying77 rfl cs o
theorem Re:zdZ Tryz.prog 77=some [.nilP]:=af
def qw:=ad @Ra (ad @Rd (ad @Rb (@Re)))
theorem Fi:zdB Tryz.prog 79=some 6:=af
theorem Rf:zd6 Tryz.prog 79=some 64:=af
theorem Rg(cs:List AV)(o:Nat):zdx Tryz.prog 79 cs o=zd7 6 (cs.drop o):=zfo Tryz.underlying79 rfl Fi cs o
theorem Rh:zdZ Tryz.prog 79=some [.nilS,.nilP,(.int .i64 0),(.int .i64 0),(.int .i64 0),(.int .i64 0)]:=af
theorem Ri(r o:Nat):zdt Tryz.prog 79 (.ptr r o) 0=some (.ptr r (o+0)):=af
theorem Rj(cs:List AV):zdt Tryz.prog 79 (.iptr cs) 0=some (.iptr (cs.drop 0)):=af
theorem Rk(cs:List AV):zdN Tryz.prog 79 (.agg cs) 0=zdx Tryz.prog 58 cs 0:=af
theorem Rl(r o:Nat):zdt Tryz.prog 79 (.ptr r o) 1=some (.ptr r (o+1)):=af
theorem Rm(cs:List AV):zdt Tryz.prog 79 (.iptr cs) 1=some (.iptr (cs.drop 1)):=af
theorem Rn(cs:List AV):zdN Tryz.prog 79 (.agg cs) 1=zdx Tryz.prog 77 cs 1:=af
theorem Ro(r o:Nat):zdt Tryz.prog 79 (.ptr r o) 2=some (.ptr r (o+2)):=af
theorem Rp(cs:List AV):zdt Tryz.prog 79 (.iptr cs) 2=some (.iptr (cs.drop 2)):=af
theorem Rq(cs:List AV):zdN Tryz.prog 79 (.agg cs) 2=zdx Tryz.prog 3 cs 2:=af
theorem Rr(r o:Nat):zdt Tryz.prog 79 (.ptr r o) 3=some (.ptr r (o+3)):=af
theorem Rt(cs:List AV):zdt Tryz.prog 79 (.iptr cs) 3=some (.iptr (cs.drop 3)):=af
theorem Ru(cs:List AV):zdN Tryz.prog 79 (.agg cs) 3=zdx Tryz.prog 3 cs 3:=af
theorem Rv(r o:Nat):zdt Tryz.prog 79 (.ptr r o) 4=some (.ptr r (o+4)):=af
theorem Rw(cs:List AV):zdt Tryz.prog 79 (.iptr cs) 4=some (.iptr (cs.drop 4)):=af
theorem Rz(cs:List AV):zdN Tryz.prog 79 (.agg cs) 4=zdx Tryz.prog 3 cs 4:=af
theorem RA(r o:Nat):zdt Tryz.prog 79 (.ptr r o) 5=some (.ptr r (o+5)):=af
theorem RB(cs:List AV):zdt Tryz.prog 79 (.iptr cs) 5=some (.iptr (cs.drop 5)):=af
theorem RC(cs:List AV):zdN Tryz.prog 79 (.agg cs) 5=zdx Tryz.prog 2 cs 5:=af
def sy:=ad @Fi (ad @Rg (ad @Rf (ad @Rh (ad @Ri (ad @Rj (ad @Rk (ad @Rl (ad @Rm (ad @Rn (ad @Ro (ad @Rp (ad @Rq (ad @Rr (ad @Rt (ad @Ru (ad @Rv (ad @Rw (ad @Rz (ad @RA (ad @RB (@RC)))))))))))))))))))))
theorem Fj:zdB Tryz.prog 86=some 2:=af
theorem RD:zd6 Tryz.prog 86=some 16:=af
theorem RE(cs:List AV)(o:Nat):zdx Tryz.prog 86 cs o=zd7 2 (cs.drop o):=zfo Tryz.underlying86 rfl Fj cs o
theorem RF:zdZ Tryz.prog 86=some [(.int .i64 0),(.int .i64 0)]:=af
theorem RG(r o:Nat):zdt Tryz.prog 86 (.ptr r o) 0=some (.ptr r (o+0)):=af
theorem RH(cs:List AV):zdt Tryz.prog 86 (.iptr cs) 0=some (.iptr (cs.drop 0)):=af
theorem RI(cs:List AV):zdN Tryz.prog 86 (.agg cs) 0=zdx Tryz.prog 66 cs 0:=af
theorem RJ(r o:Nat):zdt Tryz.prog 86 (.ptr r o) 1=some (.ptr r (o+1)):=af
theorem RK(cs:List AV):zdt Tryz.prog 86 (.iptr cs) 1=some (.iptr (cs.drop 1)):=af
theorem RL(cs:List AV):zdN Tryz.prog 86 (.agg cs) 1=zdx Tryz.prog 3 cs 1:=af
def AY:=ad @Fj (ad @RE (ad @RD (ad @RF (ad @RG (ad @RH (ad @RI (ad @RJ (ad @RK (@RL)))))))))
theorem Fk:zdB Tryz.prog 93=some 2:=af
theorem RM:zd6 Tryz.prog 93=some 32:=af
theorem RN(cs:List AV)(o:Nat):zdx Tryz.prog 93 cs o=zd7 2 (cs.drop o):=zfo Tryz.underlying93 rfl Fk cs o
theorem RO:zdZ Tryz.prog 93=some [.nilS,(.int .i64 0)]:=af
theorem RP(r o:Nat):zdt Tryz.prog 93 (.ptr r o) 0=some (.ptr r (o+0)):=af
theorem RQ(cs:List AV):zdt Tryz.prog 93 (.iptr cs) 0=some (.iptr (cs.drop 0)):=af
theorem RR(cs:List AV):zdN Tryz.prog 93 (.agg cs) 0=zdx Tryz.prog 23 cs 0:=af
theorem RS(r o:Nat):zdt Tryz.prog 93 (.ptr r o) 1=some (.ptr r (o+1)):=af
theorem RT(cs:List AV):zdt Tryz.prog 93 (.iptr cs) 1=some (.iptr (cs.drop 1)):=af
theorem RU(cs:List AV):zdN Tryz.prog 93 (.agg cs) 1=zdx Tryz.prog 3 cs 1:=af
def RV:=ad @Fk (ad @RN (ad @RM (ad @RO (ad @RP (ad @RQ (ad @RR (ad @RS (ad @RT (@RU)))))))))
theorem RW:zdB Tryz.prog 100=some 1:=af
theorem RX:zd6 Tryz.prog 100=some 24:=af
theorem RY(cs:List AV)(o:Nat):zdx Tryz.prog 100 cs o=cs[o]?:=zeQ Tryz.underlying100 rfl cs o
theorem RZ:zdZ Tryz.prog 100=some [.nilS]:=af
theorem R0(xs:List (List AV)){n:Int}(m:0<=n)(k:IntKind):zdV Tryz.prog 100 (.lst xs) (.int k n)=gE 1 (xs[n.toNat]?):=zfF Tryz.underlying100 (show zdB Tryz.prog 9=some 1 from by kernel_rfl) xs m k
theorem R1(r o l z:Nat){n:Int}(m:0<=n)(k:IntKind):zdV Tryz.prog 100 (.sl r o l z) (.int k n)=bif decide (n.toNat<l)then some (.ptr r (o+n.toNat*1))else none:=zfG Tryz.underlying100 (show zdB Tryz.prog 9=some 1 from by kernel_rfl) r o l z m k
theorem R2(H:Hp)(xs:List (List AV)):zdY Tryz.prog H 100 (.lst xs)=some (.int .i64 xs.length):=zfE Tryz.underlying100 xs
theorem R8(H:Hp)(r o n z:Nat):zdY Tryz.prog H 100 (.sl r o n z)=some (.int .i64 n):=zfn Tryz.underlying100 r o n z
theorem Sa(H:Hp):zdY Tryz.prog H 100 .nilS=some (.int .i64 0):=zfs Tryz.underlying100
def ko:=ad @RW (ad @RY (ad @RX (ad @RZ (ad @R0 (ad @R1 (ad @R2 (ad @R8 (@Sa))))))))
theorem Sb:zdB Tryz.prog 101=some 1:=af
theorem Sd:zd6 Tryz.prog 101=some 24:=af
theorem Se(cs:List AV)(o:Nat):zdx Tryz.prog 101 cs o=cs[o]?:=zeQ Tryz.underlying101 rfl cs o
theorem Sf:zdZ Tryz.prog 101=some [.nilS]:=af
theorem Sg(xs:List (List AV)){n:Int}(m:0<=n)(k:IntKind):zdV Tryz.prog 101 (.lst xs) (.int k n)=gE 17 (xs[n.toNat]?):=zfF Tryz.underlying101 (show zdB Tryz.prog 157=some 17 from by kernel_rfl) xs m k
theorem Sh(r o l z:Nat){n:Int}(m:0<=n)(k:IntKind):zdV Tryz.prog 101 (.sl r o l z) (.int k n)=bif decide (n.toNat<l)then some (.ptr r (o+n.toNat*17))else none:=zfG Tryz.underlying101 (show zdB Tryz.prog 157=some 17 from by kernel_rfl) r o l z m k
theorem Si(H:Hp)(xs:List (List AV)):zdY Tryz.prog H 101 (.lst xs)=some (.int .i64 xs.length):=zfE Tryz.underlying101 xs
theorem Sj(H:Hp)(r o n z:Nat):zdY Tryz.prog H 101 (.sl r o n z)=some (.int .i64 n):=zfn Tryz.underlying101 r o n z
theorem Sk(H:Hp):zdY Tryz.prog H 101 .nilS=some (.int .i64 0):=zfs Tryz.underlying101
def iM:=ad @Sb (ad @Se (ad @Sd (ad @Sf (ad @Sg (ad @Sh (ad @Si (ad @Sj (@Sk))))))))
theorem Sl:zdB Tryz.prog 102=some 1:=af
theorem Sn:zd6 Tryz.prog 102=some 24:=af
theorem So(cs:List AV)(o:Nat):zdx Tryz.prog 102 cs o=cs[o]?:=zeQ Tryz.underlying102 rfl cs o
theorem Sp:zdZ Tryz.prog 102=some [.nilS]:=af
theorem Sq(xs:List (List AV)){n:Int}(m:0<=n)(k:IntKind):zdV Tryz.prog 102 (.lst xs) (.int k n)=gE 5 (xs[n.toNat]?):=zfF Tryz.underlying102 (show zdB Tryz.prog 104=some 5 from by kernel_rfl) xs m k
theorem Sr(r o l z:Nat){n:Int}(m:0<=n)(k:IntKind):zdV Tryz.prog 102 (.sl r o l z) (.int k n)=bif decide (n.toNat<l)then some (.ptr r (o+n.toNat*5))else none:=zfG Tryz.underlying102 (show zdB Tryz.prog 104=some 5 from by kernel_rfl) r o l z m k
theorem Ss(H:Hp)(xs:List (List AV)):zdY Tryz.prog H 102 (.lst xs)=some (.int .i64 xs.length):=zfE Tryz.underlying102 xs
theorem Su(H:Hp)(r o n z:Nat):zdY Tryz.prog H 102 (.sl r o n z)=some (.int .i64 n):=zfn Tryz.underlying102 r o n z
theorem Sv(H:Hp):zdY Tryz.prog H 102 .nilS=some (.int .i64 0):=zfs Tryz.underlying102
def iN:=ad @Sl (ad @So (ad @Sn (ad @Sp (ad @Sq (ad @Sr (ad @Ss (ad @Su (@Sv))))))))
theorem Fl:zdB Tryz.prog 104=some 5:=af
theorem Sw:zd6 Tryz.prog 104=some 64:=af
theorem Sy(cs:List AV)(o:Nat):zdx Tryz.prog 104 cs o=zd7 5 (cs.drop o):=zfo Tryz.underlying104 rfl Fl cs o
theorem Sz:zdZ Tryz.prog 104=some [(.int .i64 0),(.int .i64 0),(.str []),(.int .i64 0),.nilS]:=af
theorem SA(r o:Nat):zdt Tryz.prog 104 (.ptr r o) 0=some (.ptr r (o+0)):=af
theorem SB(cs:List AV):zdt Tryz.prog 104 (.iptr cs) 0=some (.iptr (cs.drop 0)):=af
theorem SD(cs:List AV):zdN Tryz.prog 104 (.agg cs) 0=zdx Tryz.prog 3 cs 0:=af
theorem SE(r o:Nat):zdt Tryz.prog 104 (.ptr r o) 1=some (.ptr r (o+1)):=af
theorem SF(cs:List AV):zdt Tryz.prog 104 (.iptr cs) 1=some (.iptr (cs.drop 1)):=af
theorem SG(cs:List AV):zdN Tryz.prog 104 (.agg cs) 1=zdx Tryz.prog 2 cs 1:=af
theorem SH(r o:Nat):zdt Tryz.prog 104 (.ptr r o) 2=some (.ptr r (o+2)):=af
theorem SI(cs:List AV):zdt Tryz.prog 104 (.iptr cs) 2=some (.iptr (cs.drop 2)):=af
theorem SJ(cs:List AV):zdN Tryz.prog 104 (.agg cs) 2=zdx Tryz.prog 9 cs 2:=af
theorem SK(r o:Nat):zdt Tryz.prog 104 (.ptr r o) 3=some (.ptr r (o+3)):=af
theorem SL(cs:List AV):zdt Tryz.prog 104 (.iptr cs) 3=some (.iptr (cs.drop 3)):=af
theorem SM(cs:List AV):zdN Tryz.prog 104 (.agg cs) 3=zdx Tryz.prog 3 cs 3:=af
theorem SN(r o:Nat):zdt Tryz.prog 104 (.ptr r o) 4=some (.ptr r (o+4)):=af
theorem SO(cs:List AV):zdt Tryz.prog 104 (.iptr cs) 4=some (.iptr (cs.drop 4)):=af
theorem SP(cs:List AV):zdN Tryz.prog 104 (.agg cs) 4=zdx Tryz.prog 102 cs 4:=af
def gF:=ad @Fl (ad @Sy (ad @Sw (ad @Sz (ad @SA (ad @SB (ad @SD (ad @SE (ad @SF (ad @SG (ad @SH (ad @SI (ad @SJ (ad @SK (ad @SL (ad @SM (ad @SN (ad @SO (@SP))))))))))))))))))
theorem AZ:zdB Tryz.prog 106=some 9:=af
theorem Fm:zd6 Tryz.prog 106=some 152:=af
theorem SQ(cs:List AV)(o:Nat):zdx Tryz.prog 106 cs o=zd7 9 (cs.drop o):=zfo Tryz.underlying106 rfl AZ cs o
theorem Fo:zdZ Tryz.prog 106=some [(.str []),.nilS,.nilS,.nilS,(.int .i64 0),(.int .i64 0),(.str []),(.int .i64 0),.nilS]:=af
theorem SR(r o:Nat):zdt Tryz.prog 106 (.ptr r o) 0=some (.ptr r (o+0)):=af
theorem SS(cs:List AV):zdt Tryz.prog 106 (.iptr cs) 0=some (.iptr (cs.drop 0)):=af
theorem SU(cs:List AV):zdN Tryz.prog 106 (.agg cs) 0=zdx Tryz.prog 9 cs 0:=af
theorem SV(r o:Nat):zdt Tryz.prog 106 (.ptr r o) 1=some (.ptr r (o+1)):=af
theorem SW(cs:List AV):zdt Tryz.prog 106 (.iptr cs) 1=some (.iptr (cs.drop 1)):=af
theorem SX(cs:List AV):zdN Tryz.prog 106 (.agg cs) 1=zdx Tryz.prog 100 cs 1:=af
theorem SY(r o:Nat):zdt Tryz.prog 106 (.ptr r o) 2=some (.ptr r (o+2)):=af
theorem SZ(cs:List AV):zdt Tryz.prog 106 (.iptr cs) 2=some (.iptr (cs.drop 2)):=af
theorem S0(cs:List AV):zdN Tryz.prog 106 (.agg cs) 2=zdx Tryz.prog 100 cs 2:=af
theorem S1(r o:Nat):zdt Tryz.prog 106 (.ptr r o) 3=some (.ptr r (o+3)):=af
theorem S7(cs:List AV):zdt Tryz.prog 106 (.iptr cs) 3=some (.iptr (cs.drop 3)):=af
theorem S8(cs:List AV):zdN Tryz.prog 106 (.agg cs) 3=zdx Tryz.prog 101 cs 3:=af
theorem Ta(r o:Nat):zdt Tryz.prog 106 (.ptr r o) 4=some (.ptr r (o+4)):=af
theorem Tb(cs:List AV):zdt Tryz.prog 106 (.iptr cs) 4=some (.iptr (cs.drop 4)):=af
theorem Tc(cs:List AV):zdN Tryz.prog 106 (.agg cs) 4=zdx Tryz.prog 104 cs 4:=af
def ng:=ad @AZ (ad @SQ (ad @Fm (ad @Fo (ad @SR (ad @SS (ad @SU (ad @SV (ad @SW (ad @SX (ad @SY (ad @SZ (ad @S0 (ad @S1 (ad @S7 (ad @S8 (ad @Ta (ad @Tb (@Tc))))))))))))))))))
theorem Td:zdB Tryz.prog 110=some 1:=af
theorem Te:zd6 Tryz.prog 110=some 8:=af
theorem Tf(cs:List AV)(o:Nat):zdx Tryz.prog 110 cs o=cs[o]?:=zeQ Tryz.underlying110 rfl cs o
theorem Tg:zdZ Tryz.prog 110=some [.nilM]:=af
def qx:=ad @Td (ad @Tf (ad @Te (@Tg)))
theorem Fp:zdB Tryz.prog 113=some 10:=af
theorem Th:zd6 Tryz.prog 113=some 144:=af
theorem Ti(cs:List AV)(o:Nat):zdx Tryz.prog 113 cs o=zd7 10 (cs.drop o):=zfo Tryz.underlying113 rfl Fp cs o
theorem Tj:zdZ Tryz.prog 113=some [.nilS,.nilS,.nilM,.nilM,.nilS,.nilM,.nilM,.nilS,(.int .i64 0),(.int .i64 0)]:=af
theorem Tl(r o:Nat):zdt Tryz.prog 113 (.ptr r o) 0=some (.ptr r (o+0)):=af
theorem Tm(cs:List AV):zdt Tryz.prog 113 (.iptr cs) 0=some (.iptr (cs.drop 0)):=af
theorem Tn(cs:List AV):zdN Tryz.prog 113 (.agg cs) 0=zdx Tryz.prog 64 cs 0:=af
theorem To(r o:Nat):zdt Tryz.prog 113 (.ptr r o) 1=some (.ptr r (o+2)):=af
theorem Tp(cs:List AV):zdt Tryz.prog 113 (.iptr cs) 1=some (.iptr (cs.drop 2)):=af
theorem Tq(cs:List AV):zdN Tryz.prog 113 (.agg cs) 1=zdx Tryz.prog 110 cs 2:=af
theorem Tr(r o:Nat):zdt Tryz.prog 113 (.ptr r o) 2=some (.ptr r (o+3)):=af
theorem Ts(cs:List AV):zdt Tryz.prog 113 (.iptr cs) 2=some (.iptr (cs.drop 3)):=af
theorem Tt(cs:List AV):zdN Tryz.prog 113 (.agg cs) 2=zdx Tryz.prog 110 cs 3:=af
theorem Tu(r o:Nat):zdt Tryz.prog 113 (.ptr r o) 3=some (.ptr r (o+4)):=af
theorem Tv(cs:List AV):zdt Tryz.prog 113 (.iptr cs) 3=some (.iptr (cs.drop 4)):=af
theorem Tw(cs:List AV):zdN Tryz.prog 113 (.agg cs) 3=zdx Tryz.prog 26 cs 4:=af
theorem Tx(r o:Nat):zdt Tryz.prog 113 (.ptr r o) 4=some (.ptr r (o+5)):=af
theorem Ty(cs:List AV):zdt Tryz.prog 113 (.iptr cs) 4=some (.iptr (cs.drop 5)):=af
theorem Tz(cs:List AV):zdN Tryz.prog 113 (.agg cs) 4=zdx Tryz.prog 110 cs 5:=af
theorem TA(r o:Nat):zdt Tryz.prog 113 (.ptr r o) 5=some (.ptr r (o+6)):=af
theorem TB(cs:List AV):zdt Tryz.prog 113 (.iptr cs) 5=some (.iptr (cs.drop 6)):=af
theorem TC(cs:List AV):zdN Tryz.prog 113 (.agg cs) 5=zdx Tryz.prog 110 cs 6:=af
theorem TD(r o:Nat):zdt Tryz.prog 113 (.ptr r o) 6=some (.ptr r (o+7)):=af
theorem TE(cs:List AV):zdt Tryz.prog 113 (.iptr cs) 6=some (.iptr (cs.drop 7)):=af
theorem TF(cs:List AV):zdN Tryz.prog 113 (.agg cs) 6=zdx Tryz.prog 23 cs 7:=af
theorem TG(r o:Nat):zdt Tryz.prog 113 (.ptr r o) 7=some (.ptr r (o+8)):=af
theorem TH(cs:List AV):zdt Tryz.prog 113 (.iptr cs) 7=some (.iptr (cs.drop 8)):=af
theorem TI(cs:List AV):zdN Tryz.prog 113 (.agg cs) 7=zdx Tryz.prog 3 cs 8:=af
theorem TJ(r o:Nat):zdt Tryz.prog 113 (.ptr r o) 8=some (.ptr r (o+9)):=af
theorem TK(cs:List AV):zdt Tryz.prog 113 (.iptr cs) 8=some (.iptr (cs.drop 9)):=af
theorem TL(cs:List AV):zdN Tryz.prog 113 (.agg cs) 8=zdx Tryz.prog 3 cs 9:=af
def uI:=ad @Fp (ad @Ti (ad @Th (ad @Tj (ad @Tl (ad @Tm (ad @Tn (ad @To (ad @Tp (ad @Tq (ad @Tr (ad @Ts (ad @Tt (ad @Tu (ad @Tv (ad @Tw (ad @Tx (ad @Ty (ad @Tz (ad @TA (ad @TB (ad @TC (ad @TD (ad @TE (ad @TF (ad @TG (ad @TH (ad @TI (ad @TJ (ad @TK (@TL))))))))))))))))))))))))))))))
theorem xn:zdB Tryz.prog 121=some 1:=af
theorem A0:zd6 Tryz.prog 121=some 24:=af
theorem TM(cs:List AV)(o:Nat):zdx Tryz.prog 121 cs o=cs[o]?:=zeQ Tryz.underlying121 rfl cs o
theorem A1:zdZ Tryz.prog 121=some [.nilS]:=af
theorem TN(xs:List (List AV)){n:Int}(m:0<=n)(k:IntKind):zdV Tryz.prog 121 (.lst xs) (.int k n)=gE 1 (xs[n.toNat]?):=zfF Tryz.underlying121 (show zdB Tryz.prog 4=some 1 from by kernel_rfl) xs m k
theorem TO(r o l z:Nat){n:Int}(m:0<=n)(k:IntKind):zdV Tryz.prog 121 (.sl r o l z) (.int k n)=bif decide (n.toNat<l)then some (.ptr r (o+n.toNat*1))else none:=zfG Tryz.underlying121 (show zdB Tryz.prog 4=some 1 from by kernel_rfl) r o l z m k
theorem TP(H:Hp)(xs:List (List AV)):zdY Tryz.prog H 121 (.lst xs)=some (.int .i64 xs.length):=zfE Tryz.underlying121 xs
theorem TQ(H:Hp)(r o n z:Nat):zdY Tryz.prog H 121 (.sl r o n z)=some (.int .i64 n):=zfn Tryz.underlying121 r o n z
theorem TS(H:Hp):zdY Tryz.prog H 121 .nilS=some (.int .i64 0):=zfs Tryz.underlying121
def xo:=ad @xn (ad @TM (ad @A0 (ad @A1 (ad @TN (ad @TO (ad @TP (ad @TQ (@TS))))))))
theorem TT:zdB Tryz.prog 123=some 1:=af
theorem TU:zd6 Tryz.prog 123=some 24:=af
theorem TV(cs:List AV)(o:Nat):zdx Tryz.prog 123 cs o=cs[o]?:=zeQ Tryz.underlying123 rfl cs o
theorem TW:zdZ Tryz.prog 123=some [.nilS]:=af
theorem TX(xs:List (List AV)){n:Int}(m:0<=n)(k:IntKind):zdV Tryz.prog 123 (.lst xs) (.int k n)=gE 1 (xs[n.toNat]?):=zfF Tryz.underlying123 (show zdB Tryz.prog 121=some 1 from by kernel_rfl) xs m k
theorem TY(r o l z:Nat){n:Int}(m:0<=n)(k:IntKind):zdV Tryz.prog 123 (.sl r o l z) (.int k n)=bif decide (n.toNat<l)then some (.ptr r (o+n.toNat*1))else none:=zfG Tryz.underlying123 (show zdB Tryz.prog 121=some 1 from by kernel_rfl) r o l z m k
theorem TZ(H:Hp)(xs:List (List AV)):zdY Tryz.prog H 123 (.lst xs)=some (.int .i64 xs.length):=zfE Tryz.underlying123 xs
theorem T0(H:Hp)(r o n z:Nat):zdY Tryz.prog H 123 (.sl r o n z)=some (.int .i64 n):=zfn Tryz.underlying123 r o n z
theorem T1(H:Hp):zdY Tryz.prog H 123 .nilS=some (.int .i64 0):=zfs Tryz.underlying123
def Fq:=ad @TT (ad @TV (ad @TU (ad @TW (ad @TX (ad @TY (ad @TZ (ad @T0 (@T1))))))))
theorem xq:zdB Tryz.prog 125=some 1:=af
theorem Fs:zd6 Tryz.prog 125=some 4:=af
theorem T2(cs:List AV)(o:Nat):zdx Tryz.prog 125 cs o=cs[o]?:=zeQ Tryz.underlying125 rfl cs o
theorem Ft:zdZ Tryz.prog 125=some [(.int .u32 0)]:=af
def A2:=ad @xq (ad @T2 (ad @Fs (@Ft)))
theorem T3:zdB Tryz.prog 126=some 1:=af
theorem T4:zd6 Tryz.prog 126=some 8:=af
theorem T5(cs:List AV)(o:Nat):zdx Tryz.prog 126 cs o=cs[o]?:=zeQ Tryz.underlying126 rfl cs o
theorem T6:zdZ Tryz.prog 126=some [(.int .u64 0)]:=af
def uJ:=ad @T3 (ad @T5 (ad @T4 (@T6)))
theorem T7:zdB Tryz.prog 127=some 1:=af
theorem T8:zd6 Tryz.prog 127=some 24:=af
theorem T9(cs:List AV)(o:Nat):zdx Tryz.prog 127 cs o=cs[o]?:=zeQ Tryz.underlying127 rfl cs o
theorem Ua:zdZ Tryz.prog 127=some [.nilS]:=af
theorem Ub(xs:List (List AV)){n:Int}(m:0<=n)(k:IntKind):zdV Tryz.prog 127 (.lst xs) (.int k n)=gE 4 (xs[n.toNat]?):=zfF Tryz.underlying127 (show zdB Tryz.prog 134=some 4 from by kernel_rfl) xs m k
theorem Uc(r o l z:Nat){n:Int}(m:0<=n)(k:IntKind):zdV Tryz.prog 127 (.sl r o l z) (.int k n)=bif decide (n.toNat<l)then some (.ptr r (o+n.toNat*4))else none:=zfG Tryz.underlying127 (show zdB Tryz.prog 134=some 4 from by kernel_rfl) r o l z m k
theorem Ud(H:Hp)(xs:List (List AV)):zdY Tryz.prog H 127 (.lst xs)=some (.int .i64 xs.length):=zfE Tryz.underlying127 xs
theorem Ue(H:Hp)(r o n z:Nat):zdY Tryz.prog H 127 (.sl r o n z)=some (.int .i64 n):=zfn Tryz.underlying127 r o n z
theorem Uf(H:Hp):zdY Tryz.prog H 127 .nilS=some (.int .i64 0):=zfs Tryz.underlying127
def qy:=ad @T7 (ad @T9 (ad @T8 (ad @Ua (ad @Ub (ad @Uc (ad @Ud (ad @Ue (@Uf))))))))
theorem Ug:zdB Tryz.prog 128=some 1:=af
theorem Uh:zd6 Tryz.prog 128=some 8:=af
theorem Ui(cs:List AV)(o:Nat):zdx Tryz.prog 128 cs o=cs[o]?:=zeQ Tryz.underlying128 rfl cs o
theorem Uj:zdZ Tryz.prog 128=some [.nilP]:=af
def sA:=ad @Ug (ad @Ui (ad @Uh (@Uj)))
theorem Fv:zdB Tryz.prog 129=some 16:=af
theorem Uk:zd6 Tryz.prog 129=some 128:=af
theorem Ul(cs:List AV)(o:Nat):zdx Tryz.prog 129 cs o=zd7 16 (cs.drop o):=zfo Tryz.underlying129 rfl Fv cs o
theorem Um:zdZ Tryz.prog 129=some [.nilP,.nilP,.nilP,.nilP,.nilP,.nilP,.nilP,.nilP,.nilP,.nilP,.nilP,.nilP,.nilP,.nilP,.nilP,.nilP]:=af
def qz:=ad @Fv (ad @Ul (ad @Uk (@Um)))
theorem Fw:zdB Tryz.prog 131=some 23:=af
theorem Uo:zd6 Tryz.prog 131=some 264:=af
theorem Up(cs:List AV)(o:Nat):zdx Tryz.prog 131 cs o=zd7 23 (cs.drop o):=zfo Tryz.underlying131 rfl Fw cs o
theorem Uq:zdZ Tryz.prog 131=some [.nilS,.nilS,.nilS,(.int .i64 0),.nilP,.nilS,.nilS,.nilP,.nilP,.nilP,.nilP,.nilP,.nilP,.nilP,.nilP,.nilP,.nilP,.nilP,.nilP,.nilP,.nilP,.nilP,.nilP]:=af
theorem Ur(r o:Nat):zdt Tryz.prog 131 (.ptr r o) 0=some (.ptr r (o+0)):=af
theorem Us(cs:List AV):zdt Tryz.prog 131 (.iptr cs) 0=some (.iptr (cs.drop 0)):=af
theorem Ut(cs:List AV):zdN Tryz.prog 131 (.agg cs) 0=zdx Tryz.prog 32 cs 0:=af
theorem Uu(r o:Nat):zdt Tryz.prog 131 (.ptr r o) 1=some (.ptr r (o+2)):=af
theorem Uv(cs:List AV):zdt Tryz.prog 131 (.iptr cs) 1=some (.iptr (cs.drop 2)):=af
theorem Uw(cs:List AV):zdN Tryz.prog 131 (.agg cs) 1=zdx Tryz.prog 73 cs 2:=af
theorem Ux(r o:Nat):zdt Tryz.prog 131 (.ptr r o) 2=some (.ptr r (o+3)):=af
theorem Uy(cs:List AV):zdt Tryz.prog 131 (.iptr cs) 2=some (.iptr (cs.drop 3)):=af
theorem Uz(cs:List AV):zdN Tryz.prog 131 (.agg cs) 2=zdx Tryz.prog 3 cs 3:=af
theorem UA(r o:Nat):zdt Tryz.prog 131 (.ptr r o) 3=some (.ptr r (o+4)):=af
theorem UB(cs:List AV):zdt Tryz.prog 131 (.iptr cs) 3=some (.iptr (cs.drop 4)):=af
theorem UC(cs:List AV):zdN Tryz.prog 131 (.agg cs) 3=zdx Tryz.prog 76 cs 4:=af
theorem UD(r o:Nat):zdt Tryz.prog 131 (.ptr r o) 4=some (.ptr r (o+5)):=af
theorem UE(cs:List AV):zdt Tryz.prog 131 (.iptr cs) 4=some (.iptr (cs.drop 5)):=af
theorem UF(cs:List AV):zdN Tryz.prog 131 (.agg cs) 4=zdx Tryz.prog 33 cs 5:=af
theorem UG(r o:Nat):zdt Tryz.prog 131 (.ptr r o) 5=some (.ptr r (o+6)):=af
theorem UH(cs:List AV):zdt Tryz.prog 131 (.iptr cs) 5=some (.iptr (cs.drop 6)):=af
theorem UI(cs:List AV):zdN Tryz.prog 131 (.agg cs) 5=zdx Tryz.prog 127 cs 6:=af
theorem UJ(r o:Nat):zdt Tryz.prog 131 (.ptr r o) 6=some (.ptr r (o+7)):=af
theorem UK(cs:List AV):zdt Tryz.prog 131 (.iptr cs) 6=some (.iptr (cs.drop 7)):=af
theorem UL(cs:List AV):zdN Tryz.prog 131 (.agg cs) 6=zdx Tryz.prog 129 cs 7:=af
def qA:=ad @Fw (ad @Up (ad @Uo (ad @Uq (ad @Ur (ad @Us (ad @Ut (ad @Uu (ad @Uv (ad @Uw (ad @Ux (ad @Uy (ad @Uz (ad @UA (ad @UB (ad @UC (ad @UD (ad @UE (ad @UF (ad @UG (ad @UH (ad @UI (ad @UJ (ad @UK (@UL))))))))))))))))))))))))
theorem uK:zdB Tryz.prog 134=some 4:=af
theorem Fx:zd6 Tryz.prog 134=some 32:=af
theorem UM(cs:List AV)(o:Nat):zdx Tryz.prog 134 cs o=zd7 4 (cs.drop o):=zfo Tryz.underlying134 rfl uK cs o
theorem Fy:zdZ Tryz.prog 134=some [(.bool false),(.int .i64 0),.nilP,.nilP]:=af
theorem UN(r o:Nat):zdt Tryz.prog 134 (.ptr r o) 0=some (.ptr r (o+0)):=af
theorem UO(cs:List AV):zdt Tryz.prog 134 (.iptr cs) 0=some (.iptr (cs.drop 0)):=af
theorem UP(cs:List AV):zdN Tryz.prog 134 (.agg cs) 0=zdx Tryz.prog 4 cs 0:=af
theorem UQ(r o:Nat):zdt Tryz.prog 134 (.ptr r o) 1=some (.ptr r (o+1)):=af
theorem UR(cs:List AV):zdt Tryz.prog 134 (.iptr cs) 1=some (.iptr (cs.drop 1)):=af
theorem US(cs:List AV):zdN Tryz.prog 134 (.agg cs) 1=zdx Tryz.prog 2 cs 1:=af
theorem UT(r o:Nat):zdt Tryz.prog 134 (.ptr r o) 2=some (.ptr r (o+2)):=af
theorem UU(cs:List AV):zdt Tryz.prog 134 (.iptr cs) 2=some (.iptr (cs.drop 2)):=af
theorem UV(cs:List AV):zdN Tryz.prog 134 (.agg cs) 2=zdx Tryz.prog 76 cs 2:=af
theorem UW(r o:Nat):zdt Tryz.prog 134 (.ptr r o) 3=some (.ptr r (o+3)):=af
theorem UX(cs:List AV):zdt Tryz.prog 134 (.iptr cs) 3=some (.iptr (cs.drop 3)):=af
theorem UY(cs:List AV):zdN Tryz.prog 134 (.agg cs) 3=zdx Tryz.prog 128 cs 3:=af
def qB:=ad @uK (ad @UM (ad @Fx (ad @Fy (ad @UN (ad @UO (ad @UP (ad @UQ (ad @UR (ad @US (ad @UT (ad @UU (ad @UV (ad @UW (ad @UX (@UY)))))))))))))))
theorem Fz:zdB Tryz.prog 136=some 2:=af
theorem UZ:zd6 Tryz.prog 136=some 16:=af
theorem U0(cs:List AV)(o:Nat):zdx Tryz.prog 136 cs o=zd7 2 (cs.drop o):=zfo Tryz.underlying136 rfl Fz cs o
theorem U1:zdZ Tryz.prog 136=some [(.int .i64 0),.nilP]:=af
theorem U2(r o:Nat):zdt Tryz.prog 136 (.ptr r o) 0=some (.ptr r (o+0)):=af
theorem U3(cs:List AV):zdt Tryz.prog 136 (.iptr cs) 0=some (.iptr (cs.drop 0)):=af
theorem U4(cs:List AV):zdN Tryz.prog 136 (.agg cs) 0=zdx Tryz.prog 2 cs 0:=af
theorem U5(r o:Nat):zdt Tryz.prog 136 (.ptr r o) 1=some (.ptr r (o+1)):=af
theorem U6(cs:List AV):zdt Tryz.prog 136 (.iptr cs) 1=some (.iptr (cs.drop 1)):=af
theorem U7(cs:List AV):zdN Tryz.prog 136 (.agg cs) 1=zdx Tryz.prog 77 cs 1:=af
def FA:=ad @Fz (ad @U0 (ad @UZ (ad @U1 (ad @U2 (ad @U3 (ad @U4 (ad @U5 (ad @U6 (@U7)))))))))
theorem U8:zdB Tryz.prog 137=some 1:=af
theorem U9:zd6 Tryz.prog 137=some 24:=af
theorem Va(cs:List AV)(o:Nat):zdx Tryz.prog 137 cs o=cs[o]?:=zeQ Tryz.underlying137 rfl cs o
theorem Vb:zdZ Tryz.prog 137=some [.nilS]:=af
theorem Vc(xs:List (List AV)){n:Int}(m:0<=n)(k:IntKind):zdV Tryz.prog 137 (.lst xs) (.int k n)=gE 3 (xs[n.toNat]?):=zfF Tryz.underlying137 (show zdB Tryz.prog 173=some 3 from by kernel_rfl) xs m k
theorem Vd(r o l z:Nat){n:Int}(m:0<=n)(k:IntKind):zdV Tryz.prog 137 (.sl r o l z) (.int k n)=bif decide (n.toNat<l)then some (.ptr r (o+n.toNat*3))else none:=zfG Tryz.underlying137 (show zdB Tryz.prog 173=some 3 from by kernel_rfl) r o l z m k
theorem Ve(H:Hp)(xs:List (List AV)):zdY Tryz.prog H 137 (.lst xs)=some (.int .i64 xs.length):=zfE Tryz.underlying137 xs
theorem Vf(H:Hp)(r o n z:Nat):zdY Tryz.prog H 137 (.sl r o n z)=some (.int .i64 n):=zfn Tryz.underlying137 r o n z
theorem Vg(H:Hp):zdY Tryz.prog H 137 .nilS=some (.int .i64 0):=zfs Tryz.underlying137
def A3:=ad @U8 (ad @Va (ad @U9 (ad @Vb (ad @Vc (ad @Vd (ad @Ve (ad @Vf (@Vg))))))))
theorem Vh:zdB Tryz.prog 154=some 1:=af
theorem Vi:zd6 Tryz.prog 154=some 8:=af
theorem Vj(cs:List AV)(o:Nat):zdx Tryz.prog 154 cs o=cs[o]?:=zeQ Tryz.underlying154 rfl cs o
theorem Vk:zdZ Tryz.prog 154=some [(.int .u64 0)]:=af
def A4:=ad @Vh (ad @Vj (ad @Vi (@Vk)))
theorem FB:zdB Tryz.prog 157=some 17:=af
theorem Vl:zd6 Tryz.prog 157=some 248:=af
theorem Vm(cs:List AV)(o:Nat):zdx Tryz.prog 157 cs o=zd7 17 (cs.drop o):=zfo Tryz.underlying157 rfl FB cs o
theorem Vn:zdZ Tryz.prog 157=some [(.int .i64 0),(.str []),(.str []),(.int .i64 0),(.int .i64 0),(.int .i64 0),(.str []),(.int .i64 0),.nilS,(.int .i64 0),(.int .i64 0),(.str []),(.int .i64 0),.nilS,.nilS,.nilS,.nilS]:=af
theorem Vo(r o:Nat):zdt Tryz.prog 157 (.ptr r o) 0=some (.ptr r (o+0)):=af
theorem Vp(cs:List AV):zdt Tryz.prog 157 (.iptr cs) 0=some (.iptr (cs.drop 0)):=af
theorem Vq(cs:List AV):zdN Tryz.prog 157 (.agg cs) 0=zdx Tryz.prog 3 cs 0:=af
theorem Vr(r o:Nat):zdt Tryz.prog 157 (.ptr r o) 1=some (.ptr r (o+1)):=af
theorem Vs(cs:List AV):zdt Tryz.prog 157 (.iptr cs) 1=some (.iptr (cs.drop 1)):=af
theorem Vt(cs:List AV):zdN Tryz.prog 157 (.agg cs) 1=zdx Tryz.prog 9 cs 1:=af
theorem Vu(r o:Nat):zdt Tryz.prog 157 (.ptr r o) 2=some (.ptr r (o+2)):=af
theorem Vv(cs:List AV):zdt Tryz.prog 157 (.iptr cs) 2=some (.iptr (cs.drop 2)):=af
theorem Vw(cs:List AV):zdN Tryz.prog 157 (.agg cs) 2=zdx Tryz.prog 9 cs 2:=af
theorem Vx(r o:Nat):zdt Tryz.prog 157 (.ptr r o) 3=some (.ptr r (o+3)):=af
theorem Vy(cs:List AV):zdt Tryz.prog 157 (.iptr cs) 3=some (.iptr (cs.drop 3)):=af
theorem Vz(cs:List AV):zdN Tryz.prog 157 (.agg cs) 3=zdx Tryz.prog 3 cs 3:=af
theorem VA(r o:Nat):zdt Tryz.prog 157 (.ptr r o) 4=some (.ptr r (o+4)):=af
theorem VB(cs:List AV):zdt Tryz.prog 157 (.iptr cs) 4=some (.iptr (cs.drop 4)):=af
theorem VC(cs:List AV):zdN Tryz.prog 157 (.agg cs) 4=zdx Tryz.prog 104 cs 4:=af
theorem VD(r o:Nat):zdt Tryz.prog 157 (.ptr r o) 5=some (.ptr r (o+9)):=af
theorem VE(cs:List AV):zdt Tryz.prog 157 (.iptr cs) 5=some (.iptr (cs.drop 9)):=af
theorem VF(cs:List AV):zdN Tryz.prog 157 (.agg cs) 5=zdx Tryz.prog 104 cs 9:=af
theorem VG(r o:Nat):zdt Tryz.prog 157 (.ptr r o) 6=some (.ptr r (o+14)):=af
theorem VH(cs:List AV):zdt Tryz.prog 157 (.iptr cs) 6=some (.iptr (cs.drop 14)):=af
theorem VI(cs:List AV):zdN Tryz.prog 157 (.agg cs) 6=zdx Tryz.prog 102 cs 14:=af
theorem VJ(r o:Nat):zdt Tryz.prog 157 (.ptr r o) 7=some (.ptr r (o+15)):=af
theorem VK(cs:List AV):zdt Tryz.prog 157 (.iptr cs) 7=some (.iptr (cs.drop 15)):=af
theorem VL(cs:List AV):zdN Tryz.prog 157 (.agg cs) 7=zdx Tryz.prog 101 cs 15:=af
theorem VM(r o:Nat):zdt Tryz.prog 157 (.ptr r o) 8=some (.ptr r (o+16)):=af
theorem VN(cs:List AV):zdt Tryz.prog 157 (.iptr cs) 8=some (.iptr (cs.drop 16)):=af
theorem VO(cs:List AV):zdN Tryz.prog 157 (.agg cs) 8=zdx Tryz.prog 101 cs 16:=af
def jM:=ad @FB (ad @Vm (ad @Vl (ad @Vn (ad @Vo (ad @Vp (ad @Vq (ad @Vr (ad @Vs (ad @Vt (ad @Vu (ad @Vv (ad @Vw (ad @Vx (ad @Vy (ad @Vz (ad @VA (ad @VB (ad @VC (ad @VD (ad @VE (ad @VF (ad @VG (ad @VH (ad @VI (ad @VJ (ad @VK (ad @VL (ad @VM (ad @VN (@VO))))))))))))))))))))))))))))))
theorem xr:zdB Tryz.prog 173=some 3:=af
theorem A5:zd6 Tryz.prog 173=some 32:=af
theorem VP(cs:List AV)(o:Nat):zdx Tryz.prog 173 cs o=zd7 3 (cs.drop o):=zfo Tryz.underlying173 rfl xr cs o
theorem A6:zdZ Tryz.prog 173=some [(.int .i64 0),(.str []),(.int .i64 0)]:=af
theorem VQ(r o:Nat):zdt Tryz.prog 173 (.ptr r o) 0=some (.ptr r (o+0)):=af
theorem VS(cs:List AV):zdt Tryz.prog 173 (.iptr cs) 0=some (.iptr (cs.drop 0)):=af
theorem VT(cs:List AV):zdN Tryz.prog 173 (.agg cs) 0=zdx Tryz.prog 3 cs 0:=af
theorem VU(r o:Nat):zdt Tryz.prog 173 (.ptr r o) 1=some (.ptr r (o+1)):=af
theorem VV(cs:List AV):zdt Tryz.prog 173 (.iptr cs) 1=some (.iptr (cs.drop 1)):=af
theorem VW(cs:List AV):zdN Tryz.prog 173 (.agg cs) 1=zdx Tryz.prog 9 cs 1:=af
theorem VX(r o:Nat):zdt Tryz.prog 173 (.ptr r o) 2=some (.ptr r (o+2)):=af
theorem VY(cs:List AV):zdt Tryz.prog 173 (.iptr cs) 2=some (.iptr (cs.drop 2)):=af
theorem VZ(cs:List AV):zdN Tryz.prog 173 (.agg cs) 2=zdx Tryz.prog 3 cs 2:=af
def xt:=ad @xr (ad @VP (ad @A5 (ad @A6 (ad @VQ (ad @VS (ad @VT (ad @VU (ad @VV (ad @VW (ad @VX (ad @VY (@VZ))))))))))))
theorem V0:zdB Tryz.prog 192=some 1:=af
theorem V1:zd6 Tryz.prog 192=some 8:=af
theorem V2(cs:List AV)(o:Nat):zdx Tryz.prog 192 cs o=cs[o]?:=zeQ Tryz.underlying192 rfl cs o
theorem V3:zdZ Tryz.prog 192=some [.nilF]:=af
def FC:=ad @V0 (ad @V2 (ad @V1 (@V3)))
theorem V4:zdB Tryz.prog 198=some 1:=af
theorem V5:zd6 Tryz.prog 198=some 8:=af
theorem V6(cs:List AV)(o:Nat):zdx Tryz.prog 198 cs o=cs[o]?:=zeQ Tryz.underlying198 rfl cs o
theorem V7:zdZ Tryz.prog 198=some [.nilM]:=af
def xu:=ad @V4 (ad @V6 (ad @V5 (@V7)))
theorem V8:zdB Tryz.prog 200=some 1:=af
theorem V9:zd6 Tryz.prog 200=some 24:=af
theorem Wa(cs:List AV)(o:Nat):zdx Tryz.prog 200 cs o=cs[o]?:=zeQ Tryz.underlying200 rfl cs o
theorem Wb:zdZ Tryz.prog 200=some [.nilS]:=af
theorem Wc(xs:List (List AV)){n:Int}(m:0<=n)(k:IntKind):zdV Tryz.prog 200 (.lst xs) (.int k n)=gE 1 (xs[n.toNat]?):=zfF Tryz.underlying200 (show zdB Tryz.prog 5=some 1 from by kernel_rfl) xs m k
theorem Wd(r o l z:Nat){n:Int}(m:0<=n)(k:IntKind):zdV Tryz.prog 200 (.sl r o l z) (.int k n)=bif decide (n.toNat<l)then some (.ptr r (o+n.toNat*1))else none:=zfG Tryz.underlying200 (show zdB Tryz.prog 5=some 1 from by kernel_rfl) r o l z m k
theorem We(H:Hp)(xs:List (List AV)):zdY Tryz.prog H 200 (.lst xs)=some (.int .i64 xs.length):=zfE Tryz.underlying200 xs
theorem Wf(H:Hp)(r o n z:Nat):zdY Tryz.prog H 200 (.sl r o n z)=some (.int .i64 n):=zfn Tryz.underlying200 r o n z
theorem Wg(H:Hp):zdY Tryz.prog H 200 .nilS=some (.int .i64 0):=zfs Tryz.underlying200
def FD:=ad @V8 (ad @Wa (ad @V9 (ad @Wb (ad @Wc (ad @Wd (ad @We (ad @Wf (@Wg))))))))
theorem FE:zdB Tryz.prog 208=some 16:=af
theorem Wh:zd6 Tryz.prog 208=some 128:=af
theorem Wi(cs:List AV)(o:Nat):zdx Tryz.prog 208 cs o=zd7 16 (cs.drop o):=zfo Tryz.underlying208 rfl FE cs o
theorem Wj:zdZ Tryz.prog 208=some [(.int .i64 0),(.int .i64 0),(.int .i64 0),(.int .i64 0),(.int .i64 0),(.int .i64 0),(.int .i64 0),(.int .i64 0),(.int .i64 0),(.int .i64 0),(.int .i64 0),(.int .i64 0),(.int .i64 0),(.int .i64 0),(.int .i64 0),(.int .i64 0)]:=af
def Wk:=ad @FE (ad @Wi (ad @Wh (@Wj)))
theorem FF:zdB Tryz.prog 210=some 2:=af
theorem Wl:zd6 Tryz.prog 210=some 32:=af
theorem Wm(cs:List AV)(o:Nat):zdx Tryz.prog 210 cs o=zd7 2 (cs.drop o):=zfo Tryz.underlying210 rfl FF cs o
theorem Wn:zdZ Tryz.prog 210=some [.nilP,.nilS]:=af
theorem Wo(r o:Nat):zdt Tryz.prog 210 (.ptr r o) 0=some (.ptr r (o+0)):=af
theorem Wp(cs:List AV):zdt Tryz.prog 210 (.iptr cs) 0=some (.iptr (cs.drop 0)):=af
theorem Wq(cs:List AV):zdN Tryz.prog 210 (.agg cs) 0=zdx Tryz.prog 76 cs 0:=af
theorem Wr(r o:Nat):zdt Tryz.prog 210 (.ptr r o) 1=some (.ptr r (o+1)):=af
theorem Ws(cs:List AV):zdt Tryz.prog 210 (.iptr cs) 1=some (.iptr (cs.drop 1)):=af
theorem Wt(cs:List AV):zdN Tryz.prog 210 (.agg cs) 1=zdx Tryz.prog 33 cs 1:=af
def Wu:=ad @FF (ad @Wm (ad @Wl (ad @Wn (ad @Wo (ad @Wp (ad @Wq (ad @Wr (ad @Ws (@Wt)))))))))
theorem FG:zdB Tryz.prog 225=some 8:=af
theorem Wv:zd6 Tryz.prog 225=some 8:=af
theorem Ww(cs:List AV)(o:Nat):zdx Tryz.prog 225 cs o=zd7 8 (cs.drop o):=zfo Tryz.underlying225 rfl FG cs o
theorem Wx:zdZ Tryz.prog 225=some [(.bool false),(.bool false),(.bool false),(.bool false),(.bool false),(.bool false),(.bool false),(.bool false)]:=af
theorem Wy(r o:Nat):zdt Tryz.prog 225 (.ptr r o) 0=some (.ptr r (o+0)):=af
theorem Wz(cs:List AV):zdt Tryz.prog 225 (.iptr cs) 0=some (.iptr (cs.drop 0)):=af
theorem WA(cs:List AV):zdN Tryz.prog 225 (.agg cs) 0=zdx Tryz.prog 4 cs 0:=af
theorem WB(r o:Nat):zdt Tryz.prog 225 (.ptr r o) 1=some (.ptr r (o+1)):=af
theorem WC(cs:List AV):zdt Tryz.prog 225 (.iptr cs) 1=some (.iptr (cs.drop 1)):=af
theorem WD(cs:List AV):zdN Tryz.prog 225 (.agg cs) 1=zdx Tryz.prog 4 cs 1:=af
theorem WE(r o:Nat):zdt Tryz.prog 225 (.ptr r o) 2=some (.ptr r (o+2)):=af
theorem WF(cs:List AV):zdt Tryz.prog 225 (.iptr cs) 2=some (.iptr (cs.drop 2)):=af
theorem WG(cs:List AV):zdN Tryz.prog 225 (.agg cs) 2=zdx Tryz.prog 4 cs 2:=af
theorem WH(r o:Nat):zdt Tryz.prog 225 (.ptr r o) 3=some (.ptr r (o+3)):=af
theorem WI(cs:List AV):zdt Tryz.prog 225 (.iptr cs) 3=some (.iptr (cs.drop 3)):=af
theorem WJ(cs:List AV):zdN Tryz.prog 225 (.agg cs) 3=zdx Tryz.prog 4 cs 3:=af
theorem WK(r o:Nat):zdt Tryz.prog 225 (.ptr r o) 4=some (.ptr r (o+4)):=af
theorem WL(cs:List AV):zdt Tryz.prog 225 (.iptr cs) 4=some (.iptr (cs.drop 4)):=af
theorem WM(cs:List AV):zdN Tryz.prog 225 (.agg cs) 4=zdx Tryz.prog 4 cs 4:=af
theorem WN(r o:Nat):zdt Tryz.prog 225 (.ptr r o) 5=some (.ptr r (o+5)):=af
theorem WO(cs:List AV):zdt Tryz.prog 225 (.iptr cs) 5=some (.iptr (cs.drop 5)):=af
theorem WP(cs:List AV):zdN Tryz.prog 225 (.agg cs) 5=zdx Tryz.prog 4 cs 5:=af
theorem WQ(r o:Nat):zdt Tryz.prog 225 (.ptr r o) 6=some (.ptr r (o+6)):=af
theorem WR(cs:List AV):zdt Tryz.prog 225 (.iptr cs) 6=some (.iptr (cs.drop 6)):=af
theorem WS(cs:List AV):zdN Tryz.prog 225 (.agg cs) 6=zdx Tryz.prog 4 cs 6:=af
theorem WT(r o:Nat):zdt Tryz.prog 225 (.ptr r o) 7=some (.ptr r (o+7)):=af
theorem WU(cs:List AV):zdt Tryz.prog 225 (.iptr cs) 7=some (.iptr (cs.drop 7)):=af
theorem WV(cs:List AV):zdN Tryz.prog 225 (.agg cs) 7=zdx Tryz.prog 4 cs 7:=af
def FH:=ad @FG (ad @Ww (ad @Wv (ad @Wx (ad @Wy (ad @Wz (ad @WA (ad @WB (ad @WC (ad @WD (ad @WE (ad @WF (ad @WG (ad @WH (ad @WI (ad @WJ (ad @WK (ad @WL (ad @WM (ad @WN (ad @WO (ad @WP (ad @WQ (ad @WR (ad @WS (ad @WT (ad @WU (@WV)))))))))))))))))))))))))))
theorem WW:zdB Tryz.prog 230=some 1:=af
theorem WX:zd6 Tryz.prog 230=some 24:=af
theorem WY(cs:List AV)(o:Nat):zdx Tryz.prog 230 cs o=cs[o]?:=zeQ Tryz.underlying230 rfl cs o
theorem WZ:zdZ Tryz.prog 230=some [.nilS]:=af
theorem W0(xs:List (List AV)){n:Int}(m:0<=n)(k:IntKind):zdV Tryz.prog 230 (.lst xs) (.int k n)=gE 1 (xs[n.toNat]?):=zfF Tryz.underlying230 (show zdB Tryz.prog 100=some 1 from by kernel_rfl) xs m k
theorem W1(r o l z:Nat){n:Int}(m:0<=n)(k:IntKind):zdV Tryz.prog 230 (.sl r o l z) (.int k n)=bif decide (n.toNat<l)then some (.ptr r (o+n.toNat*1))else none:=zfG Tryz.underlying230 (show zdB Tryz.prog 100=some 1 from by kernel_rfl) r o l z m k
theorem W2(H:Hp)(xs:List (List AV)):zdY Tryz.prog H 230 (.lst xs)=some (.int .i64 xs.length):=zfE Tryz.underlying230 xs
theorem W3(H:Hp)(r o n z:Nat):zdY Tryz.prog H 230 (.sl r o n z)=some (.int .i64 n):=zfn Tryz.underlying230 r o n z
theorem W4(H:Hp):zdY Tryz.prog H 230 .nilS=some (.int .i64 0):=zfs Tryz.underlying230
def A7:=ad @WW (ad @WY (ad @WX (ad @WZ (ad @W0 (ad @W1 (ad @W2 (ad @W3 (@W4))))))))
theorem FI:zdB Tryz.prog 245=some 7:=af
theorem W5:zd6 Tryz.prog 245=some 112:=af
theorem W6(cs:List AV)(o:Nat):zdx Tryz.prog 245 cs o=zd7 7 (cs.drop o):=zfo Tryz.underlying245 rfl FI cs o
theorem W7:zdZ Tryz.prog 245=some [(.str []),(.str []),(.str []),(.str []),(.str []),(.str []),(.str [])]:=af
def W8:=ad @FI (ad @W6 (ad @W5 (@W7)))
theorem A8(H:Hp)(k:IntKind)(n:Int):zfA Tryz.prog H 2 126 (.int k n)=some (.int .u64 (IntKind.wrap .u64 n)):=qr
theorem A9(H:Hp)(k:IntKind)(n:Int):zfA Tryz.prog H 2 154 (.int k n)=some (.int .u64 (IntKind.wrap .u64 n)):=qr
theorem FJ(H:Hp)(k:IntKind)(n:Int):zfA Tryz.prog H 3 5 (.int k n)=some (.int .u8 (IntKind.wrap .u8 n)):=qr
theorem FK(H:Hp)(k:IntKind)(n:Int):zfA Tryz.prog H 3 126 (.int k n)=some (.int .u64 (IntKind.wrap .u64 n)):=qr
theorem FL(H:Hp)(k:IntKind)(n:Int):zfA Tryz.prog H 3 154 (.int k n)=some (.int .u64 (IntKind.wrap .u64 n)):=qr
theorem W9(H:Hp)(k:IntKind)(n:Int):zfA Tryz.prog H 154 2 (.int k n)=some (.int .i64 (IntKind.wrap .i64 n)):=qr
theorem FM(H:Hp)(k:IntKind)(n:Int):zfA Tryz.prog H 154 5 (.int k n)=some (.int .u8 (IntKind.wrap .u8 n)):=qr
end Go.Proofs.YtljebeflbbgibaaGreat
namespace Go.Ab
set_option maxRecDepth 20000
open Go
variable {P:Program} {cfg:Cfg} {f N:Nat}
theorem zef{a:SC}{E:ax}{H:Hp}{Q:AX->ax->Hp->Prop}(cs rs:List Nat)(C n:Nat)(J:Nat->ax->Hp->Prop)(A:E.at C=.int .i64 0)(j:J 0 E H)
 (h:∀(i:Nat) (E':ax) (H':Hp),i<=n->(∀k∈cs,E'.at k=E.at k)->(∀r∈rs,H'.get r=H.get r)->H.next<=H'.next->E'.at C=.int .i64 i->J i E' H' ->
   zdX P cfg f N a E' H' (jt Q fun Z g=>i<n/\(∀k∈cs,Z.at k=E.at k)/\(∀r∈rs,g.get r=H.get r)/\H.next<=g.next/\Z.at C=.int .i64 ((i+1:Nat):Int)/\J (i+1) Z g)):zdX P cfg f N (.loop a) E H Q:=
 mh (fun i E' H'=>(∀k∈cs,E'.at k=E.at k)/\(∀r∈rs,H'.get r=H.get r)/\H.next<=H'.next/\E'.at C=.int .i64 i/\J i E' H') n (fun i E' H' Y ⟨V,U,o,O,M⟩=>h i E' H' Y V U o O M) ⟨fun _ _=>rfl,fun _ _=>rfl,aM _,A,j⟩
theorem zdO{p:Nat->Prop}{a:Nat}{l:List Nat}:(∀k∈a::l,p k)↔p a/\∀k∈l,p k:=List.forall_mem_cons
theorem zdF{p:Nat->Prop}:(∀k∈([]:List Nat),p k)↔True:=⟨fun _=>trivial,fun _ _ h=>jp⟩
theorem zdC{a b:Nat}(h:a≠b):(a == b)=false:=ja
theorem zfq{i n:Nat}(h:i<n)(m:n<2^62):AV.int .i64 (IntKind.wrap .i64 ((i:Int)+1))=.int .i64 ((i+1:Nat):Int):=by rw[zfD ac]
end Go.Ab
