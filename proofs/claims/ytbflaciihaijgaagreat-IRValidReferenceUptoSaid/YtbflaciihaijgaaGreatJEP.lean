/- Lemmas for the last file. -/
import Derived.Test.YtbflaciihaijgaaGreatJEO
set_option linter.all false
set_option maxHeartbeats 32000000
namespace Go.Ab
set_option maxRecDepth 20000
open Go
variable{qf:Prop}
def GE(h:qf:=by rw[M.s];decide):=h
def gl(h:qf:=by unfold eJ;omega):=h
def Cb(h:qf:=by show eJ (k:Int);unfold eJ;omega):=h
def TK(h:qf:=by rw[pN,hr,Option.bind_some,m,Option.bind_some]):=h
def zK(h:qf:=by simp only;omega):=h
def KT(h:qf:=by rw[List.length_set];exact ct.vl):=h
def TL(h:qf:=by rw[lu.2.2.2];show q.2.loops=_;rw[lq.n,hrn]):=h
def KU(h:qf:=by show r.2.loops<=_;rw[I.n];omega):=h
def GF(h:qf:=by rw[List.length_cons];omega):=h
def KV(h:qf:=by rw[List.length_append]):=h
def TM(h:qf:=by show s.loops<=(gI ar.len r.1 v.2).loops;omega):=h
def TN(h:qf:=by rw[C,show dL=70368744177664 from rfl];omega):=h
def KW(h:qf:=by rw[List.length_map];omega):=h
def KX(h:qf:=by simp only[aG,Nat.reduceBEq, *];exact gX (n:=u.funcs.length) ac ac):=h
def r0:=@List.mem_or_eq_of_mem_set
def GG:=@Int.tmod_eq_emod_of_nonneg
def KY:=@List.nodup_nil
def Cc:=@List.nodup_cons
end Go.Ab
namespace Go.Proofs.YtbflaciihaijgaaGreat
set_option maxRecDepth 20000
open Go Go.Ab Proofs.Tryz
variable{l C:qy}{t k b:Int}{x:St}{L:qu}{c:Cx}{N V:List b8}{A B S:Nat->Prop}{r:Bd}{H:Hp}
def gm(l:qy)(n:Nd):Int:=match fw l.length (cm l l.length) n.aj with
 |none=>0
 |some s=>if bR n.op s&&cq l n then dQ n s else 0
def zij{op:Int}{s:qu}(h:bR op s=true)(e:op=25):s.length=1:=by
 subst e;unfold bR at h;have:bC 25=(1,true):=aE;rw[this]at h;simp only[nO,dD]at h;split at h
 .cases h
 .omega
theorem TO(l:qy)(n:Nd):cR (l++[n]) l.length=gm l n:=by
 rw[xD au];have J:(l++[n]).take l.length=l:=List.take_left;have M:cm (l++[n]) l.length=cm l l.length:=by
  have:=Jx (l:=l++[n]) (m:=l.length) (i:=l.length) (aH _);rw[J]at this;exact this.symm
 have I:(l++[n])[l.length]?=some n:=by rw[lT (aH _),nP];rfl
 unfold iE gm;rw[M,I];simp only;cases j:fw l.length (cm l l.length) n.aj with
 |none=>rfl
 |some s=>
  simp only;by_cases c:bR n.op s=true
  .have e:cq l n=cq (l++[n]) n:=by
    have:=ON (l:=l++[n]) (m:=l.length) (n:=n) fun Y=>by
     have Z:=uB j;have V:=zij c Y;cases L:n.aj with
     |nil=>rw[L,V]at Z;simp at Z
     |cons k z=>
      refine⟨k,z,rfl,?_⟩;have:=tw j k (by rw[L];exact ei);omega
    rw[J]at this;exact this
   rw[e]
  .have U:bR n.op s=false:=by simpa using c
   rw[U,em,em]
theorem TP{l:qy}:∀{z:qu},(∀k∈z,0<=k/\k<l.length/\cR l k≠0)->fw l.length (cm l l.length) z=some (z.map (cR l))
 |[],_=>rfl
 |k::z,h=>by
  obtain⟨Z,g,m⟩:=h k ei;obtain⟨k,rfl⟩:=gO Z;have e:=ED (l:=l) (i:=l.length) (j:=k) ac (aH _);rw[fw,fK,e,af ac,TP fun q L=>h q (ev _ L)];rfl
def ox{n:Nd}(h:∀k∈n.aj,0<=k/\k<l.length/\cR l k≠0):gm l n=if bR n.op (n.aj.map (cR l))&&cq l n then dQ n (n.aj.map (cR l))else 0:=by
 unfold gm;rw[TP h]
structure IsT (l:qy) (t:Int) (k:Int):Prop where
 lo:0<=k
 hi:k<l.length
 s:cR l k=t
variable{s:Bd}
def IsT.le(h:IsT l t k)(J:l<+:C):IsT C t k:=by
 obtain⟨m,rfl⟩:=J;obtain⟨i,g,Z⟩:=h;obtain⟨k,rfl⟩:=gO i;exact⟨i,by rw[fB];omega,by rw[OO ac];exact Z⟩
section
variable {l:qy}
def TQ(n:Int):gm l ⟨1,n,[]⟩=1:=by
 rw[ox au];simp[bR,bC,dW,cK,cq,dQ]
def TS{n:Int}(U:0<=n)(h1:n<=5):gm l ⟨2,n,[]⟩=1:=by
 rw[ox au];simp[bR,bC,dW,cK,cq,dV,dQ,U,h1]
def GH{n:Int}(U:0<=n)(h1:n<=255):gm l ⟨3,n,[]⟩=if n.tmod 16=0 then 2 else 1:=by
 rw[ox au];simp[bR,bC,dW,cK,cq,dV,dQ,U,h1]
def TT:gm l ⟨26,0,[]⟩=2:=by
 rw[ox au];simp[bR,bC,dW,cK,cq,dV,dQ]
def TU{op a:Int}(z:IsT l 1 a)(hb:IsT l 1 b)(U:4<=op)(h1:op<=19):gm l ⟨op,0,[a,b]⟩=1:=by
 have q:∀k:Int,(k<4\/19<k)->¬op=k:=fun k j e=>ac;have Z:bC op=(2,true):=by
  unfold bC;rw[af ac,af ac,af ac,af ac,af ac,ah ⟨U,h1⟩]
 rw[ox (fun k j=>by
  simp only[j5]at j;rcases j with rfl|rfl
  .exact⟨z.lo,z.hi,by rw[z.s];decide⟩
  .exact⟨hb.lo,hb.hi,by rw[hb.s];decide⟩)]
 simp only[lL,z.s,hb.s];have v:bR op [1,1]=true:=by
  unfold bR;rw[Z,af au,af au,af (q 31 ac),af (q 30 ac),af (fun h=>q 22 ac h.1)];unfold dW;rw[af (q 22 ac),af (by have:=q 23 ac;have:=q 27 ac;have:=q 29 ac;omega),af (q 28 ac),af (q 24 ac),af (q 25 ac)];rfl
 have i:cq l ⟨op,0,[a,b]⟩=true:=by
  unfold cq dV;simp only[];rw[af (q 1 ac),af (q 27 ac),af (q 2 ac),af (q 3 ac),af (by have:=q 23 ac;have:=q 28 ac;omega),af (q 30 ac),af (q 31 ac),af (q 25 ac)];rfl
 rw[v,i];simp only[vn,dh];unfold dQ;simp only[];rw[af (q 31 ac),af ac,af (q 22 ac),af (fun h=>q 3 ac h.1),af (fun h=>q 25 ac h.1)]
def TV{op a:Int}(z:IsT l 1 a)(U:op=20\/op=21):gm l ⟨op,0,[a]⟩=1:=by
 rw[ox (fun k j=>by
  simp only[j5]at j;subst j;exact⟨z.lo,z.hi,by rw[z.s];decide⟩)]
 simp only[lL,z.s];rcases U with rfl|rfl<;>simp[bR,bC,dW,cK,cq,dV,dQ]
def TW{c a:Int}(g:IsT l 1 c)(z:IsT l t a)(hb:IsT l t b)(J:t=1\/t=2):gm l ⟨22,0,[c,a,b]⟩=t:=by
 rw[ox (fun k j=>by
  simp only[j5]at j;rcases j with rfl|rfl|rfl
  .exact⟨g.lo,g.hi,by rw[g.s];decide⟩
  .exact⟨z.lo,z.hi,by rw[z.s];omega⟩
  .exact⟨hb.lo,hb.hi,by rw[hb.s];omega⟩)]
 simp only[lL,z.s,hb.s,g.s];rcases J with rfl|rfl<;>simp[bR,bC,dW,cK,cq,dV,dQ]
def KZ{x y a:Int}(Z:x≠0)(Y:y≠0)(z:IsT l x a)(hb:IsT l y b):∀k∈[a,b],0<=k/\k<l.length/\cR l k≠0:=fun k j=>by
 simp only[j5]at j;rcases j with rfl|rfl
 .exact⟨z.lo,z.hi,by rw[z.s];exact Z⟩
 .exact⟨hb.lo,hb.hi,by rw[hb.s];exact Y⟩
def TX{n s a:Int}(M:IsT l 2 s)(z:IsT l 1 a)(U:0<=n)(h1:n<=3):gm l ⟨23,n,[s,a]⟩=1:=by
 rw[ox (KZ aE aE M z)];simp[M.s,z.s,bR,bC,dW,cK,cq,dV,dQ,U,h1]
def TY{n s a:Int}(M:IsT l 2 s)(z:IsT l 1 a)(U:1<=n)(h1:n<=1000016):gm l ⟨27,n,[s,a]⟩=2:=by
 rw[ox (KZ aE aE M z)];simp[M.s,z.s,bR,bC,dW,cK,cq,dQ,U,h1]
def TZ{s a:Int}(M:IsT l 2 s)(z:IsT l 1 a):gm l ⟨29,0,[s,a]⟩=2:=by
 rw[ox (KZ aE aE M z)];simp[M.s,z.s,bR,bC,dW,cK,cq,dV,dQ]
def T0{n s a:Int}(M:IsT l 2 s)(z:IsT l 1 a)(hb:IsT l 1 b)(U:0<=n)(h1:n<=3):gm l ⟨28,n,[s,a,b]⟩=2:=by
 rw[ox (fun k j=>by
  simp only[j5]at j;rcases j with rfl|rfl|rfl
  .exact⟨M.lo,M.hi,GE⟩
  .exact⟨z.lo,z.hi,by rw[z.s];decide⟩
  .exact⟨hb.lo,hb.hi,by rw[hb.s];decide⟩)]
 simp[M.s,z.s,hb.s,bR,bC,dW,cK,cq,dV,dQ,U,h1]
def T1{s:Int}(M:IsT l 2 s):gm l ⟨24,0,[s]⟩=1:=by
 rw[ox (fun k j=>by
  simp only[j5]at j;subst j;exact⟨M.lo,M.hi,GE⟩)]
 simp[M.s,bR,bC,dW,cK,cq,dV,dQ]
theorem GI:∀{L:qu},(∀a∈L,IsT l 1 a)->L.map (cR l)=List.replicate L.length 1
 |[],_=>rfl
 |a::L,h=>by
  rw[dZ,(h a ei).s,GI fun x z=>h x (ev _ z)];rfl
def T2{n s:Int}(M:IsT l 2 s)(z:∀a∈L,IsT l 1 a)(J:L.length<=6)(U:0<=n)(h1:n<=7):gm l ⟨30,n,s::L⟩=2:=by
 rw[ox (fun k j=>by
  rcases gE.1 j with rfl|j
  .exact⟨M.lo,M.hi,GE⟩
  .exact⟨(z k j).lo,(z k j).hi,by rw[(z k j).s];decide⟩)]
 simp only[dZ,M.s,GI z];have v:bR 30 (2::List.replicate L.length 1)=true:=by
  have a:bC 30=(-1,true):=aE;unfold bR;rw[a];simp only[nO,dD];rw[af ac,af ac,ah trivial];simp only[eF,rJ,xw,List.tail_cons,jN];refine⟨⟨⟨ac,ac⟩,trivial⟩,?_⟩;rw[gM];intro x Z;rw[Eu Z];rfl
 have i:cq l ⟨30,n,s::L⟩=true:=by simp[cq,dV,U,h1]
 rw[v,i];simp[dQ]
def T3{n s d st:Int}{bs:qu}(M:IsT l 2 s)(z:∀a∈L,IsT l 1 a)(hd:IsT l 1 d)(Z:IsT l 2 st)(hb:∀a∈bs,IsT l 1 a)(J:L.length=bs.length)(g:L.length<=15)(U:0<=n)(h1:n<=15):gm l ⟨31,n,s::L++[d,st]++bs⟩=3:=by
 rw[ox (fun k j=>by
  simp only[nR,j5]at j;rcases j with((rfl|j)|rfl|rfl)|j
  .exact⟨M.lo,M.hi,GE⟩
  .exact⟨(z k j).lo,(z k j).hi,by rw[(z k j).s];decide⟩
  .exact⟨hd.lo,hd.hi,by rw[hd.s];decide⟩
  .exact⟨Z.lo,Z.hi,by rw[Z.s];decide⟩
  .exact⟨(hb k j).lo,(hb k j).hi,by rw[(hb k j).s];decide⟩)]
 have I:(s::L++[d,st]++bs).map (cR l)=2::(List.replicate L.length 1++1::2::List.replicate L.length 1):=by
  simp only[tg,lL,M.s,hd.s,Z.s,GI z,GI hb,J];simp
 simp only[];rw[I];generalize hn:L.length=m at *;have C:(2::(List.replicate m (1:Int)++1::2::List.replicate m 1)).length=2*m+3:=bW;have v:bR 31 (2::(List.replicate m 1++1::2::List.replicate m 1))=true:=by
  have a:bC 31=(-1,true):=aE;unfold bR;rw[a];simp only[nO,dD];rw[af ac,ah trivial];have V:=OQ (2::(List.replicate m (1:Int)++1::2::List.replicate m 1)) ac ac;have e1:(2*m+3)/2=m+1:=ac;rw[C]at V⊢;rw[V,e1];have Y:∀k,eB (List.replicate k (1:Int))=true:=fun k=>by
   rw[eB,gM];intro x O;rw[Eu O];rfl
  have h1:((2::(List.replicate m (1:Int)++1::2::List.replicate m 1)).drop 1).take (m+1)=List.replicate (m+1) 1:=by
   rw[xn,eS,List.take_append,rJ,fI au,show m+1-m=1 by omega];rw[List.replicate_succ'];rfl
  have h2:(2::(List.replicate m (1:Int)++1::2::List.replicate m 1)).getD (m+1+1) 0=2:=by
   rw[List.getD_cons_succ,cQ,lT au,rJ,show m+1-m=1 by omega];rfl
  have h3:(2::(List.replicate m (1:Int)++1::2::List.replicate m 1)).drop (m+1+2)=List.replicate m 1:=by
   rw[xn,List.drop_append,rJ,De au,nN,show m+1+1-m=2 by omega];rfl
  rw[h1,h2,h3,Y,Y];have e4:ee (((2*m+3:Nat):Nat):Int)<=16:=Be;simp only[xw,jN];refine⟨⟨⟨ac,ac⟩,e4⟩,⟨⟨⟨trivial,trivial⟩,trivial⟩,trivial⟩⟩
 have i:cq l ⟨31,n,s::L++[d,st]++bs⟩=true:=by simp[cq,dV,U,h1]
 rw[v,i];simp[dQ]
def GJ{n:Int}{q:Nd}(Z:IsT l 3 k)(L:l[k.toNat]?=some q)(U:0<=n)(h1:n<ee q.aj.length):gm l ⟨25,n,[k]⟩=if n=0 then 2 else 1:=by
 rw[ox (fun j Y=>by
  simp only[j5]at Y;subst Y;exact⟨Z.lo,Z.hi,by rw[Z.s];decide⟩)]
 have i:cq l ⟨25,n,[k]⟩=true:=by
  have:nu l k=q.aj.length:=by rw[nu,L]
  simp[cq,dV,this,U];omega
 simp only[lL,Z.s];rw[i];by_cases c:n=0<;>simp[bR,bC,dW,cK,dQ,c]
end
def Cd(l:qy):Prop:=∀i:Nat,i<l.length->cR l i≠0
theorem T4{l:qy}{i:Nat}(C:i<=l.length):∀{z s:qu},fw i (cm l i) z=some s->fw l.length (cm l l.length) z=some s
 |[],s,h=>by cases h;rfl
 |k::z,s,h=>by
  rw[fw]at h;split at h
  .cases h
  .rename_i c;obtain⟨t,J,rfl⟩:=sZ.1 h;obtain⟨k,rfl⟩:=gO (by omega:0<=k);rw[fK]at c;have Y:=ED (l:=l) (i:=i) (j:=k) ac C;have m:=ED (l:=l) (i:=l.length) (j:=k) ac (aH _);rw[fw,fK,m,af (by rw[Y]at c;omega),T4 C J];simp only[rq,Y]
def zik{i:Nat}{n:Nd}(I:l[i]?=some n)(h:cR l i≠0):cR l i=gm l n:=by
 have C:i<l.length:=by
  by_cases c:i<l.length
  .exact c
  .rw[gV ac]at I;cases I
 rw[xD C]at h⊢;unfold iE at h⊢;unfold gm;rw[I]at h⊢;simp only at h⊢;cases j:fw i (cm l i) n.aj with
 |none=>rw[j]at h;exact absurd rfl h
 |some s=>rw[T4 ac j]
def K0{n:Nd}(L:Cd l)(h:gm l n=t)(J:t≠0):IsT (kI l n) t (jl l n)/\Cd (kI l n):=by
 unfold kI;split
 .rename_i c;have hg:=Q0 c;refine⟨⟨ac,ac,?_⟩,L⟩;rw[zik hg (L _ c)];exact h
 .rename_i c;have:=Kn l n;have e:jl l n=l.length:=ac;rw[e];refine⟨⟨ac,by rw[fB];simp;omega,?_⟩,fun i C=>?_⟩
  .rw[TO];exact h
  .rw[fB,List.length_singleton]at C;by_cases q:i<l.length
   .rw[OO q];exact L i q
   .obtain rfl:i=l.length:=by omega
    rw[TO,h];exact J
def eJ(n:Int):Prop:=-9223372036854775808<=n/\n<9223372036854775808
mutual
def jF:Ex->Prop
 | .mk _ n _ _ z=>eJ n/\jc z
def jc:qH->Prop
 |[]=>True
 |e::es=>jF e/\jc es
end
theorem K1(x:Ex):jF x↔eJ x.n/\jc x.aj:=by cases x;rw[jF];rfl
mutual
def pe:St->Prop
 | .mk _ _ _ _ a v O j m=>jF a/\jF v/\jc O/\j6 j/\j6 m
def j6:qE->Prop
 |[]=>True
 |x::l=>pe x/\j6 l
end
theorem GK(x:St):pe x↔jF x.a6/\jF x.value/\jc x.args/\j6 x.a9/\j6 x.bl:=by cases x;rw[pe];rfl
structure NdP (c:Cx) (np:Nat) (x:Nd):Prop where
 op:0<=x.op/\x.op<256
 aF:eJ x.aF
 len:x.aj.length<=40
 pa:x.op=2->x.aF<np
 ar:x.op=23\/x.op=28->x.aF<c.aa.length
 fn:x.op=30->0<=x.aF/\∃f,c.funcs[x.aF.toNat]?=some f/\x.aj.length=1+f.params.length
structure zd4 (c:Cx):Prop where
 a:∀x∈c.aa,1<=x.len/\x.len<=16
 al:c.aa.length<=4
 fl:c.funcs.length<=8
 fp:∀f∈c.funcs,f.params.length<=6
 nl:c.aK.length<=14
structure LI (c:Cx) (np:Nat) (s:Bd):Prop where
 nd:s.l.Nodup
 wf:Cd s.l
 p:∀x∈s.l,NdP c np x
 v:∀x∈s.vars,IsT s.l 1 x
 vl:s.vars.length=c.aK.length
 st:IsT s.l 2 s.ab
variable{p:Pr}
def T5{n:Nd}(h:l.Nodup):(kI l n).Nodup:=by
 unfold kI;split
 .exact h
 .rename_i c;exact List.nodup_append.2 ⟨h,au,fun a z b hb=>by
   simp only[j5]at hb;subst hb;rintro rfl;exact c (QZ.2 z)⟩
def T6(l:qy)(n:Nd):(kI l n).length<=l.length+1:=by
 rw[Q1];split<;>omega
section
variable {c:Cx} {np:Nat} {s:Bd}
def LI.setS(h:LI c np s){x:Int}(z:IsT s.l 2 x):LI c np {s with ab:=x}:=⟨h.nd,h.wf,h.p,h.v,h.vl,z⟩
def LI.setV(h:LI c np s){x:qu}(z:∀y∈x,IsT s.l 1 y)(J:x.length=c.aK.length):LI c np {s with vars:=x}:=⟨h.nd,h.wf,h.p,z,J,h.st⟩
def LI.cH(h:LI c np s)(x:Nat):LI c np {s with loops:=x}:=⟨h.nd,h.wf,h.p,h.v,h.vl,h.st⟩
def lx(h:LI c np s){n:Nd}(M:gm s.l n=t)(J:t≠0)(i:NdP c np n):LI c np (ai n s).2/\IsT (ai n s).2.l t (ai n s).1/\(ai n s).2.l.length<=s.l.length+1:=by
 obtain⟨a,b⟩:=K0 h.wf M J;refine⟨⟨T5 h.nd,b,fun x z=>?_,fun x z=>(h.v x z).le (xX _ _),h.vl,h.st.le (xX _ _)⟩,a,T6 _ _⟩;rcases uJ.1 z with z|rfl
 .exact h.p x z
 .exact i
def jp(c:Cx)(np:Nat){op imm:Int}{kids:qu}(O:0<=op/\op<256)(C:eJ imm)(Z:kids.length<=40)(h2:op≠2)(z:op≠23)(J:op≠28)(j:op≠30):NdP c np ⟨op,imm,kids⟩:=
 ⟨O,C,Z,fun e=>absurd e h2,fun e=>e.elim (fun e=>absurd e z) fun e=>absurd e J,fun e=>absurd e j⟩
def zL(h:LI c np s){a:Int}(j:IsT s.l 1 k)(z:IsT s.l t a)(hb:IsT s.l t b)(J:t=1\/t=2):LI c np (b9 k a b s).2/\IsT (b9 k a b s).2.l t (b9 k a b s).1/\(b9 k a b s).2.l.length<=s.l.length+1:=by
 unfold b9;split
 .exact⟨h,z,dA _⟩
 .exact lx h (TW j z hb J) ac (jp _ _ aE gl au aE aE aE aE)
def K2(h:LI c np s){v:Int}(V:IsT s.l 1 v)(U:1<=t)(h1:t<=1000016):LI c np (mh t v s)/\(mh t v s).l.length<=s.l.length+1:=by
 have:=lx h (n:=⟨27,t,[s.ab,v]⟩) (TY h.st V U h1) aE (jp _ _ aE gl au aE aE aE aE);exact⟨this.1.setS this.2.1,this.2.2⟩
def Ce(h:LI c np s){n:Int}(I:eJ n):LI c np (ai ⟨1,n,[]⟩ s).2/\IsT (ai ⟨1,n,[]⟩ s).2.l 1 (ai ⟨1,n,[]⟩ s).1/\(ai ⟨1,n,[]⟩ s).2.l.length<=s.l.length+1:=
 lx h (TQ n) aE (jp _ _ aE I au aE aE aE aE)
def GL(h:LI c np s){op a:Int}(z:IsT s.l 1 a)(hb:IsT s.l 1 b)(U:4<=op)(h1:op<=19):LI c np (ai ⟨op,0,[a,b]⟩ s).2/\IsT (ai ⟨op,0,[a,b]⟩ s).2.l 1 (ai ⟨op,0,[a,b]⟩ s).1/\(ai ⟨op,0,[a,b]⟩ s).2.l.length<=s.l.length+1:=
 lx h (TU z hb U h1) aE (jp _ _ ac gl au ac ac ac ac)
def T7(h:LI c np s){n i:Int}(I:eJ n)(C:IsT s.l 1 i):LI c np (gI n i s)/\(gI n i s).l.length<=s.l.length+3:=by
 obtain⟨U,Y,j⟩:=Ce h I;have M:=C.le (dS ⟨1,n,[]⟩ s).le.l;obtain⟨z,Z,O⟩:=GL U (op:=19) M Y aE aE;obtain⟨c1,V⟩:=K2 z (t:=2) Z aE aE;exact⟨c1,by have:(gI n i s).l.length<=_:=V;omega⟩
def zil(h:LI c np s){i:Int}(C:IsT s.l 1 i):LI c np (nE i s)/\(nE i s).l.length<=s.l.length+3:=by
 obtain⟨U,Y,j⟩:=Ce h (n:=0) gl;have M:=C.le (dS ⟨1,0,[]⟩ s).le.l;obtain⟨z,Z,V⟩:=GL U (op:=16) M Y aE aE;obtain⟨c1,I⟩:=K2 z (t:=1) Z aE aE;exact⟨c1,by have:(nE i s).l.length<=_:=I;omega⟩
def T8(g:zd4 c)(h:LI c np s){i:Int}(C:IsT s.l 1 i){k:Nat}(j:k<c.aa.length):LI c np (ai ⟨23,k,[s.ab,i]⟩ s).2/\IsT (ai ⟨23,k,[s.ab,i]⟩ s).2.l 1 (ai ⟨23,k,[s.ab,i]⟩ s).1/\(ai ⟨23,k,[s.ab,i]⟩ s).2.l.length<=s.l.length+1:=by
 have al:=g.al;exact lx h (TX h.st C ac ac) aE ⟨by show 0<=(23:Int)/\(23:Int)<256;decide,Cb,by show 2<=40;decide,fun e=>absurd e (by show ¬(23:Int)=2;decide),fun _=>by show(k:Int)<_;omega,fun e=>absurd e (by show ¬(23:Int)=30;decide)⟩
def T9(g:zd4 c)(h:LI c np s){i v:Int}(C:IsT s.l 1 i)(V:IsT s.l 1 v){k:Nat}(j:k<c.aa.length):LI c np (ai ⟨28,k,[s.ab,i,v]⟩ s).2/\IsT (ai ⟨28,k,[s.ab,i,v]⟩ s).2.l 2 (ai ⟨28,k,[s.ab,i,v]⟩ s).1/\(ai ⟨28,k,[s.ab,i,v]⟩ s).2.l.length<=s.l.length+1:=by
 have al:=g.al;exact lx h (T0 h.st C V ac ac) aE ⟨by show 0<=(28:Int)/\(28:Int)<256;decide,Cb,by show 3<=40;decide,fun e=>absurd e (by show ¬(28:Int)=2;decide),fun _=>by show(k:Int)<_;omega,fun e=>absurd e (by show ¬(28:Int)=30;decide)⟩
def zim(h:LI c np s){v:Int}(V:IsT s.l 1 v):LI c np (ai ⟨29,0,[s.ab,v]⟩ s).2/\IsT (ai ⟨29,0,[s.ab,v]⟩ s).2.l 2 (ai ⟨29,0,[s.ab,v]⟩ s).1/\(ai ⟨29,0,[s.ab,v]⟩ s).2.l.length<=s.l.length+1:=
 lx h (TZ h.st V) aE (jp _ _ aE gl au aE aE aE aE)
def zin(h:LI c np s){v:Int}(V:IsT s.l 2 v):LI c np (ai ⟨24,0,[v]⟩ s).2/\IsT (ai ⟨24,0,[v]⟩ s).2.l 1 (ai ⟨24,0,[v]⟩ s).1/\(ai ⟨24,0,[v]⟩ s).2.l.length<=s.l.length+1:=
 lx h (T1 V) aE (jp _ _ aE gl au aE aE aE aE)
def Ua(g:zd4 c)(h:LI c np s)(z:∀a∈L,IsT s.l 1 a){k:Nat}{f:Fu}(C:c.funcs[k]?=some f)(J:L.length=f.params.length):LI c np (ai ⟨30,k,s.ab::L⟩ s).2/\IsT (ai ⟨30,k,s.ab::L⟩ s).2.l 2 (ai ⟨30,k,s.ab::L⟩ s).1/\(ai ⟨30,k,s.ab::L⟩ s).2.l.length<=s.l.length+1:=by
 have Z:=g.fl;have M:=g.fp f (jM C);have j:k<c.funcs.length:=by
  by_cases q:k<c.funcs.length
  .exact q
  .rw[gV ac]at C;cases C
 exact lx h (T2 h.st z ac ac ac) aE ⟨by show 0<=(30:Int)/\(30:Int)<256;decide,Cb,by show L.length+1<=40;omega,fun e=>absurd e (by show ¬(30:Int)=2;decide),fun e=>by rcases e with e|e<;>exact absurd e (by show ¬(30:Int)=_;decide),fun _=>⟨by show 0<=(k:Int);omega,f,by show c.funcs[(k:Int).toNat]?=_;rw[fK];exact C,by show L.length+1=_;omega⟩⟩
end
def zio{l:qH}{i:Nat}{k:Ex}(L:jc l)(h:l[i]?=some k):jF k:=by
 induction l generalizing i with
 |nil=>simp at h
 |cons e V ih=>
  rw[jc]at L;cases i with
  |zero=>simp at h;subst h;exact L.1
  |succ i=>exact ih L.2 jf
def zip{vs U:List b8}{l:qH}{i:Nat}{k:Ex}(L:fo vs U l=true)(h:l[i]?=some k):en vs U k=true:=by
 induction l generalizing i with
 |nil=>simp at h
 |cons e V ih=>
  rw[fo,cj]at L;cases i with
  |zero=>simp at h;subst h;exact L.1
  |succ i=>exact ih L.2 jf
def Cf{l:qH}{i:Nat}{k:Ex}(h:l[i]?=some k):1+k.sz<=fu l:=by
 have:=py (jM h);omega
def K3{l:qH}{a b:Ex}(U:l[0]?=some a)(h1:l[1]?=some b):2+a.sz+b.sz<=fu l:=by
 cases l with
 |nil=>simp at U
 |cons x l=>
  simp at U h1;subst U;have:=Cf h1;rw[fu];omega
def Ub{l:qH}{a b d:Ex}(U:l[0]?=some a)(h1:l[1]?=some b)(h2:l[2]?=some d):3+a.sz+b.sz+d.sz<=fu l:=by
 cases l with
 |nil=>simp at U
 |cons x l=>
  simp at U h1 h2;subst U;have:=K3 (l:=l) h1 h2;rw[fu];omega
theorem wt:∀{l:List b8}{s:b8},bu l s=true->dm l s<l.length
 |[],s,h=>by simp[bu]at h
 |a::l,s,h=>by
  rw[dm];split
  .simp
  .rename_i c;have M:bu (a::l) s=(decide (a=s)||bu l s):=rfl;rw[M,eA c,il]at h;rw[ah h,eF];exact Nat.succ_lt_succ (wt h)
structure XOk (c:Cx) (x:Ex):Prop where
 wf:fk x=true
 df:en c.aK (c.aa.map (·.name)) x=true
 rg:jF x
def XOk.cT{x k:Ex}{i:Nat}(h:XOk c x)(j:x.aj[i]?=some k):XOk c k:=by
 obtain⟨Z,g,m⟩:=h;rw[BB,cj]at Z;rw[BI,cj]at g;rw[K1]at m;exact⟨zfi Z.1 j,zip g.1 j,zio m.2 j⟩
theorem tQ{c:Cx}(hc:zd4 c){np:Nat}:∀(n:Nat) (x:Ex) (s:Bd),XOk c x->x.sz<n->LI c np s->∃r,fE c n x s=some r/\LI c np r.2/\IsT r.2.l 1 r.1/\r.2.l.length<=s.l.length+6*x.sz
 |0,x,s,hx,hd,hs=>by omega
 |n+1,x,s,hx,hd,hs=>by
  have I:=tQ hc (np:=np) n;have hwf:=hx.wf;have M:=hx.df;have hrg:=(K1 x).1 hx.rg;rw[BB,cj,mG]at hwf;rw[BI,cj,i9]at M;have L:=hwf.2;have hsz:=x.aT;unfold fE;by_cases e1:x.aw=1
  .rw[ah e1];obtain⟨a,b,d⟩:=Ce hs hrg.1;exact⟨_,rfl,a,b,ac⟩
  rw[af e1]at L⊢;by_cases e2:x.aw=2
  .rw[ah e2];have hn:bu c.aK x.name=true:=by have:=M.2;simp[e2]at this;exact this
   have j:dm c.aK x.name<s.vars.length:=by rw[hs.vl];exact wt hn
   rw[aL j,rq];exact⟨_,rfl,hs,hs.v _ (cB j),by show s.l.length<=_;omega⟩
  rw[af e2]at L⊢;by_cases e3:x.aw=3
  .rw[ah e3]at L⊢;simp only[jN]at L;have hn:bu (c.aa.map (·.name)) x.name=true:=by have:=M.2;simp[e3]at this;exact this
   have j:=wt hn;rw[cN]at j;obtain⟨k,Z⟩:=oU x.aj (i:=0) ac;have hks:=Cf Z;obtain⟨r,hr,V,Y,r3⟩:=I k s (hx.cT Z) ac hs;rw[Z,cy,hr,cy,aL j,cy];have ha:=hc.a _ (cB j);generalize c.aa[dm (c.aa.map (·.name)) x.name]=ar at ha⊢;obtain⟨a1,a2⟩:=T7 V (n:=ar.len) gl Y;obtain⟨z,C,b3⟩:=T8 hc a1 (Y.le (wd ar.len r.1 r.2).le.l) j;exact⟨_,rfl,z,C,ac⟩
  rw[af e3]at L⊢;by_cases e5:x.aw=5
  .have e4:¬x.aw=4:=by omega
   rw[af e4,ah e5]at L;rw[ah e5];simp only[jN]at L;obtain⟨k,Z⟩:=oU x.aj (i:=0) ac;obtain⟨k1,U⟩:=oU x.aj (i:=1) ac;obtain⟨k2,O⟩:=oU x.aj (i:=2) ac;have hks:=Ub Z U O;obtain⟨r,hr,J,p2,p3⟩:=I k s (hx.cT Z) ac hs;obtain⟨V,g,q1,q2,q3⟩:=I k1 r.2 (hx.cT U) ac J;have l1:=eO c n _ _ _ g;obtain⟨Y,m,t1,t2,t3⟩:=I k2 {V.2 with ab:=r.2.ab} (hx.cT O) ac (q1.setS (J.st.le l1.le.l));have l2:=eO c n _ _ _ m;rw[Z,cy,hr,cy,U,cy,g,cy,O,cy,m,cy];have pc:IsT Y.2.l 1 r.1:=(p2.le l1.le.l).le l2.le.l;obtain⟨ct,m2,m3⟩:=zL t1 pc (q2.le l2.le.l) t2 (.inl rfl);have lm:=iO r.1 V.1 Y.1 Y.2;obtain⟨cF,n2,n3⟩:=zL ct (pc.le lm.le.l) ((q1.st.le l2.le.l).le lm.le.l) ct.st (.inr rfl);have ln:=iO r.1 V.2.ab (b9 r.1 V.1 Y.1 Y.2).2.ab (b9 r.1 V.1 Y.1 Y.2).2;refine⟨_,rfl,cF.setS n2,m2.le ln.le.l,?_⟩;simp only at t3⊢;omega
  rw[af e5]at L⊢;by_cases e4:x.aw=4
  .rw[ah e4]at L;simp only[cj,rx,kA]at L;have hl:x.aj.length=2\/x.aj.length=1:=by rcases L.2 with h|h<;>omega
   obtain⟨k,Z⟩:=oU x.aj (i:=0) ac;have hks:=Cf Z;obtain⟨r,hr,J,p2,p3⟩:=I k s (hx.cT Z) ac hs;rw[Z,cy,hr,cy];by_cases e6:x.aj.length=1
   .rw[ah e6];have ho:x.op=20\/x.op=21:=by
     rcases L.2 with h|h
     .omega
     .exact h.2
    obtain⟨a,b,d⟩:=lx J (TV p2 ho) aE (jp _ _ ac gl au ac ac ac ac);exact⟨_,rfl,a,b,ac⟩
   .rw[af e6];obtain⟨k1,U⟩:=oU x.aj (i:=1) ac;have hks2:=K3 Z U;obtain⟨V,g,q1,q2,q3⟩:=I k1 r.2 (hx.cT U) ac J;have l1:=eO c n _ _ _ g;rw[U,cy,g,cy];have ho:4<=x.op/\x.op<=18:=by
     rcases L.2 with h|h
     .have:=h.2;simp[rK]at this;exact this
     .omega
    have p2':=p2.le l1.le.l;by_cases e7:x.op=7\/x.op=8
    .rw[ah e7];obtain⟨a1,a2⟩:=zil q1 q2;have ld:=FT V.1 V.2;obtain⟨z,C,b3⟩:=GL a1 (p2'.le ld.le.l) (q2.le ld.le.l) (by omega:4<=x.op) ac;exact⟨_,rfl,z,C,ac⟩
    .rw[af e7];obtain⟨z,C,b3⟩:=GL q1 p2' q2 (by omega:4<=x.op) ac;exact⟨_,rfl,z,C,ac⟩
  .rw[af e4]at L;simp at L
theorem Uc{c:Cx}(g:zd4 c){np n:Nat}:∀(l:qH) (s:Bd),(∀x∈l,XOk c x)->fu l<n->LI c np s->∃r,pN c n l s=some r/\LI c np r.2/\(∀a∈r.1,IsT r.2.l 1 a)/\r.2.l.length<=s.l.length+6*fu l
 |[],s,hx,hd,hs=>⟨_,rfl,hs,au,by show s.l.length<=_;omega⟩
 |x::l,s,hx,hd,hs=>by
  rw[fu]at hd⊢;obtain⟨r,hr,J,U,V⟩:=tQ g n x s (hx x ei) ac hs;obtain⟨Z,m,q1,q2,O⟩:=Uc (n:=n) g l r.2 (fun y Y=>hx y (ev _ Y)) ac J;have L:=(wh c n _ _ _ m).1;refine⟨(r.1::Z.1,Z.2),TK,q1,fun a z=>?_,zK⟩;rcases gE.1 z with rfl|z
  .exact U.le L.le.l
  .exact q2 a z
def uR(c:Cx):Sc:=⟨c.aK,some (c.aa.map (·.name)),⟨c.aa,c.funcs⟩⟩
structure SOk (c:Cx) (x:St):Prop where
 wf:nC x=true
 df:gR (uR c) false x=true
 ar:gR (uR c) true x=true
 rg:pe x
structure zf8 (c:Cx) (l:qE):Prop where
 wf:fQ l=true
 df:dq (uR c) false l=true
 ar:dq (uR c) true l=true
 rg:j6 l
section
variable {c:Cx}
def zf8.cons{l:qE}(h:zf8 c (x::l)):SOk c x/\zf8 c l:=by
 obtain⟨i,g,m,U⟩:=h;rw[fQ,cj]at i;rw[dq,cj]at g m;rw[j6]at U;exact⟨⟨i.1,g.1,m.1,U.1⟩,⟨i.2,g.2,m.2,U.2⟩⟩
def SOk.b7(h:SOk c x):zf8 c x.a9/\zf8 c x.bl:=by
 obtain⟨i,g,m,U⟩:=h;rw[xP]at i;rw[BK]at g m;rw[GK]at U;simp only[cj]at i g m;exact⟨⟨i.1.2,g.1.2,m.1.2,U.2.2.2.1⟩,⟨i.2,g.2,m.2,U.2.2.2.2⟩⟩
theorem Ud:∀{l:qH}{x:Ex},jc l->x∈l->jF x
 |[],x,_,h=>by simp at h
 |e::l,x,hw,h=>by
  rw[jc]at hw;rcases gE.1 h with rfl|h
  .exact hw.1
  .exact Ud hw.2 h
theorem Ue:∀{l:qH}{x:Ex},eM l=true->x∈l->fk x=true
 |[],x,_,h=>by simp at h
 |e::l,x,hw,h=>by
  rw[eM,cj]at hw;rcases gE.1 h with rfl|h
  .exact hw.1
  .exact Ue hw.2 h
theorem Uf{vs U:List b8}:∀{l:qH}{x:Ex},fo vs U l=true->x∈l->en vs U x=true
 |[],x,_,h=>by simp at h
 |e::l,x,hw,h=>by
  rw[fo,cj]at hw;rcases gE.1 h with rfl|h
  .exact hw.1
  .exact Uf hw.2 h
def SOk.def(h:SOk c x):fo c.aK (c.aa.map (·.name)) x.args=true/\en c.aK (c.aa.map (·.name)) x.a6=true/\en c.aK (c.aa.map (·.name)) x.value=true/\kG (uR c) x=true:=by
 have g:=h.df;rw[BK]at g;simp only[cj,rz,kH]at g;exact⟨g.1.1.1.1.1,g.1.1.1.1.2,g.1.1.1.2,g.1.1.2⟩
def SOk.args(h:SOk c x):∀a∈x.args,XOk c a:=fun a z=>by
 have i:=h.wf;have U:=h.rg;rw[xP,jw]at i;rw[GK]at U;simp only[cj]at i;exact⟨Ue i.1.1.1 z,Uf h.def.1 z,Ud U.2.2.1 z⟩
def SOk.value(h:SOk c x)(j:x.aw=1\/x.aw=2\/x.aw=3\/x.aw=4\/x.aw=5):XOk c x.value:=by
 have i:=h.wf;have U:=h.rg;rw[xP,jw,nA]at i;rw[GK]at U;simp only[cj]at i;refine⟨?_,h.def.2.2.1,U.2.1⟩;have m:=i.1.1.2;rcases j with e|e|e|e|e<;>rw[e]at m<;>simp at m<;>simp[m]
def SOk.a6(h:SOk c x)(j:x.aw=2):XOk c x.a6:=by
 have i:=h.wf;have U:=h.rg;rw[xP,jw,nA]at i;rw[GK]at U;simp only[cj]at i;refine⟨?_,h.def.2.1,U.1⟩;have m:=i.1.1.2;rw[j]at m;simp at m;simp[m]
def SOk.dS(h:SOk c x)(j:x.aw=7):0<=x.n/\x.n<=1000000:=by
 have i:=h.wf;rw[xP,jw,nA]at i;simp only[cj]at i;have m:=i.1.1.2;rw[j]at m;simp at m;exact⟨by simp[m],by simp[m]⟩
def SOk.kd(h:SOk c x):1<=x.aw/\x.aw<=7:=by
 have i:=h.wf;rw[xP,jw,nA]at i;simp only[cj]at i;have m:=i.1.1.2;by_cases e:1<=x.aw/\x.aw<=7
 .exact e
 .rw[af ac,af ac,af ac,af ac,af ac,af ac,af ac]at m;cases m
def SOk.name(h:SOk c x)(j:x.aw=1\/x.aw=6):dm c.aK x.name<c.aK.length:=by
 have:=h.def.2.2.2;rw[kG]at this;rcases j with e|e<;>simp[e,uR]at this
 .exact wt this
 .exact wt this.1
def SOk.arr(h:SOk c x)(j:x.aw=2):dm (c.aa.map (·.name)) x.name<c.aa.length:=by
 have:=h.def.2.2.2;rw[kG]at this;simp[j,uR,Sc.an]at this;have:=wt this
 rwa [cN]at this
def SOk.call(h:SOk c x)(j:x.aw=6):0<=dr c.funcs x.to 0/\x.args.length=pJ ⟨c.aa,c.funcs⟩ x.to:=by
 have i:=h.def.2.2.2;have m:=h.ar;rw[kG]at i;simp[j,uR]at i;rw[BK]at m;simp only[cj,ji,lM,j]at m;simp[uR]at m;have M:=sE m.1.1;exact⟨sE i.2,ac⟩
end
theorem Cg{c:Cx}:∀(n:Nat) (l:qE) (b:qL),zf8 c l->2*bH l<n->b.length=c.aK.length->∃U,ol c.aK n l b=some U/\U.length=c.aK.length
 |0,l,b,_,h,_=>by omega
 |n+1,[],b,_,_,hb=>⟨b,rfl,hb⟩
 |n+1,x::l,b,J,h,hb=>by
  obtain⟨z,J⟩:=J.cons;rw[bH]at h;have i:=x.aT;unfold ol;simp only;rw[af (fun q=>by have:=z.name q.1;omega)];have Z:(if x.aw=1\/x.aw=6 then b.set (dm c.aK x.name) true else b).length=c.aK.length:=by split<;>simp[hb]
  obtain⟨C,m,L⟩:=Cg n x.a9 _ z.b7.1 ac Z;obtain⟨Y,M,V⟩:=Cg n x.bl C z.b7.2 ac L;obtain⟨O,I,j⟩:=Cg n l Y J ac V;exact⟨O,by rw[m,cy,M,cy,I],j⟩
theorem Ug{c:Cx}{np:Nat}{k:Int}{a:qu}:∀(m i:Nat) (s:Bd),LI c np s->IsT s.l 1 k->(∀y∈a,IsT s.l 1 y)->a.length=c.aK.length->i+m=c.aK.length->∃r,oV k a m i s=some r/\LI c np r/\r.l.length<=s.l.length+m
 |0,i,s,h,_,_,_,_=>⟨s,rfl,h,aH _⟩
 |m+1,i,s,h,hk,ha,hl,hi=>by
  have O:=h.vl;have Z:i<a.length:=ac;have g:i<s.vars.length:=ac;unfold oV;rw[aL Z,cy,aL g,cy];obtain⟨ct,I,M⟩:=zL h hk (ha _ (cB Z)) (h.v _ (cB g)) (.inl rfl);have lv:=iO k a[i] s.vars[i] s;obtain⟨r,e,V,U⟩:=Ug m (i+1) { (b9 k a[i] s.vars[i] s).2 with vars:=(b9 k a[i] s.vars[i] s).2.vars.set i (b9 k a[i] s.vars[i] s).1} (ct.setV (fun y Y=>by
   rcases r0 Y with Y|rfl
   .exact ct.v y Y
   .exact I) KT) (hk.le lv.le.l) (fun y Y=>(ha y Y).le lv.le.l) hl ac
  exact⟨r,e,V,by simp only at U;omega⟩
theorem Uh{c:Cx}{np:Nat}{k:Nat}(Z:k<=15):∀(C:qD) (j:Nat) (s:Bd),LI c np s->j+C.length<=15->LI c np (j0 (16*(k:Int)+1) C j s)/\(j0 (16*(k:Int)+1) C j s).l.length<=s.l.length+C.length
 |[],j,s,h,_=>⟨h,aH _⟩
 |w::C,j,s,h,hj=>by
  rw[eF]at hj;have O:(16*(k:Int)+1+j).tmod 16=1+j:=by
   rw[GG ac];omega
  obtain⟨ct,I,U⟩:=lx h (n:=⟨3,16*(k:Int)+1+j,[]⟩) (GH ac ac) (by split<;>decide) (jp _ _ aE gl au aE aE aE aE);rw[O,af ac]at I;unfold j0;obtain⟨V,g⟩:=Uh Z C (j+1) { (ai ⟨3,16*(k:Int)+1+j,[]⟩ s).2 with vars:=(ai ⟨3,16*(k:Int)+1+j,[]⟩ s).2.vars.set w (ai ⟨3,16*(k:Int)+1+j,[]⟩ s).1} (ct.setV (fun y Y=>by
   rcases r0 Y with Y|rfl
   .exact ct.v y Y
   .exact I) KT) ac
  exact⟨V,by rw[eF];simp only at g⊢;omega⟩
theorem Ui{c:Cx}{np:Nat}{lp k:Int}{old:qu}{q:Nd}:∀(C:qD) (j:Nat) (s:Bd),LI c np s->IsT s.l 3 lp->s.l[lp.toNat]?=some q->IsT s.l 1 k->(∀y∈old,IsT s.l 1 y)->(∀w∈C,w<old.length)->1<=j->((j+C.length:Nat):Int)<=ee q.aj.length->j+C.length<=16 ->
 LI c np (jm lp k old C j s)/\(jm lp k old C j s).l.length<=s.l.length+2*C.length
 |[],j,s,h,_,_,_,_,_,_,_,_=>⟨h,aH _⟩
 |w::C,j,s,h,hlp,hq,hk,ho,hw,hj,hlv,h16=>by
  rw[eF]at hlv h16;obtain⟨ct,I,m⟩:=lx h (n:=⟨25,j,[lp]⟩) (GJ hlp hq ac ac) (by split<;>decide) (jp _ _ aE gl au aE aE aE aE);rw[af ac]at I;have J:=dS ⟨25,j,[lp]⟩ s;have Z:=hw w ei;have i:old.getD w 0∈old:=Gp;obtain⟨cF,g,n3⟩:=zL ct (hk.le J.le.l) I ((ho _ i).le J.le.l) (.inl rfl);have U:=J.trans (iO k (ai ⟨25,j,[lp]⟩ s).1 (old.getD w 0) (ai ⟨25,j,[lp]⟩ s).2);unfold jm;simp only[];generalize b9 k (ai ⟨25,j,[lp]⟩ s).1 (old.getD w 0) (ai ⟨25,j,[lp]⟩ s).2=z at *;have V:z.2.l[lp.toNat]?=some q:=by
   obtain⟨t,O⟩:=U.le.l;rw[<-O,je,hq];have:=hlp.hi;have:=hlp.lo;omega
  obtain⟨M,L⟩:=Ui (q:=q) (lp:=lp) (k:=k) (old:=old) C (j+1) {z.2 with vars:=z.2.vars.set w z.1} (cF.setV (fun y Y=>by
   rcases r0 Y with Y|rfl
   .exact cF.v y Y
   .exact g) (by rw[jv];exact cF.vl)) (hlp.le U.le.l) V (hk.le U.le.l) (fun y Y=>(ho y Y).le U.le.l) (fun y Y=>hw y (ev _ Y)) ac ac ac
  exact⟨M,by rw[eF];simp only at L⊢;omega⟩
def K4(b:qL):(iG b).length<=b.length:=by
 have:=List.length_filter_le (fun i=>b.getD i false) (List.range b.length)
 rwa [List.length_range]at this
def K5(c:Cx)(np n:Nat):Prop:=∀x s,SOk c x->2*x.sz<n->LI c np s->s.loops+dC x<=16->∃r,oW c n x s=some r/\LI c np r/\r.loops<=s.loops+dC x/\r.l.length<=s.l.length+64*x.sz
def Ch(c:Cx)(np n:Nat):Prop:=∀l s,zf8 c l->2*bH l<n->LI c np s->s.loops+dk l<=16->∃r,iH c n l s=some r/\LI c np r/\r.loops<=s.loops+dk l/\r.l.length<=s.l.length+64*bH l
def K6(c:Cx)(np n:Nat):Prop:=∀x s,SOk c x->x.aw=4->2*x.sz<=n->LI c np s->s.loops+dC x<=16->∃r,pO c n x s=some r/\LI c np r/\r.loops<=s.loops+dC x/\r.l.length<=s.l.length+64*x.sz
def ziq(hc:zd4 c){np n:Nat}(IS:Ch c np n):K6 c np (n+1):=fun x s hx hk hsz h hw=>by
 have hs:=x.aT;have hw1:=Bl x;rw[ah hk]at hw1;have hv:=hx.value (.inr (.inr (.inr (.inl hk))));unfold pO;obtain⟨r,hr,J,p2,p3⟩:=tQ hc n x.value {s with loops:=s.loops+1} hv ac (h.cH _);have lr:=eO c n _ _ _ hr;have hrn:r.2.loops=s.loops+1:=lr.n;obtain⟨b,hb,hbl⟩:=Cg n x.a9 (List.replicate r.2.vars.length false) hx.b7.1 ac (by rw[rJ];exact J.vl);rw[hr,cy,hb,cy];simp only[];have hwl:=K4 b;have hnl:=hc.nl;have Y:∀i∈iG b,i<r.2.vars.length:=fun i U=>by have:=Kv U;have:=J.vl;omega
 generalize iG b=C at *;have hm:(16*(s.loops:Int)).tmod 16=0:=EM;obtain⟨q1,q2,q3⟩:=lx J (n:=⟨3,16*(s.loops:Int),[]⟩) (GH ac ac) (by split<;>decide) (jp _ _ aE gl au aE aE aE aE);rw[hm,ah rfl]at q2;have lq:=dS ⟨3,16*(s.loops:Int),[]⟩ r.2;generalize ai ⟨3,16*(s.loops:Int),[]⟩ r.2=q at *;obtain⟨u1,u2⟩:=Uh (k:=s.loops) ac C 0 {q.2 with ab:=q.1} (q1.setS q2) ac;have lu:=uL (16*(s.loops:Int)+1) C 0 {q.2 with ab:=q.1};generalize j0 (16*(s.loops:Int)+1) C 0 {q.2 with ab:=q.1}=u at *;have hun:u.loops=s.loops+1:=TL;obtain⟨t,ht,t1,t2,t3⟩:=IS x.a9 u hx.b7.1 ac u1 ac;have lt:=(mH c n).2.1 _ _ _ ht;rw[ht,cy];obtain⟨d,hd,g,d2,d3⟩:=tQ hc n x.value t hv ac t1;have ld:=eO c n _ _ _ hd;rw[hd,cy];have Z:ey r.2 d.2:=(lq.le.setS q.1).trans (lu.1.trans (lt.1.trans ld.le));have V:∀y∈r.2.vars,IsT d.2.l 1 y:=fun y O=>(J.v y O).le Z.l;have ho:∀a∈C.map fun i=>r.2.vars.getD i 0,IsT d.2.l 1 a:=fun a ha=>by
  obtain⟨i,U,rfl⟩:=mT.1 ha;rw[cQ,aL (Y i U)];exact V _ (cB _)
 have hn:∀a∈C.map fun i=>d.2.vars.getD i 0,IsT d.2.l 1 a:=fun a ha=>by
  obtain⟨i,U,rfl⟩:=mT.1 ha;have:=Y i U;have e1:=g.vl;have e2:=J.vl;rw[cQ,aL (show i<d.2.vars.length by omega)];exact g.v _ (cB _)
 have I:(r.2.ab::(C.map fun i=>r.2.vars.getD i 0)++[d.1,d.2.ab]++C.map fun i=>d.2.vars.getD i 0).length=2*C.length+3:=bW;obtain⟨k1,k2,k3⟩:=lx g (n:=⟨31,s.loops,r.2.ab::(C.map fun i=>r.2.vars.getD i 0)++[d.1,d.2.ab]++C.map fun i=>d.2.vars.getD i 0⟩) (T3 (J.st.le Z.l) ho d2 g.st hn au bW ac ac) aE (jp _ _ aE gl (by rw[I];omega) aE aE aE aE);have lk:=dS ⟨31,s.loops,r.2.ab::(C.map fun i=>r.2.vars.getD i 0)++[d.1,d.2.ab]++C.map fun i=>d.2.vars.getD i 0⟩ d.2;have hq:(ai ⟨31,s.loops,r.2.ab::(C.map fun i=>r.2.vars.getD i 0)++[d.1,d.2.ab]++C.map fun i=>d.2.vars.getD i 0⟩ d.2).2.l[(ai ⟨31,s.loops,r.2.ab::(C.map fun i=>r.2.vars.getD i 0)++[d.1,d.2.ab]++C.map fun i=>d.2.vars.getD i 0⟩ d.2).1.toNat]?=some ⟨31,s.loops,r.2.ab::(C.map fun i=>r.2.vars.getD i 0)++[d.1,d.2.ab]++C.map fun i=>d.2.vars.getD i 0⟩:=Ko _ _;generalize ai ⟨31,s.loops,r.2.ab::(C.map fun i=>r.2.vars.getD i 0)++[d.1,d.2.ab]++C.map fun i=>d.2.vars.getD i 0⟩ d.2=k at *;have M:ee (2*C.length+3:Nat)=((C.length+1:Nat):Int):=Be;have k1':=k1.setV (x:=r.2.vars) (fun y O=>(V y O).le lk.le.l) J.vl;obtain⟨f1,f2,f3⟩:=lx k1' (n:=⟨25,0,[k.1]⟩) (GJ (n:=0) k2 hq ac (by rw[I,M];omega)) aE (jp _ _ aE gl au aE aE aE aE);rw[ah rfl]at f2;have lf:=dS ⟨25,0,[k.1]⟩ {k.2 with vars:=r.2.vars};have j:r.2.l<+:(ai ⟨25,0,[k.1]⟩ {k.2 with vars:=r.2.vars}).2.l:=(Z.l.trans lk.le.l).trans lf.le.l;have hfv:(ai ⟨25,0,[k.1]⟩ {k.2 with vars:=r.2.vars}).2.vars=r.2.vars:=lf.v;obtain⟨ct,m2,m3⟩:=zL f1 (p2.le j) f2 (J.st.le j) (.inr rfl);have lm:=iO r.1 (ai ⟨25,0,[k.1]⟩ {k.2 with vars:=r.2.vars}).1 r.2.ab (ai ⟨25,0,[k.1]⟩ {k.2 with vars:=r.2.vars}).2;generalize ai ⟨25,0,[k.1]⟩ {k.2 with vars:=r.2.vars}=f at *;generalize b9 r.1 f.1 r.2.ab f.2=m at *;have L:k.2.l<+:m.2.l:=lf.le.l.trans lm.le.l;have hqm:m.2.l[k.1.toNat]?=some ⟨31,s.loops,r.2.ab::(C.map fun i=>r.2.vars.getD i 0)++[d.1,d.2.ab]++C.map fun i=>d.2.vars.getD i 0⟩:=by
  obtain⟨z,hz⟩:=L;rw[<-hz,je,hq];have:=k2.hi;have:=k2.lo;omega
 obtain⟨z1,z2⟩:=Ui (lp:=k.1) (k:=r.1) (old:=r.2.vars) C 1 {m.2 with ab:=m.1} (ct.setS m2) (k2.le L) hqm (p2.le (j.trans lm.le.l)) (fun y O=>(J.v y O).le (j.trans lm.le.l)) Y (aH _) (by rw[I,M];omega) ac;have lz:=wi k.1 r.1 r.2.vars C 1 {m.2 with ab:=m.1};refine⟨_,rfl,z1,?_,?_⟩
 .rw[lz.2.2.2];show m.2.loops<=_;rw[lm.n,lf.n];show k.2.loops<=_;rw[lk.n,ld.n];omega
 .simp only at z2 p3 u2 f3⊢;omega
def zir(g:zd4 c){np n:Nat}(IS:Ch c np n)(IW:K6 c np n):K5 c np (n+1):=fun x s Z hsz h hw=>by
 have hs:=x.aT;have hw1:=Bl x;have hkd:=Z.kd;unfold oW;by_cases k1:x.aw=1
 .rw[ah k1];obtain⟨r,hr,J,U,p3⟩:=tQ g n x.value s (Z.value (.inl k1)) ac h;have I:=eO c n _ _ _ hr;have hn:=Z.name (.inl k1);have hvl:=J.vl;rw[hr,cy,ah ac];exact⟨_,rfl,J.setV (fun y Y=>by
   rcases r0 Y with Y|rfl
   .exact J.v y Y
   .exact U) (by rw[jv];exact hvl),KU,zK⟩
 rw[af k1];by_cases k2:x.aw=2
 .rw[ah k2];obtain⟨r,hr,J,U,p3⟩:=tQ g n x.a6 s (Z.a6 k2) ac h
  obtain⟨v,hv,q1,q2,q3⟩:=tQ g n x.value r.2 (Z.value (.inr (.inl k2))) ac J;have I:=eO c n _ _ _ hr;have lv:=eO c n _ _ _ hv;have j:=Z.arr k2;rw[hr,cy,hv,cy,aL j,cy];have ha:=g.a _ (cB j);generalize c.aa[dm (c.aa.map (·.name)) x.name]=ar at ha⊢;have p2':=U.le lv.le.l;obtain⟨O,a2⟩:=T7 q1 (n:=ar.len) gl p2';have lc:=wd ar.len r.1 v.2;obtain⟨V,C,b3⟩:=T9 g O (p2'.le lc.le.l) (q2.le lc.le.l) j;exact⟨_,rfl,V.setS C,by show(gI ar.len r.1 v.2).loops<=_;rw[lc.n,lv.n,I.n];omega,zK⟩
 rw[af k2];by_cases k3:x.aw=3
 .rw[ah k3];rw[af ac]at hw1;obtain⟨r,hr,J,U,p3⟩:=tQ g n x.value s (Z.value (.inr (.inr (.inl k3)))) ac h;have I:=eO c n _ _ _ hr;have hrn:=I.n;obtain⟨a,ha,O,a2,a3⟩:=IS x.a9 r.2 Z.b7.1 ac J ac;have la:=(mH c n).2.1 _ _ _ ha;have hal:a.vars.length=c.aK.length:=O.vl;obtain⟨b,hb,V,C,b3⟩:=IS x.bl {a with ab:=r.2.ab,vars:=r.2.vars} Z.b7.2 ac ((O.setS (J.st.le la.1.l)).setV (fun y Y=>(J.v y Y).le la.1.l) J.vl) (by show a.loops+_<=_;omega);have lb:=(mH c n).2.1 _ _ _ hb;have L:a.l<+:b.l:=lb.1.l;have kb:IsT b.l 1 r.1:=(U.le la.1.l).le L;have hbl:=V.vl;obtain⟨m,hm,ct,m2⟩:=Ug (k:=r.1) (a:=a.vars) b.vars.length 0 b V kb (fun y Y=>(O.v y Y).le L) hal ac;have lm:=xY _ _ _ _ _ _ hm;rw[hr,cy,ha,cy,hb,cy,hm,cy];obtain⟨t1,t2,t3⟩:=zL ct (kb.le lm.1.l) ((O.st.le L).le lm.1.l) ct.st (.inr rfl);have lt:=iO r.1 a.ab m.ab m;have hnl:=g.nl;refine⟨_,rfl,t1.setS t2,?_,?_⟩
  .show(b9 r.1 a.ab m.ab m).2.loops<=_;rw[lt.n,lm.2.2.2];simp only at C;omega
  .simp only at b3⊢;omega
 rw[af k3];by_cases k4:x.aw=4
 .rw[ah k4];exact IW x s Z k4 ac h hw
 rw[af k4];by_cases k5:x.aw=5
 .rw[ah k5];obtain⟨r,hr,J,U,p3⟩:=tQ g n x.value s (Z.value (.inr (.inr (.inr (.inr k5))))) ac h;have I:=eO c n _ _ _ hr;rw[hr,cy];obtain⟨V,C,b3⟩:=zim J U;exact⟨_,rfl,V.setS C,KU,zK⟩
 rw[af k5];by_cases k6:x.aw=6
 .rw[ah k6];obtain⟨r,hr,J,U,p3⟩:=Uc g (n:=n) x.args s Z.args ac h;obtain⟨I,hlr⟩:=wh c n _ _ _ hr;obtain⟨c1,c2⟩:=Z.call k6;obtain⟨i,hi,hfe⟩:=Ft c.funcs x.to 0 c1;obtain⟨f,hfn⟩:=oU c.funcs hi;have M:dr c.funcs x.to 0=(i:Int):=by simpa using hfe
  have hn:=Z.name (.inr k6);have hvl:=J.vl;have hpar:r.1.length=f.params.length:=by
   rw[hlr,c2,pJ,M,fK,hfn];rfl
  rw[hr,cy,ah ⟨c1,ac⟩];simp only[];rw[M];obtain⟨V,C,b3⟩:=Ua g J U hfn hpar;have lb:=dS ⟨30,i,r.2.ab::r.1⟩ r.2;generalize ai ⟨30,i,r.2.ab::r.1⟩ r.2=z at *;obtain⟨d1,d2,d3⟩:=zin (V.setS C) C;have ld:=dS ⟨24,0,[z.1]⟩ {z.2 with ab:=z.1};generalize ai ⟨24,0,[z.1]⟩ {z.2 with ab:=z.1}=w at *;refine⟨_,rfl,d1.setV (fun y Y=>?_) (by rw[jv];exact d1.vl),?_,?_⟩
  .rcases r0 Y with Y|rfl
   .exact d1.v y Y
   .exact d2
  .show w.2.loops<=_;rw[ld.n];show z.2.loops<=_;rw[lb.n,I.n];omega
  .simp only at d3⊢;omega
 rw[af k6];by_cases k7:x.aw=7
 .rw[ah k7];have ht:=Z.dS k7;have hw:bS (16+x.n)=16+x.n:=eX ac ac;rw[hw];obtain⟨O,a2,a3⟩:=Ce h (n:=0) gl;obtain⟨V,C⟩:=K2 O (t:=16+x.n) a2 ac ac;have lb:=wc (16+x.n) (ai ⟨1,0,[]⟩ s).1 (ai ⟨1,0,[]⟩ s).2;exact⟨_,rfl,V,by rw[lb.n];show s.loops<=_;omega,ac⟩
 .omega
def zis{np n:Nat}(i:K5 c np n)(U:Ch c np n):Ch c np (n+1):=fun l s J Z h L=>by
 cases l with
 |nil=>exact⟨s,by unfold iH;rfl,h,ac,ac⟩
 |cons x l=>
  obtain⟨z,J⟩:=J.cons;rw[bH]at Z⊢;rw[dk]at L⊢;unfold iH;simp only[];obtain⟨r,hr,Y,O,M⟩:=i x s z ac h ac;obtain⟨t,V,q1,q2,I⟩:=U l r J ac Y ac;rw[hr,cy,V];exact⟨t,rfl,q1,ac,ac⟩
theorem Uj{c:Cx}(g:zd4 c){np:Nat}:∀n:Nat,K5 c np n/\Ch c np n/\K6 c np n
 |0=>⟨fun x s _ h=>ac,fun l s _ h=>ac,fun x s z _ h=>by have:=x.aT;omega⟩
 |n+1=>by
  obtain⟨a,b,d⟩:=Uj g (np:=np) n;exact⟨zir g b d,zis a b,ziq g b⟩
section
variable {A:qR} {F:qQ} {np:Nat}
def NdP.aK{x:Nd}(h:NdP ⟨A,F,N⟩ np x):NdP ⟨A,F,V⟩ np x:=⟨h.op,h.aF,h.len,h.pa,h.ar,h.fn⟩
def LI.aK(h:LI ⟨A,F,N⟩ np s)(J:V.length=N.length):LI ⟨A,F,V⟩ np s:=⟨h.nd,h.wf,fun x z=>(h.p x z).aK,h.v,h.vl.trans J.symm,h.st⟩
def LI.push(h:LI ⟨A,F,N⟩ np s){x:Int}(z:IsT s.l 1 x)(J:V.length=N.length+1):LI ⟨A,F,V⟩ np {s with vars:=s.vars++[x] }:=
 ⟨h.nd,h.wf,fun y Y=>(h.p y Y).aK,fun y Y=>by
  rcases nR.1 Y with Y|Y
  .exact h.v y Y
  .simp only[j5]at Y;subst Y;exact z,by
  have:=h.vl;show(s.vars++[x]).length=_;rw[fB,this,J];rfl,h.st⟩
theorem K7(U:np<=6):∀(m k:Nat) (s:Bd) (N V:List b8),LI ⟨A,F,N⟩ np s->V.length=N.length+m->k+m<=np->LI ⟨A,F,V⟩ np (gg m k s)/\(gg m k s).loops=s.loops/\(gg m k s).l.length<=s.l.length+m
 |0,k,s,N,V,h,hl,_=>⟨h.aK hl,rfl,aH _⟩
 |m+1,k,s,N,V,h,hl,hk=>by
  obtain⟨Z,Y,j⟩:=lx h (n:=⟨2,k,[]⟩) (TS ac ac) aE ⟨by show 0<=(2:Int)/\(2:Int)<256;decide,Cb,by show 0<=40;decide,fun _=>by show(k:Int)<np;omega,fun e=>by rcases e with e|e<;>exact absurd e (by show ¬(2:Int)=_;decide),fun e=>absurd e (by show ¬(2:Int)=30;decide)⟩;obtain⟨z,C,O⟩:=K7 U m (k+1) { (ai ⟨2,k,[]⟩ s).2 with vars:=(ai ⟨2,k,[]⟩ s).2.vars++[(ai ⟨2,k,[]⟩ s).1] } ([]::N) V (Z.push Y rfl) GF ac;exact⟨z,C,by have M:(gg (m+1) k s).l.length<=(ai ⟨2,k,[]⟩ s).2.l.length+m:=O;omega⟩
theorem K8:∀(m:Nat) (s:Bd) (N V:List b8),LI ⟨A,F,N⟩ np s->V.length=N.length+m->LI ⟨A,F,V⟩ np (jn m s)/\(jn m s).loops=s.loops/\(jn m s).l.length<=s.l.length+m
 |0,s,N,V,h,hl=>⟨h.aK hl,rfl,aH _⟩
 |m+1,s,N,V,h,hl=>by
  obtain⟨U,Y,j⟩:=Ce h (n:=0) gl;obtain⟨z,C,Z⟩:=K8 m { (ai ⟨1,0,[]⟩ s).2 with vars:=(ai ⟨1,0,[]⟩ s).2.vars++[(ai ⟨1,0,[]⟩ s).1] } ([]::N) V (U.push Y rfl) GF;exact⟨z,C,by have O:(jn (m+1) s).l.length<=(ai ⟨1,0,[]⟩ s).2.l.length+m:=Z;omega⟩
def La:LI ⟨A,F,[]⟩ np { (ai ⟨26,0,[]⟩ ⟨[],[],0,0⟩).2 with ab:=(ai ⟨26,0,[]⟩ ⟨[],[],0,0⟩).1}:=by
 obtain⟨a,b⟩:=K0 (l:=[]) (n:=⟨26,0,[]⟩) (fun i C=>by simp at C) TT aE;refine⟨T5 KY,b,fun x z=>?_,(fun y Y=>by cases Y),rfl,a⟩;rcases(uJ (l:=[]) (n:=⟨26,0,[]⟩)).1 z with z|rfl
 .cases z
 .exact jp _ _ aE gl au aE aE aE aE
end
structure zf4 (p:Pr):Prop where
 ck:fx p=0
 rg:∀f∈p.funcs,j6 f.body/\jF f.value
def Lb(h:fx p=0):jD p=false/\iM p=true/\me p=false/\p.funcs.any (jj p)=false/\p.funcs.any (li p)=false:=by
 unfold fx at h;split at h
 .cases h
 split at h
 .cases h
 split at h
 .cases h
 split at h
 .cases h
 split at h
 .cases h
 rename_i a b c d e;exact⟨by simpa using a,by simpa using b,by simpa using c,by simpa using d,yU⟩
theorem GM{I:Type}{l:List I}{p:I->Bool}(h:l.any p=false){x:I}(z:x∈l):p x=false:=by
 cases e:p x with
 |false=>rfl
 |true=>rw[EQ.2 ⟨x,z,e⟩]at h;cases h
def zf4.dF(h:zf4 p):(∀a∈p.aa,1<=a.len/\a.len<=16)/\p.aa.length<=4/\p.funcs.length<=8/\∀f∈p.funcs,f.params.length<=6/\f.ao.length<=8/\dk f.body<=16:=by
 have z:=(Lb h.ck).1;unfold jD at z;simp only[kU,kB]at z;obtain⟨⟨⟨i,g⟩,m⟩,U⟩:=z;refine⟨fun a Z=>?_,ac,ac,fun f C=>?_⟩
 .have:=GM m Z;unfold pI at this;simp only[kU,kB]at this;omega
 .have:=GM U C;unfold mc at this;simp only[kU,kB]at this;omega
def zf4.cx(h:zf4 p){f:Fu}(C:f∈p.funcs):zd4 (nF p f):=by
 obtain⟨i,Z,m,U⟩:=h.dF;have:=U f C;exact⟨i,Z,m,fun g hg=>(U g hg).1,by show(f.params++f.ao).length<=14;rw[fB];omega⟩
def zf4.body(h:zf4 p){f:Fu}(C:f∈p.funcs):zf8 (nF p f) f.body/\XOk (nF p f) f.value:=by
 obtain⟨_,g,_,U,M⟩:=Lb h.ck;unfold iM at g;rw[cj,gM,gM]at g;have w:=g.2 f C;have u:=GM U C;have b:=GM M C;unfold jY at w;unfold jj at u;unfold li at b;simp only[cj,i8]at w u b;obtain⟨V,Z⟩:=h.rg f C;exact⟨⟨w.1.2,u.1,b,V⟩,⟨w.2,u.2,Z⟩⟩
theorem Lc(h:zf4 p){n:Nat}(hn:2*p.sz<n){f:Fu}(C:f∈p.funcs):
 ∃s v,iH (nF p f) n f.body (ja f)=some s/\fE (nF p f) n f.value s=some v/\LI (nF p f) f.params.length v.2/\IsT v.2.l 1 v.1/\v.2.loops<=16/\v.2.l.length<=64*p.sz:=by
 obtain⟨_,_,_,U⟩:=h.dF;obtain⟨j,l2,l3⟩:=U f C;obtain⟨hb,Z⟩:=h.body C;have hc:=h.cx C;have i:=nY C;have m:p.sz=1+eV p.aa+fg p.funcs:=rfl;have hfs:f.sz=1+f.name.length+dB f.params+dB f.ao+bH f.body+f.value.sz:=rfl;have e0:=La (A:=p.aa) (F:=p.funcs) (np:=f.params.length);obtain⟨Y,O,M⟩:=K7 j f.params.length 0 _ [] f.params e0 au ac;obtain⟨z,L,J⟩:=K8 f.ao.length _ f.params (f.params++f.ao) Y KV;have hs:LI (nF p f) f.params.length (ja f):=z;have hs2:(ja f).loops=0:=L.trans O;have hs3:(ja f).l.length<=15:=by
  have e1:(ja f).l.length<=(gg f.params.length 0 { (ai ⟨26,0,[]⟩ ⟨[],[],0,0⟩).2 with ab:=(ai ⟨26,0,[]⟩ ⟨[],[],0,0⟩).1}).l.length+f.ao.length:=J;have e2:(gg f.params.length 0 { (ai ⟨26,0,[]⟩ ⟨[],[],0,0⟩).2 with ab:=(ai ⟨26,0,[]⟩ ⟨[],[],0,0⟩).1}).l.length<=1+f.params.length:=M;omega
 obtain⟨s,q1,q2,q3,q4⟩:=(Uj hc (np:=f.params.length) n).2.1 f.body (ja f) hb ac hs ac;obtain⟨v,V,g,I,r4⟩:=tQ hc n f.value s Z ac q2;have lv:=eO _ n _ _ _ V;exact⟨s,v,q1,V,g,I,by rw[lv.n];omega,ac⟩
def LI.fin{np:Nat}(h:LI c np s)(J:s.l.length<2^36)(I:s.loops<=16):Fin s:=by
 refine⟨fun x z=>?_,J,ac⟩;have hp:=h.p x z;obtain⟨i,C,e⟩:=ta z;have hg:s.l[i]?=some x:=by rw[aL C,e]
 have L:=h.wf i C;rw[xD C]at L;obtain⟨t,j,_,_⟩:=EC hg L;refine⟨hp.op,hp.aF,fun k O=>?_,by have:=hp.len;omega⟩;have:=tw j k O;omega
def Ld(h:zf4 p)(Z:p.sz<2^30){n:Nat}(I:2*p.sz<n):Gj p n:=fun f C=>by
 obtain⟨s,v,i,g,m,U,M,Y⟩:=Lc h I C;exact⟨s,v,i,g,m.fin ac M⟩
def jd(l:qy)(A:Nat->Prop)(k:Int):Prop:=∀t,(eY l k).testBit t=true->A t
theorem zM(l:qy):∀{i j:Nat},j<i->(fO l i).getD j 0=(match l[j]? with|some n=>rR n (fO l j)|none=>0)
 |0,j,h=>by omega
 |i+1,j,h=>by
  rw[fO];by_cases e:j<i
  .rw[EY (by rw[vP];exact e)];exact zM l e
  .obtain rfl:j=i:=by omega
   rw[EZ (vP l j).symm];cases l[j]? <;>rfl
theorem Uk{l m:qy}:∀{i:Nat},i<=l.length->fO (l++m) i=fO l i
 |0,_=>rfl
 |i+1,h=>by
  have ih:=Uk (l:=l) (m:=m) (i:=i) ac;rw[fO,fO,ih,je ac]
theorem Ul{n:Nd}{h Z:qD}:∀(z:qu) (j m:Nat),(∀k∈z,h.getD k.toNat 0=Z.getD k.toNat 0)->oR n h j z m=oR n Z j z m
 |[],j,m,_=>rfl
 |k::z,j,m,e=>by
  rw[oR,oR,Ul z _ _ fun q L=>e q (ev _ L)];unfold tA;rw[e k ei]
def zit{i:Nat}{n:Nd}(I:l[i]?=some n)(j:∀k∈n.aj,0<=k/\k<i):eY l i=rR n (fO l l.length):=by
 have C:i<l.length:=by
  by_cases c:i<l.length
  .exact c
  .rw[gV ac]at I;cases I
 unfold eY;rw[fK,zM l C,I];simp only;unfold rR;refine Ul _ _ _ fun k O=>?_;have:=j k O;rw[zM l (show k.toNat<i by omega),zM l (show k.toNat<l.length by omega)]
def Um{m:qy}(U:0<=k)(h1:k<l.length):eY (l++m) k=eY l k:=by
 unfold eY;rw[zM _ (show k.toNat<(l++m).length by rw[fB];omega),zM _ (show k.toNat<l.length by omega),je ac,Uk ac]
def jd.le(h:jd l A k)(U:0<=k)(h1:k<l.length)(Z:l<+:C):jd C A k:=by
 obtain⟨m,rfl⟩:=Z;intro t J;rw[Um U h1]at J;exact h t J
def jd.mono(h:jd l A k)(M:∀t,A t->B t):jd l B k:=fun t J=>M t (h t J)
def ziu{n:Nd}{h:qD}(m:n.op=3->A (n.aF.tdiv 16).toNat)(Z:∀(j:Nat) (k:Int),n.aj[j]?=some k->∀t,(h.getD k.toNat 0).testBit t=true->A t\/(n.op=31/\ee n.aj.length<=j/\t=n.aF.toNat))(t:Nat)(J:(rR n h).testBit t=true):A t:=by
 unfold rR at J;rw[EX,rx]at J;rcases J with J|J
 .by_cases c:n.op=3
  .rw[ah c,Bx,kA]at J;rw[<-J];exact m c
  .rw[af c]at J;simp at J
 .obtain⟨⟨k,j⟩,O,hb⟩:=EQ.1 J;have hg:n.aj[j]?=some k:=by
   have:=List.mem_zipIdx_iff_getElem?.1 O;simpa using this
  simp only at hb;unfold tA at hb;split at hb
  .rename_i c;rw[Bw,cj,Bx]at hb;rcases Z j k hg t hb.1 with a|⟨_,_,e⟩
   .exact a
   .rw[e]at hb;simp at hb
  .rename_i c;rcases Z j k hg t hb with a|⟨Y,V,_⟩
   .exact a
   .exact absurd ⟨Y,V⟩ c
def ziv{n:Nd}(h:gm l n≠0):∀k∈n.aj,0<=k/\k<l.length:=by
 unfold gm at h;split at h
 .exact absurd rfl h
 .rename_i s M;intro k j;have:=tw M k j;omega
def GN{n:Nd}(L:Cd l)(M:gm l n≠0)(I:n.op=3->A (n.aF.tdiv 16).toNat)(C:∀(j:Nat) (k:Int),n.aj[j]?=some k->∀t,(eY l k).testBit t=true->A t\/(n.op=31/\ee n.aj.length<=j/\t=n.aF.toNat)):jd (kI l n) A (jl l n):=by
 obtain⟨a,b⟩:=K0 L rfl M;have hg:=Ko l n;have Z:=zfm l n;have Y:=b _ Z;rw[xD Z]at Y;obtain⟨s,i,_,_⟩:=EC hg Y;have V:=tw i;intro t J;rw[zit hg fun k O=>⟨(V k O).1,(V k O).2.1⟩]at J;refine ziu I (fun j k U t J=>?_) t J;have hr:=ziv M k (jM U);obtain⟨m,O⟩:=xX l n;refine C j k U t ?_;rw[<-Um (m:=m) hr.1 hr.2,O];exact J
def Ci{n:Nd}(L:Cd l)(M:gm l n≠0)(m:n.op≠3)(Z:∀k∈n.aj,jd l A k):jd (kI l n) A (jl l n):=
 GN L M (fun e=>absurd e m) fun j k Y t J=>.inl (Z k (jM Y) t J)
structure IsM (A:Nat->Prop) (l:qy) (t k:Int):Prop where
 i:IsT l t k
 m:jd l A k
def IsM.le(h:IsM A l t k)(J:l<+:C):IsM A C t k:=⟨h.i.le J,h.m.le h.i.lo h.i.hi J⟩
def IsM.mono{t:Int}(h:IsM A l t k)(M:∀t,A t->B t):IsM B l t k:=⟨h.i,h.m.mono M⟩
structure LG (c:Cx) (np:Nat) (A:Nat->Prop) (s:Bd):Prop where
 i:LI c np s
 v:∀y∈s.vars,IsM A s.l 1 y
 st:IsM A s.l 2 s.ab
structure Ql (s r:Bd):Prop where
 q:∀x∈r.l,x∈s.l\/(x.op≠3/\x.op≠31)
variable{v i:Int}
def Ql.refl(s:Bd):Ql s s:=⟨fun x h=>.inl h⟩
def yf:=@Ql.refl
def Ql.trans{a b d:Bd}(h:Ql a b)(k:Ql b d):Ql a d:=⟨fun x z=>(k.q x z).elim (fun g=>h.q x g) .inr⟩
def Ql.setS{a b:Bd}(h:Ql a b)(x:Int):Ql a {b with ab:=x}:=⟨h.q⟩
def Ql.ofS{a b:Bd}{x:Int}(h:Ql {a with ab:=x} b):Ql a b:=⟨h.q⟩
section
variable {c:Cx} {np:Nat} {A:Nat -> Prop} {s:Bd}
def LG.setS(h:LG c np A s){x:Int}(z:IsM A s.l 2 x):LG c np A {s with ab:=x}:=⟨h.i.setS z.i,h.v,z⟩
def LG.setV(h:LG c np A s){x:qu}(z:∀y∈x,IsM A s.l 1 y)(J:x.length=c.aK.length):LG c np A {s with vars:=x}:=⟨h.i.setV (fun y Y=>(z y Y).i) J,z,h.st⟩
def LG.cH(h:LG c np A s)(x:Nat):LG c np A {s with loops:=x}:=⟨h.i.cH x,h.v,h.st⟩
def LG.mono(h:LG c np A s)(M:∀t,A t->B t):LG c np B s:=⟨h.i,fun y Y=>(h.v y Y).mono M,h.st.mono M⟩
def LG.put(h:LG c np A s){n:Nd}(i:LI c np (ai n s).2):LG c np A (ai n s).2:=⟨i,fun y Y=>(h.v y Y).le (xX _ _),h.st.le (xX _ _)⟩
def GO(s:Bd){n:Nd}(m:n.op≠3)(i:n.op≠31):Ql s (ai n s).2:=⟨fun x z=>by
 rcases uJ.1 z with z|rfl
 .exact .inl z
 .exact .inr ⟨m,i⟩⟩
def tR(h:LG c np A s){n:Nd}(M:gm s.l n=t)(J:t≠0)(Z:NdP c np n)(m:n.op≠3)(i:n.op≠31)(j:∀k∈n.aj,jd s.l A k):LG c np A (ai n s).2/\IsM A (ai n s).2.l t (ai n s).1/\Ql s (ai n s).2:=by
 obtain⟨a,b,_⟩:=lx h.i M J Z;exact⟨h.put a,⟨b,Ci h.i.wf (by rw[M];exact J) m j⟩,GO s m i⟩
def Ck{a:Int}(h:jd l A a):∀k∈[a],jd l A k:=fun k j=>by
 simp only[j5]at j;subst j;exact h
def Cl{a:Int}(h:jd l A a)(h2:jd l A b):∀k∈[a,b],jd l A k:=fun k j=>by
 rcases gE.1 j with rfl|j
 .exact h
 .exact Ck h2 k j
def Uo{a d:Int}(h:jd l A a)(h2:jd l A b)(m:jd l A d):∀k∈[a,b,d],jd l A k:=fun k j=>by
 rcases gE.1 j with rfl|j
 .exact h
 .exact Cl h2 m k j
def zN(h:LG c np A s){a:Int}(j:IsM A s.l 1 k)(z:IsM A s.l t a)(hb:IsM A s.l t b)(J:t=1\/t=2):LG c np A (b9 k a b s).2/\IsM A (b9 k a b s).2.l t (b9 k a b s).1/\Ql s (b9 k a b s).2:=by
 unfold b9;split
 .exact⟨h,z,yf s⟩
 .exact tR h (TW j.i z.i hb.i J) ac (jp _ _ aE gl au aE aE aE aE) au au (Uo j.m z.m hb.m)
def Le(h:LG c np A s)(V:IsM A s.l 1 v)(U:1<=t)(h1:t<=1000016):LG c np A (mh t v s)/\Ql s (mh t v s):=by
 have:=tR h (n:=⟨27,t,[s.ab,v]⟩) (TY h.st.i V.i U h1) aE (jp _ _ aE gl au aE aE aE aE) au au (Cl h.st.m V.m);exact⟨this.1.setS this.2.1,this.2.2.setS _⟩
def Cm(h:LG c np A s){n:Int}(I:eJ n):LG c np A (ai ⟨1,n,[]⟩ s).2/\IsM A (ai ⟨1,n,[]⟩ s).2.l 1 (ai ⟨1,n,[]⟩ s).1/\Ql s (ai ⟨1,n,[]⟩ s).2:=
 tR h (TQ n) aE (jp _ _ aE I au aE aE aE aE) au au au
def GP(h:LG c np A s){op a:Int}(z:IsM A s.l 1 a)(hb:IsM A s.l 1 b)(U:4<=op)(h1:op<=19):LG c np A (ai ⟨op,0,[a,b]⟩ s).2/\IsM A (ai ⟨op,0,[a,b]⟩ s).2.l 1 (ai ⟨op,0,[a,b]⟩ s).1/\Ql s (ai ⟨op,0,[a,b]⟩ s).2:=
 tR h (TU z.i hb.i U h1) aE (jp _ _ ac gl au ac ac ac ac) (by show op≠3;omega) (by show op≠31;omega) (Cl z.m hb.m)
def Up(h:LG c np A s){n:Int}(I:eJ n)(C:IsM A s.l 1 i):LG c np A (gI n i s)/\Ql s (gI n i s):=by
 obtain⟨U,Y,j⟩:=Cm h I;have M:=C.le (dS ⟨1,n,[]⟩ s).le.l;obtain⟨z,Z,V⟩:=GP U (op:=19) M Y aE aE;obtain⟨c1,O⟩:=Le z (t:=2) Z aE aE;exact⟨c1,j.trans (V.trans O)⟩
def ziw(h:LG c np A s)(C:IsM A s.l 1 i):LG c np A (nE i s)/\Ql s (nE i s):=by
 obtain⟨U,Y,j⟩:=Cm h (n:=0) gl;have M:=C.le (dS ⟨1,0,[]⟩ s).le.l;obtain⟨z,Z,V⟩:=GP U (op:=16) M Y aE aE;obtain⟨c1,I⟩:=Le z (t:=1) Z aE aE;exact⟨c1,j.trans (V.trans I)⟩
def zix(g:zd4 c)(h:LG c np A s)(C:IsM A s.l 1 i){k:Nat}(j:k<c.aa.length):LG c np A (ai ⟨23,k,[s.ab,i]⟩ s).2/\IsM A (ai ⟨23,k,[s.ab,i]⟩ s).2.l 1 (ai ⟨23,k,[s.ab,i]⟩ s).1/\Ql s (ai ⟨23,k,[s.ab,i]⟩ s).2:=by
 obtain⟨a,b,_⟩:=T8 g h.i C.i j;have al:=g.al;exact⟨h.put a,⟨b,Ci h.i.wf (by rw[TX h.st.i C.i ac ac];decide) (by show ¬(23:Int)=3;decide) (Cl h.st.m C.m)⟩,GO s (by show ¬(23:Int)=3;decide) (by show ¬(23:Int)=31;decide)⟩
def ziy(g:zd4 c)(h:LG c np A s)(C:IsM A s.l 1 i)(V:IsM A s.l 1 v){k:Nat}(j:k<c.aa.length):LG c np A (ai ⟨28,k,[s.ab,i,v]⟩ s).2/\IsM A (ai ⟨28,k,[s.ab,i,v]⟩ s).2.l 2 (ai ⟨28,k,[s.ab,i,v]⟩ s).1/\Ql s (ai ⟨28,k,[s.ab,i,v]⟩ s).2:=by
 obtain⟨a,b,_⟩:=T9 g h.i C.i V.i j;have al:=g.al;exact⟨h.put a,⟨b,Ci h.i.wf (by rw[T0 h.st.i C.i V.i ac ac];decide) (by show ¬(28:Int)=3;decide) (Uo h.st.m C.m V.m)⟩,GO s (by show ¬(28:Int)=3;decide) (by show ¬(28:Int)=31;decide)⟩
def ziz(h:LG c np A s)(V:IsM A s.l 1 v):LG c np A (ai ⟨29,0,[s.ab,v]⟩ s).2/\IsM A (ai ⟨29,0,[s.ab,v]⟩ s).2.l 2 (ai ⟨29,0,[s.ab,v]⟩ s).1/\Ql s (ai ⟨29,0,[s.ab,v]⟩ s).2:=
 tR h (TZ h.st.i V.i) aE (jp _ _ aE gl au aE aE aE aE) au au (Cl h.st.m V.m)
def ziA(h:LG c np A s)(V:IsM A s.l 2 v):LG c np A (ai ⟨24,0,[v]⟩ s).2/\IsM A (ai ⟨24,0,[v]⟩ s).2.l 1 (ai ⟨24,0,[v]⟩ s).1/\Ql s (ai ⟨24,0,[v]⟩ s).2:=
 tR h (T1 V.i) aE (jp _ _ aE gl au aE aE aE aE) au au (Ck V.m)
def ziB(g:zd4 c)(h:LG c np A s)(z:∀a∈L,IsM A s.l 1 a){k:Nat}{f:Fu}(C:c.funcs[k]?=some f)(J:L.length=f.params.length):LG c np A (ai ⟨30,k,s.ab::L⟩ s).2/\IsM A (ai ⟨30,k,s.ab::L⟩ s).2.l 2 (ai ⟨30,k,s.ab::L⟩ s).1/\Ql s (ai ⟨30,k,s.ab::L⟩ s).2:=by
 obtain⟨a,b,_⟩:=Ua g h.i (fun a h=>(z a h).i) C J;have Y:=g.fl;have M:=g.fp f (jM C);have j:k<c.funcs.length:=by
  by_cases q:k<c.funcs.length
  .exact q
  .rw[gV ac]at C;cases C
 refine⟨h.put a,⟨b,Ci h.i.wf (by rw[T2 h.st.i (fun a h=>(z a h).i) ac ac ac];decide) (by show ¬(30:Int)=3;decide) fun q Z=>?_⟩,GO s (by show ¬(30:Int)=3;decide) (by show ¬(30:Int)=31;decide)⟩;rcases gE.1 Z with rfl|Z
 .exact h.st.m
 .exact(z q Z).m
end
theorem tS{c:Cx}(hc:zd4 c){np:Nat}{A:Nat->Prop}:∀(n:Nat) (x:Ex) (s:Bd),XOk c x->x.sz<n->LG c np A s->∃r,fE c n x s=some r/\LG c np A r.2/\IsM A r.2.l 1 r.1/\Ql s r.2
 |0,x,s,hx,hd,hs=>by omega
 |n+1,x,s,hx,hd,hs=>by
  have I:=tS hc (np:=np) (A:=A) n;have hwf:=hx.wf;have M:=hx.df;have hrg:=(K1 x).1 hx.rg;rw[BB,cj,mG]at hwf;rw[BI,cj,i9]at M;have L:=hwf.2;have hsz:=x.aT;unfold fE;by_cases e1:x.aw=1
  .rw[ah e1];obtain⟨a,b,d⟩:=Cm hs hrg.1;exact⟨_,rfl,a,b,d⟩
  rw[af e1]at L⊢;by_cases e2:x.aw=2
  .rw[ah e2];have hn:bu c.aK x.name=true:=by have:=M.2;simp[e2]at this;exact this
   have j:dm c.aK x.name<s.vars.length:=by rw[hs.i.vl];exact wt hn
   rw[aL j,rq];exact⟨_,rfl,hs,hs.v _ (cB j),yf s⟩
  rw[af e2]at L⊢;by_cases e3:x.aw=3
  .rw[ah e3]at L⊢;simp only[jN]at L;have hn:bu (c.aa.map (·.name)) x.name=true:=by have:=M.2;simp[e3]at this;exact this
   have j:=wt hn;rw[cN]at j;obtain⟨k,Z⟩:=oU x.aj (i:=0) ac;have hks:=Cf Z;obtain⟨r,hr,V,Y,r3⟩:=I k s (hx.cT Z) ac hs;rw[Z,cy,hr,cy,aL j,cy];have ha:=hc.a _ (cB j);generalize c.aa[dm (c.aa.map (·.name)) x.name]=ar at ha⊢;obtain⟨a1,a2⟩:=Up V (n:=ar.len) gl Y;obtain⟨z,C,J⟩:=zix hc a1 (Y.le (wd ar.len r.1 r.2).le.l) j;exact⟨_,rfl,z,C,r3.trans (a2.trans J)⟩
  rw[af e3]at L⊢;by_cases e5:x.aw=5
  .have e4:¬x.aw=4:=by omega
   rw[af e4,ah e5]at L;rw[ah e5];simp only[jN]at L;obtain⟨k,Z⟩:=oU x.aj (i:=0) ac;obtain⟨k1,U⟩:=oU x.aj (i:=1) ac;obtain⟨k2,O⟩:=oU x.aj (i:=2) ac;have hks:=Ub Z U O;obtain⟨r,hr,m,p2,p3⟩:=I k s (hx.cT Z) ac hs;obtain⟨V,g,q1,q2,q3⟩:=I k1 r.2 (hx.cT U) ac m;have l1:=eO c n _ _ _ g;obtain⟨Y,hr2,t1,t2,t3⟩:=I k2 {V.2 with ab:=r.2.ab} (hx.cT O) ac (q1.setS (m.st.le l1.le.l));have l2:=eO c n _ _ _ hr2;rw[Z,cy,hr,cy,U,cy,g,cy,O,cy,hr2,cy];have pc:IsM A Y.2.l 1 r.1:=(p2.le l1.le.l).le l2.le.l;obtain⟨ct,m2,m3⟩:=zN t1 pc (q2.le l2.le.l) t2 (.inl rfl);have lm:=iO r.1 V.1 Y.1 Y.2;obtain⟨cF,n2,n3⟩:=zN ct (pc.le lm.le.l) ((q1.st.le l2.le.l).le lm.le.l) ct.st (.inr rfl);have ln:=iO r.1 V.2.ab (b9 r.1 V.1 Y.1 Y.2).2.ab (b9 r.1 V.1 Y.1 Y.2).2;exact⟨_,rfl,cF.setS n2,m2.le ln.le.l,(p3.trans (q3.trans (t3.ofS.trans (m3.trans n3)))).setS _⟩
  rw[af e5]at L⊢;by_cases e4:x.aw=4
  .rw[ah e4]at L;simp only[cj,rx,kA]at L;have hl:x.aj.length=2\/x.aj.length=1:=by rcases L.2 with h|h<;>omega
   obtain⟨k,Z⟩:=oU x.aj (i:=0) ac;have hks:=Cf Z;obtain⟨r,hr,m,p2,p3⟩:=I k s (hx.cT Z) ac hs;rw[Z,cy,hr,cy];by_cases e6:x.aj.length=1
   .rw[ah e6];have ho:x.op=20\/x.op=21:=by
     rcases L.2 with h|h
     .omega
     .exact h.2
    obtain⟨a,b,d⟩:=tR m (TV p2.i ho) aE (jp _ _ ac gl au ac ac ac ac) (by show x.op≠3;omega) (by show x.op≠31;omega) (Ck p2.m);exact⟨_,rfl,a,b,p3.trans d⟩
   .rw[af e6];obtain⟨k1,U⟩:=oU x.aj (i:=1) ac;have hks2:=K3 Z U;obtain⟨V,g,q1,q2,q3⟩:=I k1 r.2 (hx.cT U) ac m;have l1:=eO c n _ _ _ g;rw[U,cy,g,cy];have ho:4<=x.op/\x.op<=18:=by
     rcases L.2 with h|h
     .have:=h.2;simp[rK]at this;exact this
     .omega
    have p2':=p2.le l1.le.l;by_cases e7:x.op=7\/x.op=8
    .rw[ah e7];obtain⟨a1,a2⟩:=ziw q1 q2;have ld:=FT V.1 V.2;obtain⟨z,C,J⟩:=GP a1 (p2'.le ld.le.l) (q2.le ld.le.l) (by omega:4<=x.op) ac;exact⟨_,rfl,z,C,p3.trans (q3.trans (a2.trans J))⟩
    .rw[af e7];obtain⟨z,C,J⟩:=GP q1 p2' q2 (by omega:4<=x.op) ac;exact⟨_,rfl,z,C,p3.trans (q3.trans J)⟩
  .rw[af e4]at L;simp at L
theorem Uq{c:Cx}(g:zd4 c){np n:Nat}{A:Nat->Prop}:∀(l:qH) (s:Bd),(∀x∈l,XOk c x)->fu l<n->LG c np A s->∃r,pN c n l s=some r/\LG c np A r.2/\(∀a∈r.1,IsM A r.2.l 1 a)/\Ql s r.2
 |[],s,hx,hd,hs=>⟨_,rfl,hs,au,yf s⟩
 |x::l,s,hx,hd,hs=>by
  rw[fu]at hd;obtain⟨r,hr,J,U,V⟩:=tS g n x s (hx x ei) ac hs;obtain⟨Z,m,q1,q2,O⟩:=Uq (n:=n) g l r.2 (fun y Y=>hx y (ev _ Y)) ac J;have L:=(wh c n _ _ _ m).1;refine⟨(r.1::Z.1,Z.2),TK,q1,fun a z=>?_,V.trans O⟩;rcases gE.1 z with rfl|z
  .exact U.le L.le.l
  .exact q2 a z
structure LP (s:Bd):Prop where
 l1:∀x∈s.l,x.op=31->0<=x.aF/\x.aF<s.loops
 l2:∀x∈s.l,∀y∈s.l,x.op=31->y.op=31->x.aF=y.aF->x=y
 l3:∀x∈s.l,x.op=3->0<=x.aF/\x.aF<16*s.loops
 l4:∀x∈s.l,∀y∈s.l,x.op=31->y.op=3->y.aF.tdiv 16=x.aF->y.aF.tmod 16<ee x.aj.length
structure Dl (s r:Bd):Prop where
 d:∀x∈r.l,x∈s.l\/((x.op=31->(s.loops:Int)<=x.aF)/\(x.op=3->16*(s.loops:Int)<=x.aF))
 n:s.loops<=r.loops
variable{n:Nat}
def Dl.refl(s:Bd):Dl s s:=⟨fun x h=>.inl h,aH _⟩
def Dl.trans{a b e:Bd}(h:Dl a b)(k:Dl b e):Dl a e:=⟨fun x z=>by
 have I:=h.n;rcases k.d x z with i|⟨i,g⟩
 .exact h.d x i
 .exact .inr ⟨fun q=>by have:=i q;omega,fun q=>by have:=g q;omega⟩,dz h.n k.n⟩
def Ql.dl(h:Ql s r)(I:s.loops<=r.loops):Dl s r:=⟨fun x z=>(h.q x z).imp id fun q=>⟨fun e=>absurd e q.2,fun e=>absurd e q.1⟩,I⟩
def Ql.dX(h:Ql s r){x:Nd}(z:x∈r.l)(e:x.op=31):x∈s.l:=(h.q x z).elim id fun q=>absurd e q.2
def Ql.m3(h:Ql s r){x:Nd}(z:x∈r.l)(e:x.op=3):x∈s.l:=(h.q x z).elim id fun q=>absurd e q.1
def LP.ql(h:LP s)(q:Ql s r)(I:s.loops<=r.loops):LP r:=
 ⟨fun x z e=>by have:=h.l1 x (q.dX z e) e;omega,fun x z y Y ex g=>h.l2 x (q.dX z ex) y (q.dX Y g) ex g,fun x z e=>by have:=h.l3 x (q.m3 z e) e;omega,fun x z y Y ex g=>h.l4 x (q.dX z ex) y (q.m3 Y g) ex g⟩
def LP.setS(h:LP s)(x:Int):LP {s with ab:=x}:=⟨h.l1,h.l2,h.l3,h.l4⟩
def LP.setV(h:LP s)(x:qu):LP {s with vars:=x}:=⟨h.l1,h.l2,h.l3,h.l4⟩
def Dl.setS(h:Dl s r)(x:Int):Dl s {r with ab:=x}:=⟨h.d,h.n⟩
def Dl.setV(h:Dl s r)(x:qu):Dl s {r with vars:=x}:=⟨h.d,h.n⟩
theorem ziC(k a b:Int)(s:Bd)(z:Int):b9 k a b {s with ab:=z}=((b9 k a b s).1,{ (b9 k a b s).2 with ab:=z}):=by
 unfold b9;split<;>rfl
section
variable {c:Cx} {np:Nat} {A:Nat -> Prop}
theorem Ur{k:Int}{a:qu}:∀(m i:Nat) (s:Bd),LG c np A s->IsM A s.l 1 k->(∀y∈a,IsM A s.l 1 y)->a.length=c.aK.length->i+m=c.aK.length->∃r,oV k a m i s=some r/\LG c np A r/\Ql s r
 |0,i,s,h,_,_,_,_=>⟨s,rfl,h,yf s⟩
 |m+1,i,s,h,hk,ha,hl,hi=>by
  have M:=h.i.vl;have Z:i<a.length:=ac;have g:i<s.vars.length:=ac;unfold oV;rw[aL Z,cy,aL g,cy];obtain⟨ct,I,V⟩:=zN h hk (ha _ (cB Z)) (h.v _ (cB g)) (.inl rfl);have lv:=iO k a[i] s.vars[i] s;obtain⟨r,e,U,O⟩:=Ur m (i+1) { (b9 k a[i] s.vars[i] s).2 with vars:=(b9 k a[i] s.vars[i] s).2.vars.set i (b9 k a[i] s.vars[i] s).1} (ct.setV (fun y Y=>by
   rcases r0 Y with Y|rfl
   .exact ct.v y Y
   .exact I) (by rw[jv];exact ct.i.vl)) (hk.le lv.le.l) (fun y Y=>(ha y Y).le lv.le.l) hl ac
  exact⟨r,e,U,V.trans ⟨O.q⟩⟩
def ziD(k m:Nat)(s r:Bd):Prop:=∀x∈r.l,x∈s.l\/(x.op=3/\16*(k:Int)<=x.aF/\x.aF<16*(k:Int)+m)
theorem Us{k m:Nat}(U:k<=15)(L:A k)(O:m<=16):∀(C:qD) (j:Nat) (s:Bd),LG c np A s->j+C.length+1<=m->LG c np A (j0 (16*(k:Int)+1) C j s)/\ziD k m s (j0 (16*(k:Int)+1) C j s)
 |[],j,s,h,_=>⟨h,fun x z=>.inl z⟩
 |w::C,j,s,h,Z=>by
  rw[eF]at Z;have V:(16*(k:Int)+1+j).tmod 16=1+j:=by
   rw[GG ac];omega
  have g:(16*(k:Int)+1+j).tdiv 16=k:=by
   rw[l9 ac];omega
  have M:gm s.l ⟨3,16*(k:Int)+1+j,[]⟩=1:=by rw[GH ac ac,V,af ac]
  obtain⟨ct,I,m3⟩:=lx h.i (n:=⟨3,16*(k:Int)+1+j,[]⟩) M aE (jp _ _ aE gl au aE aE aE aE);have mm:jd (ai ⟨3,16*(k:Int)+1+j,[]⟩ s).2.l A (ai ⟨3,16*(k:Int)+1+j,[]⟩ s).1:=GN h.i.wf (by rw[M];decide) (fun _=>by show A ((16*(k:Int)+1+j).tdiv 16).toNat;rw[g,fK];exact L) (fun j k Z=>by simp at Z);have hg:=h.put ct;unfold j0;obtain⟨J,i⟩:=Us U L O C (j+1) { (ai ⟨3,16*(k:Int)+1+j,[]⟩ s).2 with vars:=(ai ⟨3,16*(k:Int)+1+j,[]⟩ s).2.vars.set w (ai ⟨3,16*(k:Int)+1+j,[]⟩ s).1} (hg.setV (fun y Y=>by
   rcases r0 Y with Y|rfl
   .exact hg.v y Y
   .exact⟨I,mm⟩) KT) ac
  refine⟨J,fun x z=>?_⟩;rcases i x z with z|z
  .rcases uJ.1 z with z|rfl
   .exact .inl z
   .exact .inr ⟨rfl,by show 16*(k:Int)<=16*(k:Int)+1+j;omega,by show 16*(k:Int)+1+j<16*(k:Int)+m;omega⟩
  .exact .inr z
theorem Ut{lp k:Int}{old:qu}{q:Nd}:∀(C:qD) (j:Nat) (s:Bd),LG c np A s->IsM A s.l 3 lp->s.l[lp.toNat]?=some q->IsM A s.l 1 k->(∀y∈old,IsM A s.l 1 y)->(∀w∈C,w<old.length)->1<=j->((j+C.length:Nat):Int)<=ee q.aj.length->j+C.length<=16 ->
 LG c np A (jm lp k old C j s)/\Ql s (jm lp k old C j s)
 |[],j,s,h,_,_,_,_,_,_,_,_=>⟨h,yf s⟩
 |w::C,j,s,h,hlp,hq,hk,ho,hw,hj,hlv,h16=>by
  rw[eF]at hlv h16;have hs:gm s.l ⟨25,j,[lp]⟩=1:=by rw[GJ hlp.i hq ac ac,af ac]
  obtain⟨ct,I,O⟩:=tR h (n:=⟨25,j,[lp]⟩) hs aE (jp _ _ aE gl au aE aE aE aE) au au (Ck hlp.m);have J:=dS ⟨25,j,[lp]⟩ s;have Z:=hw w ei;have i:old.getD w 0∈old:=Gp;obtain⟨cF,g,M⟩:=zN ct (hk.le J.le.l) I ((ho _ i).le J.le.l) (.inl rfl);have U:=J.trans (iO k (ai ⟨25,j,[lp]⟩ s).1 (old.getD w 0) (ai ⟨25,j,[lp]⟩ s).2);unfold jm;simp only[];generalize b9 k (ai ⟨25,j,[lp]⟩ s).1 (old.getD w 0) (ai ⟨25,j,[lp]⟩ s).2=z at *;have V:z.2.l[lp.toNat]?=some q:=by
   obtain⟨t,L⟩:=U.le.l;rw[<-L,je,hq];have:=hlp.i.hi;have:=hlp.i.lo;omega
  obtain⟨m,r2⟩:=Ut (q:=q) (lp:=lp) (k:=k) (old:=old) C (j+1) {z.2 with vars:=z.2.vars.set w z.1} (cF.setV (fun y Y=>by
   rcases r0 Y with Y|rfl
   .exact cF.v y Y
   .exact g) (by rw[jv];exact cF.i.vl)) (hlp.le U.le.l) V (hk.le U.le.l) (fun y Y=>(ho y Y).le U.le.l) (fun y Y=>hw y (ev _ Y)) ac ac ac
  exact⟨m,O.trans (M.trans ⟨r2.q⟩)⟩
end
def Lf(c:Cx)(np n:Nat):Prop:=∀A x s,SOk c x->2*x.sz<n->LG c np A s->LP s->s.loops+dC x<=16->∃r,oW c n x s=some r/\LG c np A r/\LP r/\r.loops<=s.loops+dC x/\Dl s r
def Cn(c:Cx)(np n:Nat):Prop:=∀A l s,zf8 c l->2*bH l<n->LG c np A s->LP s->s.loops+dk l<=16->∃r,iH c n l s=some r/\LG c np A r/\LP r/\r.loops<=s.loops+dk l/\Dl s r
def Lg(c:Cx)(np n:Nat):Prop:=∀A x s,SOk c x->x.aw=4->2*x.sz<=n->LG c np A s->LP s->s.loops+dC x<=16->∃r,pO c n x s=some r/\LG c np A r/\LP r/\r.loops<=s.loops+dC x/\Dl s r
def ziE{np k:Nat}{d:Bd}{C:qD}{dv:Int}(hk:k<=15)(hwl:C.length<=14)(hr:LG c np A r)(hd:LG c np (fun t=>A t\/t=k) d)(hv:IsM (fun t=>A t\/t=k) d.l 1 dv)(z:r.l<+:d.l)(Y:∀i∈C,i<r.vars.length)(N:Nd)
 (g:N=⟨31,k,r.ab::(C.map fun i=>r.vars.getD i 0)++[dv,d.ab]++C.map fun i=>d.vars.getD i 0⟩) :
 LG c np A { (ai N d).2 with vars:=r.vars,ab:=r.ab} /\ IsM A (ai N d).2.l 3 (ai N d).1/\N.aj.length=2*C.length+3:=by
 have ho:∀a∈C.map fun i=>r.vars.getD i 0,IsM A d.l 1 a:=fun a M=>by
  obtain⟨i,hi,rfl⟩:=mT.1 M;rw[cQ,aL (Y i hi)];exact(hr.v _ (cB _)).le z
 have hn:∀a∈C.map fun i=>d.vars.getD i 0,IsM (fun t=>A t\/t=k) d.l 1 a:=fun a M=>by
  obtain⟨i,hi,rfl⟩:=mT.1 M;have:=Y i hi;have e1:=hd.i.vl;have e2:=hr.i.vl;rw[cQ,aL (show i<d.vars.length by omega)];exact hd.v _ (cB _)
 have I:N.aj.length=2*C.length+3:=by rw[g];simp;omega
 have hs:gm d.l N=3:=by
  rw[g];exact T3 (hr.st.i.le z) (fun a h=>(ho a h).i) hv.i hd.st.i (fun a h=>(hn a h).i) au bW ac ac
 have Z:N.op=31:=by rw[g]
 have him:N.aF=k:=by rw[g]
 have hp:NdP c np N:=by
  have:=jp c np (op:=31) (imm:=k) (kids:=N.aj) aE gl ac aE aE aE aE;rw[show N=⟨31,k,N.aj⟩ by rw[g]];exact this
 obtain⟨k1,k2,_⟩:=lx hd.i hs aE hp;have km:jd (ai N d).2.l A (ai N d).1:=GN hd.i.wf (by rw[hs];decide) (fun e=>by rw[Z]at e;cases e) (fun j q V t J=>by
  by_cases c1:ee N.aj.length<=j
  .have O:q∈N.aj:=jM V;have hq:jd d.l (fun t=>A t\/t=k) q:=by
    rw[g]at O;simp only[nR,j5]at O;rcases O with((rfl|O)|rfl|rfl)|O
    .exact(hr.st.le z).m.mono fun _=>.inl
    .exact(ho q O).m.mono fun _=>.inl
    .exact hv.m
    .exact hd.st.m
    .exact(hn q O).m
   rcases hq t J with h|h
   .exact .inl h
   .exact .inr ⟨Z,c1,by rw[him,h,fK]⟩
  .rw[I,y9 _ ac]at c1;have hlt:j<(r.ab::(C.map fun i=>r.vars.getD i 0)).length:=bW;have O:q∈r.ab::(C.map fun i=>r.vars.getD i 0):=by
    rw[g]at V;simp only at V;rw[lU,je hlt]at V;exact jM V
   rcases gE.1 O with rfl|O
   .exact .inl ((hr.st.le z).m t J)
   .exact .inl ((ho q O).m t J))
 have lk:=(dS N d).le.l;have m:IsM A (ai N d).2.l 2 r.ab:=(hr.st.le z).le lk;have U:∀y∈r.vars,IsM A (ai N d).2.l 1 y:=fun y L=>((hr.v y L).le z).le lk;exact⟨⟨(k1.setV (fun y L=>(U y L).i) hr.i.vl).setS m.i,U,m⟩,⟨k2,km⟩,I⟩
theorem ziF(hc:zd4 c){np:Nat}(IS:Cn c np n):Lg c np (n+1):=fun A x s hx hk hsz h hP hw=>by
 have hs:=x.aT;have hw1:=Bl x;rw[ah hk]at hw1;have hv:=hx.value (.inr (.inr (.inr (.inl hk))));unfold pO;obtain⟨r,hr,J,p2,p3⟩:=tS hc n x.value {s with loops:=s.loops+1} hv ac (h.cH _);have lr:=eO c n _ _ _ hr;have hrn:r.2.loops=s.loops+1:=lr.n;obtain⟨b,hb,hbl⟩:=Cg n x.a9 (List.replicate r.2.vars.length false) hx.b7.1 ac (by rw[rJ];exact J.i.vl);rw[hr,cy,hb,cy];simp only[];have hwl:=K4 b;have hnl:=hc.nl;have hwm:∀i∈iG b,i<r.2.vars.length:=fun i hi=>by have:=Kv hi;have:=J.i.vl;omega
 generalize iG b=C at *;have hm:(16*(s.loops:Int)).tmod 16=0:=EM;have hdv:(16*(s.loops:Int)).tdiv 16=s.loops:=by rw[l9 ac];omega
 have hsq:gm r.2.l ⟨3,16*(s.loops:Int),[]⟩=2:=by rw[GH ac ac,hm,ah rfl]
 have p1':LG c np (fun t=>A t\/t=s.loops) r.2:=J.mono fun _=>.inl;obtain⟨q1,q2,_⟩:=lx J.i (n:=⟨3,16*(s.loops:Int),[]⟩) hsq aE (jp _ _ aE gl au aE aE aE aE);have qm:jd (ai ⟨3,16*(s.loops:Int),[]⟩ r.2).2.l (fun t=>A t\/t=s.loops) (ai ⟨3,16*(s.loops:Int),[]⟩ r.2).1:=GN J.i.wf (by rw[hsq];decide) (fun _=>.inr (by show((16*(s.loops:Int)).tdiv 16).toNat=_;rw[hdv,fK])) (fun j k hj=>by simp at hj);have qg:=p1'.put q1;have lq:=dS ⟨3,16*(s.loops:Int),[]⟩ r.2;have vq:∀y∈(ai ⟨3,16*(s.loops:Int),[]⟩ r.2).2.l,y∈r.2.l\/(y.op=3/\y.aF=16*(s.loops:Int)):=fun y Y=>by
  rcases uJ.1 Y with Y|rfl
  .exact .inl Y
  .exact .inr ⟨rfl,rfl⟩
 generalize ai ⟨3,16*(s.loops:Int),[]⟩ r.2=q at *;obtain⟨u1,u2⟩:=Us (k:=s.loops) (m:=C.length+1) (A:=fun t=>A t\/t=s.loops) ac (.inr rfl) ac C 0 {q.2 with ab:=q.1} (qg.setS ⟨q2,qm⟩) ac;have lu:=uL (16*(s.loops:Int)+1) C 0 {q.2 with ab:=q.1};generalize j0 (16*(s.loops:Int)+1) C 0 {q.2 with ab:=q.1}=u at *;have hun:u.loops=s.loops+1:=TL
 -- what is in u: nodes of s,quiet ones,variables of this loop
 have hu:∀y∈u.l,y∈s.l\/(y.op≠3/\y.op≠31)\/(y.op=3/\16*(s.loops:Int)<=y.aF/\y.aF<16*(s.loops:Int)+(C.length+1:Nat)):=fun y Y=>by
  rcases u2 y Y with Y|Y
  .rcases vq y Y with Y|⟨e1,O⟩
   .rcases p3.q y Y with Y|Y
    .exact .inl Y
    .exact .inr (.inl Y)
   .exact .inr (.inr ⟨e1,ac,ac⟩)
  .exact .inr (.inr Y)
 have U:∀y∈u.l,y.op=31->y∈s.l:=fun y Y e=>by
  rcases hu y Y with Z|Z|Z
  .exact Z
  .exact absurd e Z.2
  .rw[Z.1]at e;cases e
 have uP:LP u:=by
  refine⟨fun y Y e=>?_,fun y Y z I g M=>hP.l2 y (U y Y g) z (U z I M) g M,fun y Y e=>?_,fun y Y z I g M e=>?_⟩
  .have:=hP.l1 y (U y Y e) e;omega
  .rcases hu y Y with Z|Z|Z
   .have:=hP.l3 y Z e;omega
   .exact absurd e Z.1
   .omega
  .rcases hu z I with Z|Z|Z
   .exact hP.l4 y (U y Y g) z Z g M e
   .exact absurd M Z.1
   .have:=hP.l1 y (U y Y g) g;rw[l9 ac]at e;omega
 obtain⟨t,ht,t1,tP,t2,t3⟩:=IS _ x.a9 u hx.b7.1 ac u1 uP ac;have lt:=(mH c n).2.1 _ _ _ ht;rw[ht,cy];obtain⟨d,hd,d1,d2,d3⟩:=tS hc n x.value t hv ac t1;have ld:=eO c n _ _ _ hd;have dP:=tP.ql d3 (by rw[ld.n];exact aH _);rw[hd,cy];have le1:ey r.2 d.2:=(lq.le.setS q.1).trans (lu.1.trans (lt.1.trans ld.le));have tn:=t3.n;have hdn:s.loops+1<=d.2.loops:=by rw[ld.n];omega
 -- what is in d
 have hd31:∀y∈d.2.l,y.op=31->y∈s.l\/(s.loops:Int)+1<=y.aF:=fun y Y e=>by
  rcases t3.d y (d3.dX Y e)with Z|Z
  .exact .inl (U y Z e)
  .have:=Z.1 e;exact .inr ac
 have hd3:∀y∈d.2.l,y.op=3->y∈s.l\/(16*(s.loops:Int)<=y.aF/\y.aF<16*(s.loops:Int)+(C.length+1:Nat))\/16*((s.loops:Int)+1)<=y.aF:=fun y Y e=>by
  rcases t3.d y (d3.m3 Y e)with Z|Z
  .rcases hu y Z with Z|Z|Z
   .exact .inl Z
   .exact absurd e Z.1
   .exact .inr (.inl Z.2)
  .have:=Z.2 e;exact .inr (.inr ac)
 obtain⟨g1,g2,hkl⟩:=ziE (k:=s.loops) (dv:=d.1) ac ac J d1 d2 le1.l hwm ⟨31,s.loops,r.2.ab::(C.map fun i=>r.2.vars.getD i 0)++[d.1,d.2.ab]++C.map fun i=>d.2.vars.getD i 0⟩ rfl;have hop:(⟨31,s.loops,r.2.ab::(C.map fun i=>r.2.vars.getD i 0)++[d.1,d.2.ab]++C.map fun i=>d.2.vars.getD i 0⟩:Nd).op=31:=rfl;have him:(⟨31,s.loops,r.2.ab::(C.map fun i=>r.2.vars.getD i 0)++[d.1,d.2.ab]++C.map fun i=>d.2.vars.getD i 0⟩:Nd).aF=s.loops:=rfl;have lk:=dS ⟨31,s.loops,r.2.ab::(C.map fun i=>r.2.vars.getD i 0)++[d.1,d.2.ab]++C.map fun i=>d.2.vars.getD i 0⟩ d.2;generalize (⟨31,s.loops,r.2.ab::(C.map fun i=>r.2.vars.getD i 0)++[d.1,d.2.ab]++C.map fun i=>d.2.vars.getD i 0⟩:Nd)=N at *;have hq:(ai N d.2).2.l[(ai N d.2).1.toNat]?=some N:=Ko _ _;have V:∀y∈(ai N d.2).2.l,y∈d.2.l\/y=N:=fun y Y=>uJ.1 Y;have kn:(ai N d.2).2.loops=d.2.loops:=rfl;generalize ai N d.2=k at *;have hlv:ee (2*C.length+3:Nat)=((C.length+1:Nat):Int):=Be;have no31:∀y∈d.2.l,y.op=31->y.aF≠s.loops:=fun y Y e O=>by
  rcases hd31 y Y e with Z|Z
  .have:=hP.l1 y Z e;omega
  .omega
 have kP:LP k.2:=by
  refine⟨fun y Y e=>?_,fun y Y z I g M e=>?_,fun y Y e=>?_,fun y Y z I g M e=>?_⟩
  .rcases V y Y with Y|rfl
   .have:=dP.l1 y Y e;omega
   .omega
  .rcases V y Y with Y|rfl
   .rcases V z I with I|rfl
    .exact dP.l2 y Y z I g M e
    .exact absurd (e.trans him) (no31 y Y g)
   .rcases V z I with I|rfl
    .exact absurd (e.symm.trans him) (no31 z I M)
    .rfl
  .rcases V y Y with Y|rfl
   .have:=dP.l3 y Y e;omega
   .rw[hop]at e;cases e
  .rcases V z I with I|rfl
   .rcases V y Y with Y|rfl
    .exact dP.l4 y Y z I g M e
    .rw[hkl,hlv];rcases hd3 z I M with Z|Z|Z
     .have:=hP.l3 z Z M;rw[l9 ac]at e;omega
     .rw[GG ac];omega
     .rw[l9 ac]at e;omega
   .rw[hop]at M;cases M
 have kD:Dl s k.2:=by
  refine⟨fun y Y=>?_,ac⟩;rcases V y Y with Y|rfl
  .by_cases e:y.op=31
   .rcases hd31 y Y e with Z|Z
    .exact .inl Z
    .exact .inr ⟨fun _=>ac,fun O=>by rw[e]at O;cases O⟩
   .by_cases e3:y.op=3
    .rcases hd3 y Y e3 with Z|Z|Z
     .exact .inl Z
     .exact .inr ⟨fun O=>absurd O e,fun _=>ac⟩
     .exact .inr ⟨fun O=>absurd O e,fun _=>ac⟩
    .exact .inr ⟨fun O=>absurd O e,fun O=>absurd O e3⟩
  .exact .inr ⟨fun _=>ac,fun O=>by rw[hop]at O;cases O⟩
 -- the nodes behind it
 have hlr:gm k.2.l ⟨25,0,[k.1]⟩=2:=by rw[GJ (n:=0) g2.i hq ac (by rw[hkl,hlv];omega),ah rfl]
 obtain⟨f1,f2,f3⟩:=tR g1 (n:=⟨25,0,[k.1]⟩) hlr aE (jp _ _ aE gl au aE aE aE aE) au au (Ck g2.m);have lf:=dS ⟨25,0,[k.1]⟩ {k.2 with vars:=r.2.vars,ab:=r.2.ab};have ef:ai ⟨25,0,[k.1]⟩ {k.2 with vars:=r.2.vars}=((ai ⟨25,0,[k.1]⟩ {k.2 with vars:=r.2.vars,ab:=r.2.ab}).1,{ (ai ⟨25,0,[k.1]⟩ {k.2 with vars:=r.2.vars,ab:=r.2.ab}).2 with ab:=k.2.ab}):=rfl;rw[ef];generalize ai ⟨25,0,[k.1]⟩ {k.2 with vars:=r.2.vars,ab:=r.2.ab}=f at *;have L:r.2.l<+:f.2.l:=(le1.l.trans lk.le.l).trans lf.le.l;obtain⟨ct,m2,m3⟩:=zN f1 (p2.le L) f2 (J.st.le L) (.inr rfl);have lm:=iO r.1 f.1 r.2.ab f.2;simp only[ziC];generalize b9 r.1 f.1 r.2.ab f.2=m at *;have lkm:k.2.l<+:m.2.l:=lf.le.l.trans lm.le.l;have hqm:m.2.l[k.1.toNat]?=some N:=by
  obtain⟨z,I⟩:=lkm;rw[<-I,je,hq];have:=g2.i.hi;have:=g2.i.lo;omega
 obtain⟨z1,z2⟩:=Ut (lp:=k.1) (k:=r.1) (old:=r.2.vars) C 1 {m.2 with ab:=m.1} (ct.setS m2) (g2.le lkm) hqm (p2.le (L.trans lm.le.l)) (fun y Y=>(J.v y Y).le (L.trans lm.le.l)) hwm (aH _) (by rw[hkl,hlv];omega) ac;have lz:=wi k.1 r.1 r.2.vars C 1 {m.2 with ab:=m.1};have hzn:(jm k.1 r.1 r.2.vars C 1 {m.2 with ab:=m.1}).loops=d.2.loops:=by
  rw[lz.2.2.2];show m.2.loops=_;rw[lm.n,lf.n];exact kn
 have qz:Ql k.2 (jm k.1 r.1 r.2.vars C 1 {m.2 with ab:=m.1}):=(Ql.mk f3.q:Ql k.2 f.2).trans (m3.trans ⟨z2.q⟩);have hkz:k.2.loops<=(jm k.1 r.1 r.2.vars C 1 {m.2 with ab:=m.1}).loops:=by rw[hzn,kn];exact aH _
 have hzb:(jm k.1 r.1 r.2.vars C 1 {m.2 with ab:=m.1}).loops<=s.loops+dC x:=by rw[hzn,ld.n];omega
 exact⟨_,rfl,z1,kP.ql qz hkz,hzb,kD.trans (qz.dl hkz)⟩
def ziG(g:zd4 c){np:Nat}(IS:Cn c np n)(IW:Lg c np n):Lf c np (n+1):=fun A x s Z hsz h hP hw=>by
 have hs:=x.aT;have hw1:=Bl x;have hkd:=Z.kd;unfold oW;by_cases k1:x.aw=1
 .rw[ah k1];obtain⟨r,hr,J,M,U⟩:=tS g n x.value s (Z.value (.inl k1)) ac h;have I:=eO c n _ _ _ hr;have hn:=Z.name (.inl k1);have hvl:=J.i.vl;rw[hr,cy,ah ac];exact⟨_,rfl,J.setV (fun y V=>by
   rcases r0 V with V|rfl
   .exact J.v y V
   .exact M) (by rw[jv];exact hvl),(hP.ql U (kC I.n.symm)).setV _,KU,(U.dl (kC I.n.symm)).setV _⟩
 rw[af k1];by_cases k2:x.aw=2
 .rw[ah k2];obtain⟨r,hr,J,M,U⟩:=tS g n x.a6 s (Z.a6 k2) ac h
  obtain⟨v,hv,q1,q2,q3⟩:=tS g n x.value r.2 (Z.value (.inr (.inl k2))) ac J;have I:=eO c n _ _ _ hr;have lv:=eO c n _ _ _ hv;have hlt:=Z.arr k2;rw[hr,cy,hv,cy,aL hlt,cy];have ha:=g.a _ (cB hlt);generalize c.aa[dm (c.aa.map (·.name)) x.name]=ar at ha⊢;have p2':=M.le lv.le.l;obtain⟨L,a2⟩:=Up q1 (n:=ar.len) gl p2';have lc:=wd ar.len r.1 v.2;obtain⟨O,C,b3⟩:=ziy g L (p2'.le lc.le.l) (q2.le lc.le.l) hlt;have Y:=U.trans (q3.trans (a2.trans b3));have j:(gI ar.len r.1 v.2).loops=s.loops:=by rw[lc.n,lv.n,I.n]
  exact⟨_,rfl,O.setS C,(hP.ql Y TM).setS _,by show(gI ar.len r.1 v.2).loops<=_;omega,(Y.dl TM).setS _⟩
 rw[af k2];by_cases k3:x.aw=3
 .rw[ah k3];rw[af ac]at hw1;obtain⟨r,hr,J,M,U⟩:=tS g n x.value s (Z.value (.inr (.inr (.inl k3)))) ac h;have I:=eO c n _ _ _ hr;have hrn:=I.n;have rP:=hP.ql U (kC hrn.symm);obtain⟨a,ha,L,aP,a2,a3⟩:=IS A x.a9 r.2 Z.b7.1 ac J rP ac;have la:=(mH c n).2.1 _ _ _ ha;have hal:a.vars.length=c.aK.length:=L.i.vl;obtain⟨b,hb,O,bP,C,b3⟩:=IS A x.bl {a with ab:=r.2.ab,vars:=r.2.vars} Z.b7.2 ac ((L.setS (J.st.le la.1.l)).setV (fun y V=>(J.v y V).le la.1.l) J.i.vl) ⟨aP.l1,aP.l2,aP.l3,aP.l4⟩ (by show a.loops+_<=_;omega);have lb:=(mH c n).2.1 _ _ _ hb;have lab:a.l<+:b.l:=lb.1.l;have kb:IsM A b.l 1 r.1:=(M.le la.1.l).le lab;have hbl:=O.i.vl;obtain⟨m,hm,ct,m2⟩:=Ur (k:=r.1) (a:=a.vars) b.vars.length 0 b O kb (fun y V=>(L.v y V).le lab) hal ac;have lm:=xY _ _ _ _ _ _ hm;rw[hr,cy,ha,cy,hb,cy,hm,cy];obtain⟨t1,t2,t3⟩:=zN ct (kb.le lm.1.l) ((L.st.le lab).le lm.1.l) ct.st (.inr rfl);have lt:=iO r.1 a.ab m.ab m;have hbn:(b9 r.1 a.ab m.ab m).2.loops=b.loops:=by rw[lt.n,lm.2.2.2]
  have Y:=m2.trans t3;have b2':b.loops<=a.loops+dk x.bl:=C;have dab:Dl a b:=⟨b3.d,b3.n⟩;exact⟨_,rfl,t1.setS t2,(bP.ql Y (kC hbn.symm)).setS _,by show(b9 r.1 a.ab m.ab m).2.loops<=_;omega,((U.dl (kC hrn.symm)).trans (a3.trans (dab.trans (Y.dl (kC hbn.symm))))).setS _⟩
 rw[af k3];by_cases k4:x.aw=4
 .rw[ah k4];exact IW A x s Z k4 ac h hP hw
 rw[af k4];by_cases k5:x.aw=5
 .rw[ah k5];obtain⟨r,hr,J,M,U⟩:=tS g n x.value s (Z.value (.inr (.inr (.inr (.inr k5))))) ac h;have I:=eO c n _ _ _ hr;have hrn:=I.n;rw[hr,cy];obtain⟨O,C,b3⟩:=ziz J M;have Y:=U.trans b3;exact⟨_,rfl,O.setS C,(hP.ql Y (by show s.loops<=r.2.loops;omega)).setS _,by show r.2.loops<=_;omega,(Y.dl (by show s.loops<=r.2.loops;omega)).setS _⟩
 rw[af k5];by_cases k6:x.aw=6
 .rw[ah k6];obtain⟨r,hr,J,M,U⟩:=Uq g (n:=n) x.args s Z.args ac h;obtain⟨I,hlr⟩:=wh c n _ _ _ hr;obtain⟨c1,c2⟩:=Z.call k6;obtain⟨i,hi,hfe⟩:=Ft c.funcs x.to 0 c1;obtain⟨f,hfn⟩:=oU c.funcs hi;have hfe':dr c.funcs x.to 0=(i:Int):=by simpa using hfe
  have hn:=Z.name (.inr k6);have hvl:=J.i.vl;have hpar:r.1.length=f.params.length:=by
   rw[hlr,c2,pJ,hfe',fK,hfn];rfl
  rw[hr,cy,ah ⟨c1,ac⟩];simp only[];rw[hfe'];obtain⟨O,C,b3⟩:=ziB g J M hfn hpar;have lb:=dS ⟨30,i,r.2.ab::r.1⟩ r.2;generalize ai ⟨30,i,r.2.ab::r.1⟩ r.2=z at *;obtain⟨d1,d2,d3⟩:=ziA (O.setS C) C;have ld:=dS ⟨24,0,[z.1]⟩ {z.2 with ab:=z.1};generalize ai ⟨24,0,[z.1]⟩ {z.2 with ab:=z.1}=w at *;have Y:Ql s w.2:=U.trans (b3.trans d3.ofS);have j:w.2.loops=s.loops:=by rw[ld.n];show z.2.loops=_;rw[lb.n,I.n]
  refine⟨_,rfl,d1.setV (fun y V=>?_) (by rw[jv];exact d1.i.vl),(hP.ql Y (kC j.symm)).setV _,by show w.2.loops<=_;omega,(Y.dl (kC j.symm)).setV _⟩;rcases r0 V with V|rfl
  .exact d1.v y V
  .exact d2
 rw[af k6];by_cases k7:x.aw=7
 .rw[ah k7];have ht:=Z.dS k7;have hw:bS (16+x.n)=16+x.n:=eX ac ac;rw[hw];obtain⟨L,a2,a3⟩:=Cm h (n:=0) gl;obtain⟨O,C⟩:=Le L (t:=16+x.n) a2 ac ac;have lb:=wc (16+x.n) (ai ⟨1,0,[]⟩ s).1 (ai ⟨1,0,[]⟩ s).2;have j:(mh (16+x.n) (ai ⟨1,0,[]⟩ s).1 (ai ⟨1,0,[]⟩ s).2).loops=s.loops:=lb.n;have Y:=a3.trans C;exact⟨_,rfl,O,hP.ql Y (kC j.symm),ac,Y.dl (kC j.symm)⟩
 .omega
def ziH{np:Nat}(i:Lf c np n)(U:Cn c np n):Cn c np (n+1):=fun A l s J Z h Y L=>by
 cases l with
 |nil=>exact⟨s,by unfold iH;rfl,h,Y,ac,Dl.refl s⟩
 |cons x l=>
  obtain⟨z,J⟩:=J.cons;rw[bH]at Z;rw[dk]at L⊢;unfold iH;simp only[];obtain⟨r,hr,V,m,C,O⟩:=i A x s z ac h Y ac;obtain⟨t,M,q1,j,q2,I⟩:=U A l r J ac V m ac;rw[hr,cy,M];exact⟨t,rfl,q1,j,ac,O.trans I⟩
theorem Uu{c:Cx}(g:zd4 c){np:Nat}:∀n:Nat,Lf c np n/\Cn c np n/\Lg c np n
 |0=>⟨fun A x s _ h=>ac,fun A l s _ h=>ac,fun A x s z _ h=>by have:=x.aT;omega⟩
 |n+1=>by
  obtain⟨a,b,d⟩:=Uu g (np:=np) n;exact⟨ziG g b d,ziH a b,ziF g b⟩
section
variable {A:qR} {F:qQ} {np:Nat} {B:Nat -> Prop}
def LG.aK(h:LG ⟨A,F,N⟩ np B s)(J:V.length=N.length):LG ⟨A,F,V⟩ np B s:=⟨h.i.aK J,h.v,h.st⟩
def LG.push(h:LG ⟨A,F,N⟩ np B s){x:Int}(z:IsM B s.l 1 x)(J:V.length=N.length+1):LG ⟨A,F,V⟩ np B {s with vars:=s.vars++[x] }:=
 ⟨h.i.push z.i J,fun y Y=>by
  rcases nR.1 Y with Y|Y
  .exact h.v y Y
  .simp only[j5]at Y;subst Y;exact z,h.st⟩
theorem Uv(U:np<=6):∀(m k:Nat) (s:Bd) (N V:List b8),LG ⟨A,F,N⟩ np B s->V.length=N.length+m->k+m<=np->LG ⟨A,F,V⟩ np B (gg m k s)/\Ql s (gg m k s)
 |0,k,s,N,V,h,hl,_=>⟨h.aK hl,yf s⟩
 |m+1,k,s,N,V,h,hl,hk=>by
  have M:gm s.l ⟨2,k,[]⟩=1:=TS ac ac;obtain⟨Z,Y,j⟩:=tR h (n:=⟨2,k,[]⟩) M aE ⟨by show 0<=(2:Int)/\(2:Int)<256;decide,Cb,by show 0<=40;decide,fun _=>by show(k:Int)<np;omega,fun e=>by rcases e with e|e<;>exact absurd e (by show ¬(2:Int)=_;decide),fun e=>absurd e (by show ¬(2:Int)=30;decide)⟩ au au au;obtain⟨z,C⟩:=Uv U m (k+1) { (ai ⟨2,k,[]⟩ s).2 with vars:=(ai ⟨2,k,[]⟩ s).2.vars++[(ai ⟨2,k,[]⟩ s).1] } ([]::N) V (Z.push Y rfl) GF ac;exact⟨z,j.trans ⟨C.q⟩⟩
theorem Uw:∀(m:Nat) (s:Bd) (N V:List b8),LG ⟨A,F,N⟩ np B s->V.length=N.length+m->LG ⟨A,F,V⟩ np B (jn m s)/\Ql s (jn m s)
 |0,s,N,V,h,hl=>⟨h.aK hl,yf s⟩
 |m+1,s,N,V,h,hl=>by
  obtain⟨U,Y,j⟩:=Cm h (n:=0) gl;obtain⟨z,C⟩:=Uw m { (ai ⟨1,0,[]⟩ s).2 with vars:=(ai ⟨1,0,[]⟩ s).2.vars++[(ai ⟨1,0,[]⟩ s).1] } ([]::N) V (U.push Y rfl) GF;exact⟨z,j.trans ⟨C.q⟩⟩
def ziI:LG ⟨A,F,[]⟩ np B { (ai ⟨26,0,[]⟩ ⟨[],[],0,0⟩).2 with ab:=(ai ⟨26,0,[]⟩ ⟨[],[],0,0⟩).1}:=by
 have h:=La (A:=A) (F:=F) (np:=np);refine⟨h,(fun y Y=>by cases Y),h.st,?_⟩;exact Ci (l:=[]) (n:=⟨26,0,[]⟩) (fun i C=>by simp at C) (by rw[TT];decide) au au
end
def ziJ(h:zf4 p){f:Fu}(C:f∈p.funcs)(B:Nat->Prop):LG (nF p f) f.params.length B (ja f)/\LP (ja f)/\(ja f).loops=0:=by
 obtain⟨_,_,_,U⟩:=h.dF;obtain⟨j,l2,l3⟩:=U f C;have e0:=ziI (A:=p.aa) (F:=p.funcs) (np:=f.params.length) (B:=B);obtain⟨Z,V⟩:=Uv j f.params.length 0 _ [] f.params e0 au ac;obtain⟨O,M⟩:=Uw f.ao.length _ f.params (f.params++f.ao) Z KV;have c1:=La (A:=p.aa) (F:=p.funcs) (np:=f.params.length);obtain⟨I,m,_⟩:=K7 j f.params.length 0 _ [] f.params c1 au ac;obtain⟨_,J,_⟩:=K8 f.ao.length _ f.params (f.params++f.ao) I KV;have L:∀x∈(ja f).l,x.op≠3/\x.op≠31:=fun x z=>by
  rcases(V.trans M).q x z with i|i
  .rcases(uJ (l:=[]) (n:=⟨26,0,[]⟩)).1 i with g|rfl
   .cases g
   .exact⟨au,au⟩
  .exact i
 exact⟨O,⟨fun x z e=>absurd e (L x z).2,fun x z y Y e=>absurd e (L x z).2,fun x z e=>absurd e (L x z).1,fun x z y Y e=>absurd e (L x z).2⟩,J.trans m⟩
theorem Ux(h:zf4 p)(I:2*p.sz<n){f:Fu}(C:f∈p.funcs):
 ∃s v,iH (nF p f) n f.body (ja f)=some s/\fE (nF p f) n f.value s=some v/\LG (nF p f) f.params.length (fun _=>False) v.2/\IsM (fun _=>False) v.2.l 1 v.1/\LP v.2/\v.2.loops<=dk f.body:=by
 obtain⟨_,_,_,U⟩:=h.dF;obtain⟨m,l2,l3⟩:=U f C;obtain⟨hb,Z⟩:=h.body C;have hc:=h.cx C;have O:=nY C;have z:p.sz=1+eV p.aa+fg p.funcs:=rfl;have J:f.sz=1+f.name.length+dB f.params+dB f.ao+bH f.body+f.value.sz:=rfl;obtain⟨L,i,g3⟩:=ziJ h C fun _=>False
 obtain⟨s,q1,q2,j,q3,q4⟩:=(Uu hc (np:=f.params.length) n).2.1 _ f.body (ja f) hb ac L i ac;obtain⟨v,V,g,M,Y⟩:=tS hc n f.value s Z ac q2;have lv:=eO _ n _ _ _ V;exact⟨s,v,q1,V,g,M,j.ql Y (kC lv.n.symm),by rw[lv.n];omega⟩
theorem Lh:∀(l:qy) (t:qu),l.Nodup->(∀x∈l,x.op=31->0<=x.aF/\x.aF<16)->(∀x∈l,∀y∈l,x.op=31->y.op=31->x.aF=y.aF->x=y)->(∀x∈l,x.op=31->t.getD x.aF.toNat 0<=0)->t.length=16 ->
 ∃Z,jh l t=some Z/\∀k:Nat,0<Z.getD k 0->(Z.getD k 0=t.getD k 0)\/∃x∈l,x.op=31/\x.aF=k/\Z.getD k 0=ee x.aj.length
 |[],t,_,_,_,_,_=>⟨t,rfl,fun k _=>.inl rfl⟩
 |n::l,t,hnd,h0,h1,h2,hl=>by
  rw[Cc]at hnd;have Y:=fun x z=>h0 x (ev n z);have O:∀x∈l,∀y∈l,x.op=31->y.op=31->x.aF=y.aF->x=y:=fun x z y V=>h1 x (ev n z) y (ev n V);rw[jh];by_cases c:n.op=31
  .have I:=h2 n ei c;have hr:=h0 n ei c;rw[ah c,af ac];have g:∀k:Nat,(t.set n.aF.toNat (ee n.aj.length)).getD k 0=if n.aF.toNat=k then ee n.aj.length else t.getD k 0:=fun k=>by
    rw[cQ,yG,cQ];split
    .rw[ah ac];rfl
    .rfl
   obtain⟨Z,e,J⟩:=Lh l (t.set n.aF.toNat (ee n.aj.length)) hnd.2 Y O (fun x z e=>by
    have C:=Y x z e;rw[g,af (fun q=>hnd.1 (by rw[h1 n ei x (ev n z) c e ac];exact z))];exact h2 x (ev n z) e) (by rw[jv];exact hl)
   refine⟨Z,e,fun k j=>?_⟩;rcases J k j with m|⟨x,z,m⟩
   .rw[g]at m;split at m
    .exact .inr ⟨n,ei,c,ac,m⟩
    .exact .inl m
   .exact .inr ⟨x,ev n z,m⟩
  .rw[af c];obtain⟨Z,e,J⟩:=Lh l t hnd.2 Y O (fun x z=>h2 x (ev n z)) hl;refine⟨Z,e,fun k j=>?_⟩;rcases J k j with m|⟨x,z,m⟩
   .exact .inl m
   .exact .inr ⟨x,ev n z,m⟩
theorem ziK(J:LP s)(g:s.l.Nodup)(L:s.loops<=16):jW s.l=true:=by
 have Z:∀k:Nat,(List.replicate 16 (0:Int)).getD k 0=0:=fun k=>by
  rw[cQ,y1];split<;>rfl
 obtain⟨t,e,V⟩:=Lh s.l (List.replicate 16 0) g (fun x z e=>by have:=J.l1 x z e;omega) J.l2 (fun x z e=>by rw[Z];exact Int.le_refl _) rfl;unfold jW;rw[e];simp only;rw[gM];intro y Y;unfold oS;by_cases c:y.op=3
 .have m:=J.l3 y Y c;by_cases I:0<t.getD (y.aF.tdiv 16).toNat 0
  .rcases V _ I with U|⟨x,z,ex,O,M⟩
   .rw[U,Z]at I;omega
   .have:=J.l4 x z y Y ex c (by rw[O];have:=JM m.1 (show(0:Int)<=16 by omega);omega);rw[M];rw[eA (show ¬ee x.aj.length<=y.aF.tmod 16 by omega),pC];rfl
  .rw[eA I,pC,em];rfl
 .rw[eA c,em,em];rfl
theorem jd.zero(h:jd l (fun _=>False) k):eY l k=0:=
 ER fun t=>by
  rw[Bp];cases e:(eY l k).testBit t with
  |false=>rfl
  |true=>exact(h t e).elim
theorem ziL(p:Pr):(fD p).any (oQ 90)=false:=rfl
theorem ziM{l:qB}(J:∀i,cM l 38 i=(pE KJ).sp i)(C:jt l 38=true){cs:qt}(V:n<59)(g:cn S n H cs p.cells)(I:p.sz<2^36):
 aM prog (ay pls l) 38 [.agg cs] H fun v H'=>v=.int .i64 (fx p)/\Icy S H H':=by
 obtain⟨us,Z,Y⟩:=g;refine Bu (x:=p) (enc:=fD) (ok:=fun p=>p.sz<2^36) (out:=fun p=>.int .i64 (fx p)) (us:=[.agg us]) (n:=n+1) pH (fun i=>by rw[J];rfl) C ziL I ac ⟨⟨us,Z,rfl⟩,trivial⟩ ?_;show [AV.agg (us.map (cp 59))]=_;rw[Y 59 ac];rfl
def tyV7.tyF:=ad @ec (ad @cA (ad @dw (ad @gQ (ad @jA (ad @iL (ad @rB (ad @rC (ad @fX (ad @tk (ad @vu (ad @fU (ad @fL (ad @fM (ad @fb (ad @nf (@lJ))))))))))))))))
open tyV7
noncomputable def Uy:{c:SC // aC 43 (f17.body.getD .skip)=c}:=by
 refine⟨?_,?_⟩;rotate_left
 .simp only[f17,bz,aC,bw,bt,bA,bB,Nat.blt,Nat.ble];rfl
def eD(g:Gr):Fu:=⟨g.name,[],[],[],.mk 1 0 [] 0 []⟩
def gK(u:Un):Pr:=⟨u.aa,u.funcs.map eD⟩
def iI(u:Un):Bool:=decide (fx (gK u)=0)&&u.funcs.all (gh u)
structure zlf (u:Un):Prop where
 a:u.aa.length<2^30
 f:u.funcs.length<2^30
 g:∀g∈u.funcs,gZ g.ag
 z:(gK u).sz<2^36
noncomputable def Uz:En:=⟨39,false,bQ GD sP fun x=>.bool (gh x.u x.g)⟩
variable(ρ:Nat->Int)
def ziN:co prog ρ Uz:=cz fun x z=>zii ρ x z
noncomputable def Co:qB:=[pE KJ,Uz]
def ziO:eU prog ρ Co:=⟨y4 (zho ρ),ziN ρ,trivial⟩
def ziP(s:qx):dU prog 72 [(0,.aq s),(4,.agg [.int .i64 1,.int .i64 0,.aq [],.int .i64 0,.ak])]=some (.agg [.aq s,.ak,.ak,.ak,.int .i64 1,.int .i64 0,.aq [],.int .i64 0,.ak]):=aB
def ziQ:dU prog 70 [(0,.int .i64 1)]=some (.agg [.int .i64 1,.int .i64 0,.aq [],.int .i64 0,.ak]):=aB
def ziR(a:AV)(xs:List qt)(h:a=.aE xs):dU prog 25 [(0,a)]=some (.agg [a,.ak]):=by subst h;kernel_rfl
def ziS(H:Hp)(s:qx):et prog H 23 1 [(0,.agg [.aq s,.ak,.ak,.ak,.int .i64 1,.int .i64 0,.aq [],.int .i64 0,.ak])]=some (.sl H.next 0 1 9,H.alloc (.cells [.aq s,.ak,.ak,.ak,.int .i64 1,.int .i64 0,.aq [],.int .i64 0,.ak] 0 true)):=aB
def ziT(g:Gr):cn S 2 H [.aq g.name,.ak,.ak,.ak,.int .i64 1,.int .i64 0,.aq [],.int .i64 0,.ak] (eD g).cells:=
 .cons (.aq _) (.cons .ak (.cons .ak (.cons .ak (.cons (.int _ _) (.cons (.int _ _) (.cons (.aq _) (.cons (.int _ _) (.cons .ak .nil))))))))
set_option maxRecDepth 100000 in
theorem ziU(u:Un)(hu:zlf u):bF prog ρ 17 [.agg u.cells] (.bool (iI u)):=dE fit (pls:=pls) (ziO ρ) (.cons (.agg (xu _)) .nil) (.bool _) (by
 obtain⟨ha,hf,hg,hz⟩:=hu;have hw:zd0 (ay pls Co) 17:=db (fun _=>rfl) rfl;have hkeep:(ay pls Co).keep 17=false:=rfl;have bP:=ziR (.aE (u.aa.map Ar.cells)) _ rfl;refine a0 (M:=43) (rs:=[.tmp 2]) (hw.call _) hw.aG hw.az func17 rfl rfl Uy.2 rfl ?_;dsimp only[Uy,aW,Nat.reduceAdd];refine eh ?_;refine bY [1,2,3,12,13] [0] 14 u.funcs.length (fun i E O=>∃V,O.get 1=some (.cells [.aE (u.aa.map Ar.cells),V] 0 true)/\eC (fun k=>2<=k) 2 O 9 V (((u.funcs.map eD).take i).map Fu.cells)) eE ⟨.ak,BE,.inl ⟨rfl,rfl⟩⟩ ?_;rintro i E O hi I hrH z hsI ⟨V,g1,rf⟩;(try simp only[bq,aT,aN,aG,aR,Nat.reduceBEq, *]at I);(try simp only[bq,aT,aN,aG,aR,Nat.reduceBEq, *]at hrH);(try simp only[aZ,br,bX,bK,Nat.reduceAdd]at z);have hB0:(0 == O.next)=false:=aX ac;have hC0:(O.next == 0)=false:=aX ac;have ni:2<=O.next:=z
 obtain⟨hf1,hf2⟩:=rf.one;by_cases hlt:i<u.funcs.length
 .have hlt':(i:Int)<u.funcs.length:=by omega
  have hgx:u.funcs[i]?=some u.funcs[i]:=aL hlt;have htk:((u.funcs.map eD).take (i+1)).map Fu.cells=((u.funcs.map eD).take i).map Fu.cells++[(eD u.funcs[i]).cells]:=by
   rw[sd,eu,hgx,tg];rfl
  have C:(((u.funcs.map eD).take i).map Fu.cells).length=i:=by rw[cN,mP,cN];omega
  generalize u.funcs[i]=g at *;have g1a:∀b c,((O.alloc b).set O.next c).get 1=some (.cells [.aE (u.aa.map Ar.cells),V] 0 true):=fun b c=>by rw[aA,af ac,aD,af ac];exact g1
  generalize hcells:((u.funcs.map eD).take i).map Fu.cells=fs at *;have gh0:=@ziQ;have gh1:=@ziP;have gh2:=@ziS;repeat' (first
   |(apply aj ?_;clear hK K)|apply aQ ?_|(apply aV ?_ ?_<;>(intro hb hbp;try(cases hb;done)))|(apply ak fun K hK=>?_)|fail)
  generalize Z:Hp.alloc (Hp.set (O.alloc _) _ _) _=Hb;have nb:Hb.next=O.next+2:=by rw[<-Z];rfl
  have Y:∀k,k<O.next->Hb.get k=O.get k:=fun k U=>by rw[<-Z,aD,af FE,aA,af ac,aD,af ac]
  have gr:Hb.get (O.next+1)=some (.cells [.aq g.name,.ak,.ak,.ak,.int .i64 1,.int .i64 0,.aq [],.int .i64 0,.ak] 0 true):=by rw[<-Z,aD,ah eN]
  clear Z;have hfq:∀k,k<=1->∀o m z',V≠.sl k o m z':=fun k U o m z' e=>by
   rcases rf with⟨h1,_⟩|⟨q,im,rows,h1,h2,h3,_⟩
   .rw[h1]at e;cases e
   .rw[h1]at e;simp only[AV.sl.injEq]at e;omega
  obtain⟨H7,a7,r7,n7,q7⟩:=Ks (P:=prog) (t:=23) underlying23 IZ NJ NK rfl aB (S':=fun k=>2<=k)
   (rf.keep (S':=fun k=>2<=k) (H':=Hb) (fun _ _ h=>h) ac fun k _ U=>Y k U) (fun _ _ h=>h) ac (r:=O.next+1) (imm:=0) (row:=[.aq g.name,.ak,.ak,.ak,.int .i64 1,.int .i64 0,.aq [],.int .i64 0,.ak]) (w:=(eD g).cells) gr rfl rfl (ziT g)
   TN TN
  rw[C]at a7 r7;have g17:H7.get 1=some (.cells [.aE (u.aa.map Ar.cells),V] 0 true):=by rw[q7 1 ac (hfq 1 ac),Y 1 ac];exact g1
  have g07:H7.get 0=O.get 0:=by rw[q7 0 ac (hfq 0 ac),Y 0 ac]
  have n7':O.next<=H7.next:=ac
  clear Y gr q7 hfq nb;refine eh ?_;refine⟨ac,aK,aK,bG,KX,?_⟩;refine⟨.sl Hb.next 0 (i+1) 9,BE,?_⟩;rw[htk];exact r7.keep (fun _ _ h=>h) (aH _) fun k U _=>jU
 .have hlt':¬(i:Int)<u.funcs.length:=by omega
  have hti:(u.funcs.map eD).take i=u.funcs.map eD:=fI KW;rw[hti]at rf;have hcw:cn (fun k=>2<=k) 3 O [.aE (u.aa.map Ar.cells),V] (gK u).cells:=.cons (.bN ⟨.map fun x _=>x.pure,trivial⟩ fun m=>FN (f:=Ar.cells) Ar.wk u.aa m) (.cons rf.rd .nil);have ag:cI 2 [.aE (u.aa.map Ar.cells),V]=some (.agg [.aE (u.aa.map Ar.cells),V]):=rfl;repeat' (first
   |(apply aj ?_;clear hK K)|apply aQ ?_|(apply aV ?_ ?_<;>(intro hb hbp;try(cases hb;done)))|(apply ak fun K hK=>?_)|fail)
  refine qd ?_;refine aY ?_ (ziM (l:=Co) (fun _=>rfl) rfl ac hcw hz);rintro v H4 ⟨rfl,hy⟩;have g04:H4.get 0=O.get 0:=hy.out 0 ac;have n4:=hy.next
  clear hcw g1 rf;dsimp only[aU];by_cases hc:fx (gK u)=0
  .have hU:iI u=u.funcs.all (gh u):=by rw[iI,hc];rfl
   refine fy (fun hb hbp=>?_);refine bY [1,32,33] [0] 34 u.funcs.length (fun j E Hj=>∀k,k<j->∀g,u.funcs[k]?=some g->gh u g=true) eE (fun k U=>ac) ?_;rintro j E3 Hj hj I hrH z hsI hJ;(try simp only[bq,aT,aN,aG,aR,Nat.reduceBEq, *]at I);(try simp only[bq,aT,aN, *]at hrH);(try simp only[aZ,br,bX,bK,Nat.reduceAdd]at z);have hB0:(0 == Hj.next)=false:=aX ac;have hC0:(Hj.next == 0)=false:=aX ac;by_cases L:j<u.funcs.length
   .have hlt3':(j:Int)<u.funcs.length:=by omega
    have hgx:u.funcs[j]?=some u.funcs[j]:=aL L;have J:=cB L;have hgk:=hg _ J;generalize u.funcs[j]=g at *;have kv:∀H,aM prog (ay pls Co) 39 [.agg u.cells,.agg g.cells] H fun v H'=>v=.bool (gh u g)/\H'=H:=fun H=>bZ (enc:=sP) (ok:=GD) (out:=fun x=>.bool (gh x.u x.g)) TI (x:=⟨u,g⟩) rfl ⟨hgk,ha,hf⟩;by_cases hv:gh u g=true
    .repeat' (first
      |(apply aj ?_;clear hK K)|apply aQ ?_|(apply ch ?_;first|refine Rx.k (kv _) ?_)|(apply aV ?_ ?_<;>(intro hb hbp;try(cases hb;done)))|(apply ak fun K hK=>?_)|fail)
     refine⟨ac,aK,aK,bG,KX,?_⟩;intro k U g' hg';by_cases e:k=j
     .subst e;rw[hgx]at hg';cases hg';exact hv
     .exact hJ k ac g' hg'
    .have hv':gh u g=false:=by simpa using hv
     have hR:u.funcs.all (gh u)=false:=by
      rw[KQ];exact⟨g,J,hv⟩
     rw[hR]at hU;clear hJ hR;repeat' (first
      |(apply aj ?_;clear hK K)|apply aQ ?_|(apply ch ?_;first|refine Rx.k (kv _) ?_)|(apply aV ?_ ?_<;>(intro hb hbp;try(cases hb;done)))|(apply ak fun K hK=>?_)|fail)
     all_goals refine qq ?_
     rw[hU]
   .have hlt3':¬(j:Int)<u.funcs.length:=by omega
    have hR:u.funcs.all (gh u)=true:=gM.2 fun g hm=>by
     obtain⟨k,U,e⟩:=ta hm;exact hJ k ac g (by rw[aL U,e])
    rw[hR]at hU;clear hJ hR;refine wG ?_;all_goals refine qq ?_
    rw[hU]
  .have hU:iI u=false:=by rw[iI,eA hc];rfl
   refine Hn ?_;all_goals refine qq ?_
   rw[hU])
noncomputable def UA:En:=⟨17,true,bQ zlf (fun u=>[.agg u.cells]) fun u=>.bool (iI u)⟩
def ziV:co prog ρ UA:=cz fun u z=>ziU ρ u z
end Go.Proofs.YtbflaciihaijgaaGreat
