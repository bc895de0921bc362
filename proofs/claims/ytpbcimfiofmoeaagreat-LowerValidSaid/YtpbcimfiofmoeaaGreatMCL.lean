/- Parts: LoK, SpecM, SpecN, SpecT, Rg, G1, G2, G2r, G2s, G2p, RowN, NdM, LoA, LoB. -/
import Derived.Test.YtpbcimfiofmoeaaGreatMCK
set_option linter.unusedSimpArgs false
set_option linter.unusedVariables false
set_option linter.unusedSectionVars false
set_option linter.defProp false
set_option maxHeartbeats 32000000
namespace Go.Ab
set_option maxRecDepth 20000
open Go
theorem DH{P:Prop}(h:P:=by rw[U.s];decide):P:=h
theorem ib{P:Prop}(h:P:=by first|rfl|trivial):P:=h
theorem Am{P:Prop}(h:P:=by rw[Hp.get_set,if_pos rfl];rfl):P:=h
theorem Pf{P:Prop}(h:P:=by rw[List.drop_zero,List.length_take];omega):P:=h
theorem Pg{P:Prop}(h:P:=by rw[List.flatten_append,List.length_append];omega):P:=h
theorem An{P:Prop}(h:P:=by rw[List.length_map]):P:=h
theorem DI{P:Prop}(h:P:=by unfold uI;(repeat' split)<;>omega):P:=h
theorem wj{P:Prop}(h:P:=by rw[Hp.get_set,if_neg o]):P:=h
theorem IP{P:Prop}(h:P:=by have:=h.sS k o;omega):P:=h
theorem Ph{P:Prop}(h:P:=by simp only[List.all_cons,List.all_nil,hone];rfl):P:=h
theorem gc{P:Prop}(h:P:=by simp only[zli];omega):P:=h
theorem mM{P:Prop}(h:P:=by simp only[zk9,zli];omega):P:=h
theorem rW{P:Prop}(h:P:=by rw[List.length_map,show zmr=70368744177664 from rfl];omega):P:=h
theorem Ao{P:Prop}(h:P:=by have:=(Z.sS _ e).1;omega):P:=h
theorem IQ{P:Prop}(h:P:=by rw[K _ ac];exact h.a):P:=h
theorem IR{P:Prop}(h:P:=by rw[K _ ac];exact h.f):P:=h
theorem IT{P:Prop}(h:P:=by rw[K _ ac];exact h.t):P:=h
theorem IU{P:Prop}(h:P:=by rw[K _ ac];exact h.n):P:=h
theorem rX{P:Prop}(h:P:=by rw[zkZ,if_pos dT]):P:=h
def Ap:=@Go.IntKind.wrap_u8
def Pi:=@Int.fdiv_eq_ediv_of_nonneg
def Aq:=@Go.IntKind.wrap_u64
def As:=@List.prefix_refl
def wl:=@Nat.lt_of_le_of_lt
def DJ:=@List.not_mem_nil
def zfZ:=@or_false
def wm:=@Int.tmod_lt_of_pos
def wn:=@List.all_append
def zf0:=And.intro @fX.{0} @DJ.{0}
def jp:=And.intro zf0 @zfZ
def kL:=And.intro @jl.{0,0} @aL.{0}
end Go.Ab
namespace Go.Proofs.YtpbcimfiofmoeaaGreat
set_option maxRecDepth 20000
open Go Go.Ab
section
structure NdR (n:Nd):Prop where
 op:0<=n.op/\n.op<256
 imm:-9223372036854775808<=n.imm/\n.imm<9223372036854775808
 kids:∀k∈n.kids,0<=k/\k<2^60
 len:n.kids.length<2^30
theorem Pj(n:Int):ml n 0=n%256:=by
 rw[ml,Ap];simp[Int.fdiv_one]
theorem Pk(n:Int)(i:Nat):ml n (i+1)=ml (n/256) i:=by
 rw[ml,ml];have e:(2:Int)^ (8*(i+1))=256*2^ (8*i):=by
  rw[Nat.mul_add,Int.pow_add];omega
 have p:(0:Int)<=2^ (8*i):=Int.le_of_lt (Int.pow_pos aE);rw[e,Pi _ ac,Pi _ p,Int.ediv_ediv_of_nonneg aE]
theorem ztB(n:Int)(i:Nat):0<=ml n i/\ml n i<256:=by
 rw[ml,Ap];omega
theorem Pm:∀(k:Nat) (n m:Int),0<=n->n<256^ k->0<=m->m<256^ k->(∀i,i<k->ml n i=ml m i)->n=m
 |0,n,m,h1,h2,h3,h4,_=>by simp at h2 h4;omega
 |k+1,n,m,h1,h2,h3,h4,h=>by
  have e:(256:Int)^ (k+1)=256*256^ k:=by rw[Int.pow_succ];omega
  rw[e]at h2 h4;have Z:=h 0 ac;rw[Pj,Pj]at Z;have ih:=Pm k (n/256) (m/256) ac (by generalize (256:Int)^ k=P at *;omega) ac (by generalize (256:Int)^ k=P at *;omega) (fun i I=>by rw[<-Pk,<-Pk];exact h (i+1) ac);omega
theorem Pn:∀{l m:List Int},(∀x∈l,0<=x/\x<256)->(∀x∈m,0<=x/\x<256)->sZ l=sZ m->l=m
 |[],[],_,_,_=>rfl
 |[],_::_,_,_,h=>by simp[sZ]at h
 |_::_,[],_,_,h=>by simp[sZ]at h
 |a::l,b::m,hl,hm,h=>by
  simp only[sZ,dM,ea]at h;have Z:=hl a ee;have j:=hm b ee;have e:a=b:=by
   have:=jm UInt8.toNat h.1;rw[UInt8.toNat_ofNat',UInt8.toNat_ofNat']at this;omega
  rw[e,Pn (fun x hx=>hl x (el _ hx)) (fun x hx=>hm x (el _ hx)) h.2]
theorem Po(n:Int)(k:Nat):∀x∈zm4 n k,0<=x/\x<256:=fun x hx=>by
 obtain⟨i,_,rfl⟩:=kV.1 hx;exact ztB n i
theorem Pp(n:Nd):∀x∈ur n,0<=x/\x<256:=fun x hx=>by
 rw[ur,fX,mX,FR]at hx;rcases hx with rfl|hx|⟨k,_,hx⟩
 .rw[Ap];omega
 .exact Po _ _ x hx
 .exact Po _ _ x hx
theorem Pq{n m:Int}(h1:0<=n)(h2:n<18446744073709551616)(z:0<=m)(Y:m<18446744073709551616)(h:zm4 n 8=zm4 m 8):n=m:=
 Pm 8 n m h1 ac z ac fun i I=>List.map_inj_left.1 h i (lZ.2 I)
theorem uD(n:Int):0<=IntKind.wrap .u64 n/\IntKind.wrap .u64 n<18446744073709551616:=by rw[Aq];omega
theorem Ps:∀{M ms:List Int},(∀k∈M,0<=k/\k<2^60)->(∀k∈ms,0<=k/\k<2^60)->(M.flatMap fun k=>zm4 (IntKind.wrap .u64 k) 8)=(ms.flatMap fun k=>zm4 (IntKind.wrap .u64 k) 8)->M=ms
 |[],[],_,_,_=>rfl
 |[],m::ms,_,_,h=>by
  have:=jm List.length h;rw[uf,fj,znT]at this;simp at this;omega
 |k::M,[],_,_,h=>by
  have:=jm List.length h;rw[uf,fj,znT]at this;simp at this
 |k::M,m::ms,hk,hm,h=>by
  rw[uf,uf]at h;obtain⟨Z,j⟩:=List.append_inj h (by rw[znT,znT]);have e:=Pq (uD k).1 (uD k).2 (uD m).1 (uD m).2 Z;have J:=hk k ee;have V:=hm m ee;rw[Aq,Aq]at e;have U:k=m:=ac;rw[U,Ps (fun x hx=>hk x (el _ hx)) (fun x hx=>hm x (el _ hx)) j]
theorem Pt{a b:Nd}(O:NdR a)(C:NdR b)(h:jj a=jj b):a=b:=by
 have h:=Pn (Pp a) (Pp b) h;rw[ur,ur,ea]at h;obtain⟨m,j⟩:=h;obtain⟨z,Y⟩:=List.append_inj j (by rw[znT,znT]);have U:=Pq (uD _).1 (uD _).2 (uD _).1 (uD _).2 z;have M:=Ps O.kids C.kids Y;have o1:=O.op;have o2:=C.op;have i1:=O.imm;have i2:=C.imm;rw[Ap,Ap]at m;rw[Aq,Aq]at U;obtain⟨I,Z,K⟩:=a;obtain⟨V,J,o⟩:=b;simp only at *;rw[show I=V by omega,show Z=J by omega,M]
theorem ztC(x:Nd)(l:List Nd)(n:Nd):hY (x::l) n=if x=n then 0 else hY l n+1:=by
 unfold hY;rw[List.findIdx_cons];by_cases h:x=n<;>simp[h]
theorem DK(l:List Nd)(n:Nd):hY l n<=l.length:=by unfold hY;exact List.findIdx_le_length
theorem Pu{l:List Nd}{n:Nd}:hY l n<l.length↔n∈l:=by
 unfold hY;rw[List.findIdx_lt_length];simp
theorem Pv{l:List Nd}{n:Nd}(h:hY l n<l.length):l[hY l n]?=some n:=by
 rw[aT h];have:=List.findIdx_getElem (p:=fun x=>decide (x=n)) (xs:=l) (w:=h);simp only[jJ]at this;exact jm some this
theorem Pw(l:List Nd)(n:Nd):(jB l n).length=if hY l n<l.length then l.length else l.length+1:=by
 unfold jB;split<;>simp[*]
theorem tl(l:List Nd)(n:Nd):l<+:jB l n:=by
 unfold jB;split
 .exact As l
 .exact List.prefix_append l [n]
theorem IV(l:List Nd)(n:Nd):(jB l n)[hY l n]?=some n:=by
 unfold jB;split
 .rename_i h;exact Pv h
 .rename_i h;have:=DK l n;have e:hY l n=l.length:=ac;rw[e,nK (aB _),oG];rfl
theorem tm{l:List Nd}{n x:Nd}:x∈jB l n↔x∈l\/x=n:=by
 unfold jB;split
 .rename_i h;have:=Pu.1 h;constructor
  .exact .inl
  .rintro(h|rfl)
   .exact h
   .exact this
 .simp
theorem zpa(l:List Nd)(n:Nd):hY l n<(jB l n).length:=by
 have:=DK l n;rw[Pw];split<;>omega
def atV(l:List Nd)(i:Nat):List (zly×Int):=(l.zipIdx i).map fun p=>(jj p.1,(p.2:Int))
theorem zwb(x:Nd)(l:List Nd)(i:Nat):atV (x::l) i=(jj x,(i:Int))::atV l (i+1):=by rw[atV,Fw];rfl
theorem Px{n:Nd}(J:NdR n):∀(l:List Nd) (i:Nat),(∀x∈l,NdR x)->iY (atV l i) (jj n)=decide (hY l n<l.length)/\(hY l n<l.length->eT (atV l i) (jj n)=((i+hY l n:Nat):Int))/\(¬hY l n<l.length->∀x,setV (atV l i) (jj n) x=atV l i++[(jj n,x)])
 |[],i,_=>⟨rfl,fun h=>by simp[hY]at h,fun _ x=>rfl⟩
 |x::l,i,hl=>by
  obtain⟨m,Z,z⟩:=Px J l (i+1) fun y hy=>hl y (el _ hy)
  rw[ztC,zwb,eK];by_cases e:x=n
  .subst e;refine⟨by simp[iY],fun _=>by simp[eT],fun h=>lY⟩
  .have j:¬jj n=jj x:=fun h=>e (Pt J (hl x ee) h).symm;rw[af e];refine⟨?_,fun h=>?_,fun h y=>?_⟩
   .simp only[iY,j];rw[m];simp
   .have:=Z ac;simp only[eT,j,dL];rw[this];congr 1;omega
   .have:=z ac y;simp only[setV,j,dL,this,lI]
theorem zwc(l:List Nd)(n:Nd):atV l 0++[(jj n,(l.length:Int))]=atV (l++[n]) 0:=by
 simp[atV,List.zipIdx_append]
structure zmu (a b:Bd):Prop where
 l:a.l<+:b.l
 n:a.loops<=b.loops
theorem zmu.refl(a:Bd):zmu a a:=⟨As _,aB _⟩
def qp:=@zmu.refl
theorem zmu.trans{a b c:Bd}(h:zmu a b)(k:zmu b c):zmu a c:=⟨h.l.trans k.l,dc h.n k.n⟩
def DL:=@zmu.trans
structure Fin (s:Bd):Prop where
 r:∀x∈s.l,NdR x
 l:s.l.length<2^36
 n:s.loops<2^36
theorem Fin.le{a b:Bd}(h:Fin b)(k:zmu a b):Fin a:=⟨fun x hx=>h.r x (k.l.subset hx),wl k.l.length_le h.l,wl k.n h.n⟩
structure Lv (a b:Bd):Prop where
 le:zmu a b
 v:b.vars=a.vars
 n:b.loops=a.loops
theorem Lv.refl(a:Bd):Lv a a:=⟨qp a,rfl,rfl⟩
theorem Lv.trans{a b c:Bd}(h:Lv a b)(k:Lv b c):Lv a c:=⟨h.le.trans k.le,k.v.trans h.v,k.n.trans h.n⟩
theorem Lv.setS{a b:Bd}(h:Lv a b)(x:Int):Lv a {b with state:=x}:=⟨⟨h.le.l,h.le.n⟩,h.v,h.n⟩
theorem zmu.setS{a b:Bd}(h:zmu a b)(x:Int):zmu a {b with state:=x}:=⟨h.l,h.n⟩
theorem zmu.setV{a b:Bd}(h:zmu a b)(x:List Int):zmu a {b with vars:=x}:=⟨h.l,h.n⟩
theorem zmh(n:Nd)(s:Bd):Lv s (zkW n s).2:=⟨⟨tl s.l n,aB _⟩,rfl,rfl⟩
theorem zm0(c a b:Int)(s:Bd):Lv s (zlr c a b s).2:=by
 unfold zlr;split
 .exact Lv.refl s
 .exact zmh _ s
theorem tp(t v:Int)(s:Bd):Lv s (pm t v s):=(zmh _ s).setS _
theorem tq(t v:Int)(s:Bd):Lv s (hZ t v s):=(zmh _ s).trans ((zmh _ _).trans (tp _ _ _))
theorem DM(v:Int)(s:Bd):Lv s (rm v s):=(zmh _ s).trans ((zmh _ _).trans (tp _ _ _))
theorem zmp(c:Cx):∀(n:Nat) (x:Ex) (s:Bd) (r:Int×Bd),fu c n x s=some r->Lv s r.2
 |0,_,_,_,h=>by simp[fu]at h
 |n+1,x,s,r,h=>by
  have m:=zmp c n;unfold fu at h;split at h
  .cases h;exact zmh _ s
  split at h
  .obtain⟨v,_,rfl⟩:=sA.1 h;exact Lv.refl s
  split at h
  .simp only[kL]at h;obtain⟨k,_,M,Z,a,_,rfl⟩:=h;exact(m _ _ _ Z).trans ((tq _ _ _).trans (zmh _ _))
  split at h
  .simp only[kL]at h;obtain⟨k0,_,zlE,Y,k1,_,M,Z,V,_,U,j,rfl⟩:=h;have a:=(m _ _ _ Y).trans (m _ _ _ Z);have b:=(a.setS zlE.2.state).trans (m _ _ _ j);exact(b.trans ((zm0 _ _ _ _).trans (zm0 _ _ _ _))).setS _
  .simp only[jl]at h;obtain⟨k0,_,zlE,Y,h⟩:=h;have a:=m _ _ _ Y;split at h
   .cases h;exact a.trans (zmh _ _)
   .simp only[kL]at h;obtain⟨k1,_,M,Z,rfl⟩:=h;have b:=a.trans (m _ _ _ Z);refine Lv.trans ?_ (zmh _ _);split
    .exact b.trans (DM _ _)
    .exact b
theorem tt(c:Cx)(n:Nat):∀(l:List Ex) (s:Bd) (r:List Int×Bd),ro c n l s=some r->Lv s r.2/\r.1.length=l.length
 |[],s,r,h=>by cases h;exact⟨Lv.refl s,rfl⟩
 |x::l,s,r,h=>by
  unfold ro at h;simp only[kL]at h;obtain⟨M,m,Z,j,rfl⟩:=h;obtain⟨a,b⟩:=tt c n l _ _ j;exact⟨(zmp c n _ _ _ m).trans a,by simp[b]⟩
theorem wo(c:Int)(a:List Int):∀(k i:Nat) (s r:Bd),oh c a k i s=some r->zmu s r/\r.state=s.state/\r.vars.length=s.vars.length/\r.loops=s.loops
 |0,i,s,r,h=>by cases h;exact⟨qp s,rfl,rfl,rfl⟩
 |k+1,i,s,r,h=>by
  unfold oh at h;simp only[jl]at h;obtain⟨x,_,y,_,h⟩:=h;have e:=wo c a k (i+1) _ _ h;have m:=zm0 c x y s;have U:(zlr c x y s).2.state=s.state:=by unfold zlr;split<;>rfl
  refine⟨(m.le.setV _).trans e.1,e.2.1.trans U,?_,e.2.2.2.trans m.n⟩;rw[e.2.2.1,jd,m.v]
theorem tu(base:Int):∀(U:List Nat) (j:Nat) (s:Bd),zmu s (jh base U j s)/\(jh base U j s).state=s.state/\(jh base U j s).vars.length=s.vars.length/\(jh base U j s).loops=s.loops
 |[],j,s=>⟨qp s,rfl,rfl,rfl⟩
 |w::U,j,s=>by
  unfold jh;have e:=tu base U (j+1) { (zkW ⟨3,base+j,[]⟩ s).2 with vars:=(zkW ⟨3,base+j,[]⟩ s).2.vars.set w (zkW ⟨3,base+j,[]⟩ s).1};refine⟨((zmh _ s).le.setV _).trans e.1,e.2.1,?_,e.2.2.2⟩;rw[e.2.2.1,jd];rfl
theorem uE(lp c:Int)(old:List Int):∀(U:List Nat) (j:Nat) (s:Bd),zmu s (gL lp c old U j s)/\(gL lp c old U j s).state=s.state/\(gL lp c old U j s).vars.length=s.vars.length/\(gL lp c old U j s).loops=s.loops
 |[],j,s=>⟨qp s,rfl,rfl,rfl⟩
 |w::U,j,s=>by
  unfold gL;simp only[];have m:=(zmh ⟨25,j,[lp]⟩ s).trans (zm0 c (zkW ⟨25,j,[lp]⟩ s).1 (old.getD w 0) (zkW ⟨25,j,[lp]⟩ s).2);have Z:(zlr c (zkW ⟨25,j,[lp]⟩ s).1 (old.getD w 0) (zkW ⟨25,j,[lp]⟩ s).2).2.state=s.state:=by unfold zlr;split<;>rfl
  generalize zlr c (zkW ⟨25,j,[lp]⟩ s).1 (old.getD w 0) (zkW ⟨25,j,[lp]⟩ s).2=q at *;have e:=uE lp c old U (j+1) {q.2 with vars:=q.2.vars.set w q.1};refine⟨(m.le.setV _).trans e.1,e.2.1.trans Z,?_,e.2.2.2.trans m.n⟩;rw[e.2.2.1,jd,m.v]
theorem nA(c:Cx):∀n:Nat,(∀x s r,ol c n x s=some r->zmu s r/\r.vars.length=s.vars.length)/\(∀l s r,gE c n l s=some r->zmu s r/\r.vars.length=s.vars.length)/\(∀x s r,pn c n x s=some r->zmu s r/\r.vars.length=s.vars.length)
 |0=>⟨fun _ _ _ h=>by simp[ol]at h,fun _ _ _ h=>by simp[gE]at h,fun _ _ _ h=>by simp[pn]at h⟩
 |n+1=>by
  obtain⟨I,K,o⟩:=nA c n;refine⟨fun x s r h=>?_,fun l s r h=>?_,fun x s r h=>?_⟩
  .unfold ol at h;split at h
   .simp only[jl]at h;obtain⟨v,Z,h⟩:=h;split at h
    .cases h;have a:=zmp c n _ _ _ Z;exact⟨a.le.setV _,by rw[jd,a.v]⟩
    .cases h
   split at h
   .simp only[kL]at h;obtain⟨i,Z,v,j,a,_,rfl⟩:=h;have a:=(zmp c n _ _ _ Z).trans ((zmp c n _ _ _ j).trans ((tq a.len i.1 v.2).trans (zmh ⟨28,cP (c.arrays.map (·.name)) x.name,[(hZ a.len i.1 v.2).state,i.1,v.1]⟩ _)));exact⟨a.le.setS _,by show List.length (Bd.vars _)=_;rw[a.v]⟩
   split at h
   .simp only[kL]at h;obtain⟨q,Z,a,j,b,z,m,h4,rfl⟩:=h;have Y:=zmp c n _ _ _ Z;have O:=K _ _ _ j;have C:=K _ _ _ z;have U:=wo _ _ _ _ _ _ h4;have J:=zm0 q.1 a.state m.state m;have k:zmu a b:=⟨C.1.l,C.1.n⟩;refine⟨(Y.le.trans (O.1.trans (k.trans (U.1.trans J.le)))).setS _,?_⟩;show(zlr q.1 a.state m.state m).2.vars.length=_;rw[J.v,U.2.2.1,C.2];show q.2.vars.length=_;rw[Y.v]
   split at h
   .exact o _ _ _ h
   split at h
   .simp only[kL]at h;obtain⟨v,Z,rfl⟩:=h;have a:=(zmp c n _ _ _ Z).trans (zmh ⟨29,0,[v.2.state,v.1]⟩ v.2);exact⟨a.le.setS _,by show List.length (Bd.vars _)=_;rw[a.v]⟩
   split at h
   .simp only[jl]at h;obtain⟨V,Z,h⟩:=h;split at h
    .cases h;have a:=(tt c n _ _ _ Z).1;have b:=a.le.trans (zmh ⟨30,zl2 c.funcs x.to 0,V.2.state::V.1⟩ V.2).le;refine⟨zmu.setV (DL (b.setS _) (zmh _ _).le) _,?_⟩;rw[jd];exact jm List.length a.v
    .cases h
   split at h
   .cases h;have a:=(zmh ⟨1,0,[]⟩ s).trans (tp (bE (16+x.n)) (zkW ⟨1,0,[]⟩ s).1 _);exact⟨a.le,by rw[a.v]⟩
   .cases h;exact⟨qp s,rfl⟩
  .unfold gE at h;cases l with
   |nil=>cases h;exact⟨qp s,rfl⟩
   |cons x l=>
    simp only[jl]at h;obtain⟨q,Z,j⟩:=h;have a:=I _ _ _ Z;have b:=K _ _ _ j;exact⟨a.1.trans b.1,b.2.trans a.2⟩
  .unfold pn at h;simp only[kL]at h;obtain⟨q,Z,b,_,t,j,d,z,rfl⟩:=h;have Y:=zmp c n _ _ _ Z;have M:zmu s q.2:=⟨Y.le.l,dc (dQ _) Y.le.n⟩;have p:=zmh ⟨3,16*(s.loops:Int),[]⟩ q.2;have O:=tu (16*(s.loops:Int)+1) (zmV b) 0 { (zkW ⟨3,16*(s.loops:Int),[]⟩ q.2).2 with state:=(zkW ⟨3,16*(s.loops:Int),[]⟩ q.2).1};have C:=K _ _ _ j;have U:=zmp c n _ _ _ z;have a1:zmu s d.2:=M.trans ((p.le.setS _).trans (O.1.trans (C.1.trans U.le)));refine⟨?_,?_⟩
   .refine DL ?_ (uE _ _ _ _ _ _).1;refine zmu.setS ?_ _;refine DL (DL ?_ (zmh _ _).le) (zm0 _ _ _ _).le;refine zmu.setV ?_ _;exact a1.trans (zmh _ _).le
   .rw[(uE _ _ _ _ _ _).2.2.1];show(zlr _ _ _ _).2.vars.length=_;rw[(zm0 _ _ _ _).v];show q.2.vars.length=_;rw[Y.v]
theorem DN(b:List Bool)(k i:Nat):(b.set k true).getD i false=if k=i/\k<b.length then true else b.getD i false:=by
 rw[dx,oJ,dx];by_cases e:k=i
 .subst e;by_cases h:k<b.length
  .simp[h]
  .simp[h]
 .simp[e]
theorem DO{j:List zly}{n:Nat}{x:St}{l:List St}{b U:List Bool}(h:gU j (n+1) (x::l) b=some U):
 ∃M C J,M=(if x.kind=1\/x.kind=6 then b.set (cP j x.name) true else b)/\(x.kind=1\/x.kind=6->cP j x.name<b.length)/\gU j n x.thn M=some C/\gU j n x.els C=some J/\gU j n l J=some U:=by
 unfold gU at h;simp only[]at h;split at h
 .cases h
 .rename_i Z;simp only[jl]at h;obtain⟨C,Y,J,z,V⟩:=h;refine⟨_,C,J,rfl,fun o=>?_,Y,z,V⟩;by_cases c:cP j x.name<b.length
  .exact c
  .exact absurd ⟨o,ac⟩ Z
theorem tw(j:List zly):∀(n:Nat) (l:List St) (b b':List Bool),gU j n l b=some b'->∀i,b'.getD i false=false->b.getD i false=false
 |0,_,_,_,h,_,_=>by simp[gU]at h
 |n+1,[],b,b',h,i,hi=>by cases h;exact hi
 |n+1,x::l,b,b',h,i,hi=>by
  obtain⟨M,C,J,e,o,Z,z,Y⟩:=DO h;have:=tw j n _ _ _ Z i (tw j n _ _ _ z i (tw j n _ _ _ Y i hi));rw[e]at this;split at this
  .rw[DN]at this;split at this
   .cases this
   .exact this
  .exact this
theorem DP(j:List zly):∀(n m:Nat) (l:List St) (b b' c Y:List Bool),gU j n l b=some b'->gU j m l c=some Y->∀i,b.getD i false=false->Y.getD i false=false->b'.getD i false=false
 |0,_,_,_,_,_,_,h,_,_,_,_=>by simp[gU]at h
 |n+1,0,_,_,_,_,_,_,h,_,_,_=>by simp[gU]at h
 |n+1,m+1,[],b,b',c,Y,h,k,i,hb,hc=>by cases h;exact hb
 |n+1,m+1,x::l,b,b',c,Y,h,k,i,hb,hc=>by
  obtain⟨I,b2,b3,e,hk,h2,h3,h4⟩:=DO h;obtain⟨c1,c2,c3,e',J,Z,V,U⟩:=DO k;have o:=tw j m _ _ _ U i hc;have O:=tw j m _ _ _ V i o;have K:=tw j m _ _ _ Z i O;have r1:I.getD i false=false:=by
   rw[e];split
   .rename_i C;rw[e',am C,DN]at K;split at K
    .cases K
    .rename_i z;rw[DN,af (fun M=>z ⟨M.1,J C⟩)];exact hb
   .exact hb
  exact DP j n m _ _ _ _ _ h4 U i (DP j n m _ _ _ _ _ h3 V i (DP j n m _ _ _ _ _ h2 Z i r1 O) o) hc
def tx(j:List zly)(l:List St)(i:Nat):Prop:=∃m b b',gU j m l b=some b'/\b'.getD i false=false
theorem tx.cons{j:List zly}{x:St}{l:List St}{i:Nat}(h:tx j (x::l) i):(x.kind=1\/x.kind=6->i≠cP j x.name)/\tx j x.thn i/\tx j x.els i/\tx j l i:=by
 obtain⟨m,b,b',h,I⟩:=h;cases m with
 |zero=>simp[gU]at h
 |succ m=>
  obtain⟨M,O,b3,e,U,Z,z,Y⟩:=DO h;have o:=tw j m _ _ _ Y i I;have V:=tw j m _ _ _ z i o;have K:=tw j m _ _ _ Z i V;refine⟨fun C J=>?_,⟨m,_,_,Z,V⟩,⟨m,_,_,z,o⟩,⟨m,_,_,Y,I⟩⟩;rw[e,am C,DN,am ⟨J.symm,U C⟩]at K;cases K
theorem Py(base:Int):∀(U:List Nat) (j:Nat) (s:Bd) (i:Nat),i∉U->(jh base U j s).vars[i]?=s.vars[i]?
 |[],j,s,i,_=>rfl
 |w::U,j,s,i,h=>by
  rw[fX,not_or]at h;show(jh base U (j+1) { (zkW ⟨3,base+j,[]⟩ s).2 with vars:=(zkW ⟨3,base+j,[]⟩ s).2.vars.set w (zkW ⟨3,base+j,[]⟩ s).1}).vars[i]?=_;rw[Py base U (j+1) _ i h.2,oJ,af (fun e=>h.1 e.symm)];rfl
theorem Pz(lp c:Int)(old:List Int):∀(U:List Nat) (j:Nat) (s:Bd) (i:Nat),i∉U->(gL lp c old U j s).vars[i]?=s.vars[i]?
 |[],j,s,i,_=>rfl
 |w::U,j,s,i,h=>by
  rw[fX,not_or]at h;show(gL lp c old U (j+1) { (zlr c (zkW ⟨25,j,[lp]⟩ s).1 (old.getD w 0) (zkW ⟨25,j,[lp]⟩ s).2).2 with vars:=(zlr c (zkW ⟨25,j,[lp]⟩ s).1 (old.getD w 0) (zkW ⟨25,j,[lp]⟩ s).2).2.vars.set w (zlr c (zkW ⟨25,j,[lp]⟩ s).1 (old.getD w 0) (zkW ⟨25,j,[lp]⟩ s).2).1}).vars[i]?=_;rw[Pz lp c old U (j+1) _ i h.2,oJ,af (fun e=>h.1 e.symm),(zm0 _ _ _ _).v];rfl
theorem PA(c:Int)(a:List Int):∀(k j:Nat) (s r:Bd),oh c a k j s=some r->∀(i:Nat),a[i]?=s.vars[i]?->r.vars[i]?=s.vars[i]?
 |0,j,s,r,h,i,_=>by cases h;rfl
 |k+1,j,s,r,h,i,e=>by
  unfold oh at h;simp only[jl]at h;obtain⟨x,hx,y,hy,h⟩:=h;have M:((zlr c x y s).2.vars.set j (zlr c x y s).1)[i]?=s.vars[i]?:=by
   rw[(zm0 c x y s).v,oJ];split
   .rename_i J;subst J;rw[hx,hy]at e;simp only[aL]at e;subst e;have Z:j<s.vars.length:=by
     by_cases q:j<s.vars.length
     .exact q
     .rw[lD ac]at hy;cases hy
    rw[am Z,hy,zlr,am rfl]
   .rfl
  have:=PA c a k (j+1) _ _ h i (by rw[e];exact M.symm);rw[this];exact M
theorem ztD{b:List Bool}{i:Nat}(h:b.getD i false=false):i∉zmV b:=fun V=>by
 unfold zmV at V;have:=(ua.1 V).2;rw[h]at this;cases this
theorem ztE{b:List Bool}{i:Nat}(h:i∉zmV b):b.getD i false=false:=by
 by_cases c:i<b.length
 .cases C:b.getD i false with
  |false=>rfl
  |true=>exact absurd (ua.2 ⟨lZ.2 c,C⟩) h
 .rw[dx,lD ac];rfl
theorem PB(c:Cx):∀n:Nat,(∀x s r,ol c n x s=some r->∀i,(x.kind=1\/x.kind=6->i≠cP c.names x.name)->tx c.names x.thn i->tx c.names x.els i->r.vars[i]?=s.vars[i]?) /\
 (∀l s r,gE c n l s=some r->∀i,tx c.names l i->r.vars[i]?=s.vars[i]?)/\(∀x s r,pn c n x s=some r->∀i,tx c.names x.thn i->r.vars[i]?=s.vars[i]?)
 |0=>⟨fun _ _ _ h=>by simp[ol]at h,fun _ _ _ h=>by simp[gE]at h,fun _ _ _ h=>by simp[pn]at h⟩
 |n+1=>by
  obtain⟨J,K,I⟩:=PB c n;refine⟨fun x s r h i o Y V=>?_,fun l s r h i M=>?_,fun x s r h i Y=>?_⟩
  .unfold ol at h;split at h
   .rename_i Z;simp only[jl]at h;obtain⟨v,hv,h⟩:=h;split at h
    .cases h;show(v.2.vars.set _ _)[i]?=_;rw[oJ,af (fun e=>o (.inl Z) e.symm),(zmp c n _ _ _ hv).v]
    .cases h
   split at h
   .simp only[kL]at h;obtain⟨q,Z,v,j,a,_,rfl⟩:=h;have a:=(zmp c n _ _ _ Z).trans ((zmp c n _ _ _ j).trans ((tq a.len q.1 v.2).trans (zmh ⟨28,cP (c.arrays.map (·.name)) x.name,[(hZ a.len q.1 v.2).state,q.1,v.1]⟩ _)));show(Bd.vars _)[i]?=_;rw[a.v]
   split at h
   .simp only[kL]at h;obtain⟨q,Z,a,j,b,z,m,h4,rfl⟩:=h;have e1:=(zmp c n _ _ _ Z).v;have e2:=K _ _ _ j i Y;have C:b.vars[i]?=q.2.vars[i]?:=K _ _ _ z i V;have e4:=PA _ _ _ _ _ _ h4 i (by rw[e2,C]);show(zlr q.1 a.state m.state m).2.vars[i]?=_;rw[(zm0 _ _ _ _).v,e4,C,e1]
   split at h
   .exact I _ _ _ h i Y
   split at h
   .simp only[kL]at h;obtain⟨v,Z,rfl⟩:=h;have a:=(zmp c n _ _ _ Z).trans (zmh ⟨29,0,[v.2.state,v.1]⟩ v.2);show(Bd.vars _)[i]?=_;rw[a.v]
   split at h
   .rename_i U;simp only[jl]at h;obtain⟨av,Z,h⟩:=h;split at h
    .cases h;show(List.set _ _ _)[i]?=_;rw[oJ,af (fun e=>o (.inr U) e.symm)];exact jm (·[i]?) (tt c n _ _ _ Z).1.v
    .cases h
   split at h
   .cases h;have a:=(zmh ⟨1,0,[]⟩ s).trans (tp (bE (16+x.n)) (zkW ⟨1,0,[]⟩ s).1 _);rw[a.v]
   .cases h;rfl
  .unfold gE at h;cases l with
   |nil=>cases h;rfl
   |cons x l=>
    simp only[jl]at h;obtain⟨q,Z,j⟩:=h;obtain⟨a1,a2,a3,a4⟩:=M.cons;rw[K _ _ _ j i a4,J _ _ _ Z i a1 a2 a3]
  .unfold pn at h;simp only[kL]at h;obtain⟨q,Z,b,hb,t,j,d,z,rfl⟩:=h;obtain⟨m,b0,b1,k1,k2⟩:=Y;have O:=DP c.names n m _ _ _ _ _ hb k1 i (by rw[dx,xr];split<;>rfl) k2;rw[Pz _ _ _ _ _ _ i (ztD O)];show(zlr _ _ _ _).2.vars[i]?=_;rw[(zm0 _ _ _ _).v];show q.2.vars[i]?=_;rw[(zmp c n _ _ _ Z).v]
theorem zf8{c:Cx}{n:Nat}{x:St}{b:List Bool}{base:Int}{s t:Bd}{v:List Int}{d:Int×Bd}{k:Nat}(U:s.vars=v)(h2:gU c.names n x.thn (List.replicate k false)=some b)(z:gE c n x.thn (jh base (zmV b) 0 s)=some t)(Y:fu c n x.value t=some d):∀i,i∉zmV b->d.2.vars[i]?=v[i]?:=fun i I=>by
 rw[(zmp c n _ _ _ Y).v,(PB c n).2.1 _ _ _ z i ⟨n,_,_,h2,ztE I⟩,Py _ _ _ _ i I,U]
def fO(l:List Nd)(n:Nd):Int:=match zmU l.length (zmC l l.length) n.kids with
 |none=>0
 |some s=>if zmo n.op s&&eN l n then jL n s else 0
theorem zwd{op:Int}{s:List Int}(h:zmo op s=true)(e:op=25):s.length=1:=by
 subst e;unfold zmo at h;have:eu 25=(1,true):=aE;rw[this]at h;simp only[sB,dL]at h;split at h
 .cases h
 .omega
theorem PC(l:List Nd)(n:Nd):jf (l++[n]) l.length=fO l n:=by
 rw[xz ax];have j:(l++[n]).take l.length=l:=List.take_left;have U:zmC (l++[n]) l.length=zmC l l.length:=by
  have:=HA (l:=l++[n]) (m:=l.length) (i:=l.length) (aB _);rw[j]at this;exact this.symm
 have J:(l++[n])[l.length]?=some n:=by rw[nK (aB _),oG];rfl
 unfold kY fO;rw[U,J];simp only;cases o:zmU l.length (zmC l l.length) n.kids with
 |none=>rfl
 |some s=>
  simp only;by_cases c:zmo n.op s=true
  .have e:eN l n=eN (l++[n]) n:=by
    have:=MW (l:=l++[n]) (m:=l.length) (n:=n) fun Z=>by
     have M:=zP o;have Y:=zwd c Z;cases V:n.kids with
     |nil=>rw[V,Y]at M;simp at M
     |cons k K=>
      refine⟨k,K,rfl,?_⟩;have:=ul o k (by rw[V];exact ee);omega
    rw[j]at this;exact this
   rw[e]
  .have O:zmo n.op s=false:=by simpa using c
   rw[O,gy,gy]
theorem PD{l:List Nd}:∀{M:List Int},(∀k∈M,0<=k/\k<l.length/\jf l k≠0)->zmU l.length (zmC l l.length) M=some (M.map (jf l))
 |[],_=>rfl
 |k::M,h=>by
  obtain⟨m,Z,z⟩:=h k ee;obtain⟨k,rfl⟩:=l7 m;have e:=C3 (l:=l) (i:=l.length) (j:=k) ac (aB _);rw[zmU,ja,e,af ac,PD fun q V=>h q (el _ V)];rfl
theorem nC{l:List Nd}{n:Nd}(h:∀k∈n.kids,0<=k/\k<l.length/\jf l k≠0):fO l n=if zmo n.op (n.kids.map (jf l))&&eN l n then jL n (n.kids.map (jf l))else 0:=by
 unfold fO;rw[PD h]
structure IsT (l:List Nd) (t:Int) (k:Int):Prop where
 lo:0<=k
 hi:k<l.length
 s:jf l k=t
theorem IsT.le{l J:List Nd}{t k:Int}(h:IsT l t k)(M:l<+:J):IsT J t k:=by
 obtain⟨m,rfl⟩:=M;obtain⟨Z,j,z⟩:=h;obtain⟨k,rfl⟩:=l7 Z;exact⟨Z,by rw[fj];omega,by rw[MX ac];exact z⟩
section
variable {l:List Nd}
theorem PE(n:Int):fO l ⟨1,n,[]⟩=1:=by
 rw[nC ax];simp[zmo,eu,iG,zmH,eN,jL]
theorem PF{n:Int}(Z:0<=n)(h1:n<=5):fO l ⟨2,n,[]⟩=1:=by
 rw[nC ax];simp[zmo,eu,iG,zmH,eN,jz,jL,Z,h1]
theorem DQ{n:Int}(Z:0<=n)(h1:n<=255):fO l ⟨3,n,[]⟩=if n.tmod 16=0 then 2 else 1:=by
 rw[nC ax];simp[zmo,eu,iG,zmH,eN,jz,jL,Z,h1]
theorem PG:fO l ⟨26,0,[]⟩=2:=by
 rw[nC ax];simp[zmo,eu,iG,zmH,eN,jz,jL]
theorem PH{op a b:Int}(O:IsT l 1 a)(C:IsT l 1 b)(Z:4<=op)(h1:op<=19):fO l ⟨op,0,[a,b]⟩=1:=by
 have q:∀k:Int,(k<4\/19<k)->¬op=k:=fun k o e=>ac;have U:eu op=(2,true):=by
  unfold eu;rw[af ac,af ac,af ac,af ac,af ac,am ⟨Z,h1⟩]
 rw[nC (fun k o=>by
  simp only[jp]at o;rcases o with rfl|rfl
  .exact⟨O.lo,O.hi,by rw[O.s];decide⟩
  .exact⟨C.lo,C.hi,by rw[C.s];decide⟩)]
 simp only[dM,mh,O.s,C.s];have v:zmo op [1,1]=true:=by
  unfold zmo;rw[U,af ax,af ax,af (q 31 ac),af (q 30 ac),af (fun h=>q 22 ac h.1)];unfold iG;rw[af (q 22 ac),af (by have:=q 23 ac;have:=q 27 ac;have:=q 29 ac;omega),af (q 28 ac),af (q 24 ac),af (q 25 ac)];rfl
 have i:eN l ⟨op,0,[a,b]⟩=true:=by
  unfold eN jz;simp only[];rw[af (q 1 ac),af (q 27 ac),af (q 2 ac),af (q 3 ac),af (by have:=q 23 ac;have:=q 28 ac;omega),af (q 30 ac),af (q 31 ac),af (q 25 ac)];rfl
 rw[v,i];simp only[vt,dB];unfold jL;simp only[];rw[af (q 31 ac),af ac,af (q 22 ac),af (fun h=>q 3 ac h.1),af (fun h=>q 25 ac h.1)]
theorem PI{op a:Int}(O:IsT l 1 a)(Z:op=20\/op=21):fO l ⟨op,0,[a]⟩=1:=by
 rw[nC (fun k o=>by
  simp only[jp]at o;subst o;exact⟨O.lo,O.hi,by rw[O.s];decide⟩)]
 simp only[dM,mh,O.s];rcases Z with rfl|rfl<;>simp[zmo,eu,iG,zmH,eN,jz,jL]
theorem PJ{t c a b:Int}(z:IsT l 1 c)(O:IsT l t a)(C:IsT l t b)(j:t=1\/t=2):fO l ⟨22,0,[c,a,b]⟩=t:=by
 rw[nC (fun k o=>by
  simp only[jp]at o;rcases o with rfl|rfl|rfl
  .exact⟨z.lo,z.hi,by rw[z.s];decide⟩
  .exact⟨O.lo,O.hi,by rw[O.s];omega⟩
  .exact⟨C.lo,C.hi,by rw[C.s];omega⟩)]
 simp only[dM,mh,O.s,C.s,z.s];rcases j with rfl|rfl<;>simp[zmo,eu,iG,zmH,eN,jz,jL]
theorem IX{x y a b:Int}(Z:x≠0)(z:y≠0)(O:IsT l x a)(C:IsT l y b):∀k∈[a,b],0<=k/\k<l.length/\jf l k≠0:=fun k o=>by
 simp only[jp]at o;rcases o with rfl|rfl
 .exact⟨O.lo,O.hi,by rw[O.s];exact Z⟩
 .exact⟨C.lo,C.hi,by rw[C.s];exact z⟩
theorem PK{n s a:Int}(U:IsT l 2 s)(O:IsT l 1 a)(Z:0<=n)(h1:n<=3):fO l ⟨23,n,[s,a]⟩=1:=by
 rw[nC (IX aE aE U O)];simp[U.s,O.s,zmo,eu,iG,zmH,eN,jz,jL,Z,h1]
theorem PL{n s a:Int}(U:IsT l 2 s)(O:IsT l 1 a)(Z:1<=n)(h1:n<=1000016):fO l ⟨27,n,[s,a]⟩=2:=by
 rw[nC (IX aE aE U O)];simp[U.s,O.s,zmo,eu,iG,zmH,eN,jL,Z,h1]
theorem PM{s a:Int}(U:IsT l 2 s)(O:IsT l 1 a):fO l ⟨29,0,[s,a]⟩=2:=by
 rw[nC (IX aE aE U O)];simp[U.s,O.s,zmo,eu,iG,zmH,eN,jz,jL]
theorem PN{n s a b:Int}(U:IsT l 2 s)(O:IsT l 1 a)(C:IsT l 1 b)(Z:0<=n)(h1:n<=3):fO l ⟨28,n,[s,a,b]⟩=2:=by
 rw[nC (fun k o=>by
  simp only[jp]at o;rcases o with rfl|rfl|rfl
  .exact⟨U.lo,U.hi,DH⟩
  .exact⟨O.lo,O.hi,by rw[O.s];decide⟩
  .exact⟨C.lo,C.hi,by rw[C.s];decide⟩)]
 simp[U.s,O.s,C.s,zmo,eu,iG,zmH,eN,jz,jL,Z,h1]
theorem PO{s:Int}(U:IsT l 2 s):fO l ⟨24,0,[s]⟩=1:=by
 rw[nC (fun k o=>by
  simp only[jp]at o;subst o;exact⟨U.lo,U.hi,DH⟩)]
 simp[U.s,zmo,eu,iG,zmH,eN,jz,jL]
theorem DR:∀{j:List Int},(∀a∈j,IsT l 1 a)->j.map (jf l)=List.replicate j.length 1
 |[],_=>rfl
 |a::j,h=>by
  rw[dM,(h a ee).s,DR fun x hx=>h x (el _ hx)];rfl
theorem PP{n s:Int}{j:List Int}(U:IsT l 2 s)(O:∀a∈j,IsT l 1 a)(M:j.length<=6)(Z:0<=n)(h1:n<=7):fO l ⟨30,n,s::j⟩=2:=by
 rw[nC (fun k o=>by
  rcases fX.1 o with rfl|o
  .exact⟨U.lo,U.hi,DH⟩
  .exact⟨(O k o).lo,(O k o).hi,by rw[(O k o).s];decide⟩)]
 simp only[dM,U.s,DR O];have v:zmo 30 (2::List.replicate j.length 1)=true:=by
  have a:eu 30=(-1,true):=aE;unfold zmo;rw[a];simp only[sB,dL];rw[af ac,af ac,am trivial];simp only[eK,qU,zI,List.tail_cons,lW];refine⟨⟨⟨ac,ac⟩,trivial⟩,?_⟩;rw[iP];intro x hx;rw[zJ hx];rfl
 have i:eN l ⟨30,n,s::j⟩=true:=by simp[eN,jz,Z,h1]
 rw[v,i];simp[jL]
theorem PQ{n s d st:Int}{j bs:List Int}(U:IsT l 2 s)(O:∀a∈j,IsT l 1 a)(hd:IsT l 1 d)(Y:IsT l 2 st)(C:∀a∈bs,IsT l 1 a)(M:j.length=bs.length)(V:j.length<=15)(K:0<=n)(h1:n<=15):fO l ⟨31,n,s::j++[d,st]++bs⟩=3:=by
 rw[nC (fun k Z=>by
  simp only[mX,jp]at Z;rcases Z with((rfl|Z)|rfl|rfl)|Z
  .exact⟨U.lo,U.hi,DH⟩
  .exact⟨(O k Z).lo,(O k Z).hi,by rw[(O k Z).s];decide⟩
  .exact⟨hd.lo,hd.hi,by rw[hd.s];decide⟩
  .exact⟨Y.lo,Y.hi,by rw[Y.s];decide⟩
  .exact⟨(C k Z).lo,(C k Z).hi,by rw[(C k Z).s];decide⟩)]
 have z:(s::j++[d,st]++bs).map (jf l)=2::(List.replicate j.length 1++1::2::List.replicate j.length 1):=by
  simp only[l0,dM,mh,U.s,hd.s,Y.s,DR O,DR C,M];simp
 simp only[];rw[z];generalize hn:j.length=m at *;have J:(2::(List.replicate m (1:Int)++1::2::List.replicate m 1)).length=2*m+3:=b9;have v:zmo 31 (2::(List.replicate m 1++1::2::List.replicate m 1))=true:=by
  have a:eu 31=(-1,true):=aE;unfold zmo;rw[a];simp only[sB,dL];rw[af ac,am trivial];have I:=zqB (2::(List.replicate m (1:Int)++1::2::List.replicate m 1)) ac ac;have e1:(2*m+3)/2=m+1:=ac;rw[J]at I⊢;rw[I,e1];have o:∀k,vP (List.replicate k (1:Int))=true:=fun k=>by
   rw[vP,iP];intro x hx;rw[zJ hx];rfl
  have h1:((2::(List.replicate m (1:Int)++1::2::List.replicate m 1)).drop 1).take (m+1)=List.replicate (m+1) 1:=by
   rw[zC,fH,List.take_append,qU,gl ax,show m+1-m=1 by omega];rw[Hl];rfl
  have h2:(2::(List.replicate m (1:Int)++1::2::List.replicate m 1)).getD (m+1+1) 0=2:=by
   rw[List.getD_cons_succ,dx,nK ax,qU,show m+1-m=1 by omega];rfl
  have h3:(2::(List.replicate m (1:Int)++1::2::List.replicate m 1)).drop (m+1+2)=List.replicate m 1:=by
   rw[zC,List.drop_append,qU,BH ax,ly,show m+1+1-m=2 by omega];rfl
  rw[h1,h2,h3,o,o];have e4:eC (((2*m+3:Nat):Nat):Int)<=16:=zG;simp only[zI,lW];refine⟨⟨⟨ac,ac⟩,e4⟩,⟨⟨⟨trivial,trivial⟩,trivial⟩,trivial⟩⟩
 have i:eN l ⟨31,n,s::j++[d,st]++bs⟩=true:=by simp[eN,jz,K,h1]
 rw[v,i];simp[jL]
theorem DS{n k:Int}{q:Nd}(o:IsT l 3 k)(V:l[k.toNat]?=some q)(Y:0<=n)(h1:n<eC q.kids.length):fO l ⟨25,n,[k]⟩=if n=0 then 2 else 1:=by
 rw[nC (fun j Z=>by
  simp only[jp]at Z;subst Z;exact⟨o.lo,o.hi,by rw[o.s];decide⟩)]
 have i:eN l ⟨25,n,[k]⟩=true:=by
  have:xy l k=q.kids.length:=by rw[xy,V]
  simp[eN,jz,this,Y];omega
 simp only[dM,mh,o.s];rw[i];by_cases c:n=0<;>simp[zmo,eu,iG,zmH,jL,c]
end
def zn3(l:List Nd):Prop:=∀i:Nat,i<l.length->jf l i≠0
theorem PR{l:List Nd}{i:Nat}(I:i<=l.length):∀{M s:List Int},zmU i (zmC l i) M=some s->zmU l.length (zmC l l.length) M=some s
 |[],s,h=>by cases h;rfl
 |k::M,s,h=>by
  rw[zmU]at h;split at h
  .cases h
  .rename_i c;obtain⟨t,Z,rfl⟩:=sA.1 h;obtain⟨k,rfl⟩:=l7 (by omega:0<=k);rw[ja]at c;have m:=C3 (l:=l) (i:=i) (j:=k) ac I;have U:=C3 (l:=l) (i:=l.length) (j:=k) ac (aB _);rw[zmU,ja,U,af (by rw[m]at c;omega),PR I Z];simp only[oH,m]
theorem zwg{l:List Nd}{i:Nat}{n:Nd}(J:l[i]?=some n)(h:jf l i≠0):jf l i=fO l n:=by
 have I:i<l.length:=by
  by_cases c:i<l.length
  .exact c
  .rw[lD ac]at J;cases J
 rw[xz I]at h⊢;unfold kY at h⊢;unfold fO;rw[J]at h⊢;simp only at h⊢;cases o:zmU i (zmC l i) n.kids with
 |none=>rw[o]at h;exact absurd rfl h
 |some s=>rw[PR ac o]
theorem IY{l:List Nd}{n:Nd}{t:Int}(O:zn3 l)(h:fO l n=t)(j:t≠0):IsT (jB l n) t (hY l n)/\zn3 (jB l n):=by
 unfold jB;split
 .rename_i c;have K:=Pv c;refine⟨⟨ac,ac,?_⟩,O⟩;rw[zwg K (O _ c)];exact h
 .rename_i c;have:=DK l n;have e:hY l n=l.length:=ac;rw[e];refine⟨⟨ac,by rw[fj];simp;omega,?_⟩,fun i I=>?_⟩
  .rw[PC];exact h
  .rw[fj,List.length_singleton]at I;by_cases q:i<l.length
   .rw[MX q];exact O i q
   .obtain rfl:i=l.length:=by omega
    rw[PC,h];exact j
def znc(n:Int):Prop:=-9223372036854775808<=n/\n<9223372036854775808
mutual
def d9:Ex->Prop
 | .mk _ n _ _ M=>znc n/\zmn M
def zmn:List Ex->Prop
 |[]=>True
 |e::es=>d9 e/\zmn es
end
theorem IZ(x:Ex):d9 x↔znc x.n/\zmn x.kids:=by cases x;rw[d9];rfl
mutual
def eU:St->Prop
 | .mk _ _ _ _ a v M j m=>d9 a/\d9 v/\zmn M/\dt j/\dt m
def dt:List St->Prop
 |[]=>True
 |x::l=>eU x/\dt l
end
theorem DT(x:St):eU x↔d9 x.at_/\d9 x.value/\zmn x.args/\dt x.thn/\dt x.els:=by cases x;rw[eU];rfl
def tyG1.tyF:=ad @cJ (ad @ec (ad @ZL (ad @dd (ad @fx (ad @vx (@qK))))))
open tyG1
noncomputable def PS:{c:SC // aC 14 (Tryz.f12.body.getD .skip)=c}:=by
 refine⟨?_,?_⟩;rotate_left
 .simp only[Tryz.f12,bI,aC,zll,zle,zlp,zln,Nat.blt,Nat.ble];rfl
noncomputable def PT:{c:SC // aC 25 (Tryz.f37.body.getD .skip)=c}:=by
 refine⟨?_,?_⟩;rotate_left
 .simp only[Tryz.f37,bI,aC,zll,zle,zlp,zln,Nat.blt,Nat.ble];rfl
noncomputable def PU:{c:SC // aC 7 (Tryz.f85.body.getD .skip)=c}:=by
 refine⟨?_,?_⟩;rotate_left
 .simp only[Tryz.f85,bI,aC,zll,zle,zlp,zln,Nat.blt,Nat.ble];rfl
def zla(n m:Int):Int:=if n.tmod m<0 then bE (n.tmod m+m)else n.tmod m
theorem zmO{n m:Int}(h:0<m)(h2:m<2^62):0<=zla n m/\zla n m<m:=by
 unfold zla;have z:=wm n h;have Y:-m<n.tmod m:=by
  have:=wm (-n) h;rw[Int.neg_tmod]at this;omega
 split
 .unfold bE;rw[yV _ ac];omega
 .omega
def po(x:Int×Int):List AV:=[.int .i64 x.1,.int .i64 x.2]
theorem DU(x y:Int×Int)(h:po x=po y):x=y:=by
 simp only[po,ea,AV.int.injEq,aR,j9]at h;exact qV h.1 h.2
theorem zwh(ρ:Nat->Int)(x:Int×Int)(o:x.2≠0):bM Tryz.prog ρ 12 (po x) (.int .i64 (zla x.1 x.2)):=zmy fit (pls:=pls) (l:=[]) trivial (.cons (.int _ _) (.cons (.int _ _) .nil)) (.int _ _) (by
 have O:=zmQ 12;obtain⟨n,m⟩:=x;rw[po];simp only[]at o⊢;refine zlf (M:=14) (rs:=[.tmp 4]) (O.call _) O.ice O.froz Tryz.func12 rfl rfl PS.2 rfl ?_;dsimp only[PS,zD,Nat.reduceAdd];repeat' (first
  |(apply ah ?_;clear hK K)|apply Rx.o ?_|(apply a0 (fun C j=>?_) (fun C j=>?_)<;>try(cases C;done))|apply ak ?_|(apply zkU fun K hK=>?_)|apply zk3 ?_|apply aF ?_)
 all_goals (refine⟨eI,_,eR,?_⟩;try simp only[zkX])
 all_goals (simp_all[zla];try omega))
noncomputable def uF:En:=⟨12,false,b7 (fun x=>x.2≠0) po fun x=>.int .i64 (zla x.1 x.2)⟩
theorem DV(ρ:Nat->Int):zl0 Tryz.prog ρ uF:=zl7 fun x hx=>zwh ρ x hx
theorem znn{l:List En}(Z:∀M,zme l 12 M=uF.sp M)(n m:Int)(V:m≠0)(H:Hp):zk5 Tryz.prog (zkY pls l) 12 [.int .i64 n,.int .i64 m] H fun v H'=>v=.int .i64 (zla n m)/\H'=H:=
 zlM (enc:=po) (ok:=fun x=>x.2≠0) (out:=fun x=>.int .i64 (zla x.1 x.2)) DU (x:=(n,m)) (Z _) V
def uG:List Int:=[0,1,-1,2,-9223372036854775808,9223372036854775807,4294967296,-2147483648,63,64]
def rY(n V:Int):Int:=if zla n 24<10 then uG.getD (zla n 24).toNat 0 else if zla n 24<22 then bE (zla (bE (n.tdiv 24)) 17-6)else V
theorem zgc(H:Hp):zmb Tryz.prog H 71 10 [(0,.int .i64 0),(1,.int .i64 1),(2,.int .i64 (-1)),(3,.int .i64 2),(4,.int .i64 (-9223372036854775808)),(5,.int .i64 9223372036854775807),(6,.int .i64 4294967296),(7,.int .i64 (-2147483648)),(8,.int .i64 63),(9,.int .i64 64)]=some (.sl H.next 0 10 1,H.alloc (.cells (uG.map fun n=>.int .i64 n) 0 true)):=aj
theorem zwi(ρ:Nat->Int)(x:Int×Int):bM Tryz.prog ρ 37 (po x) (.int .i64 (rY x.1 x.2)):=zmy fit (pls:=pls) (l:=[uF]) ⟨DV ρ,trivial⟩ (.cons (.int _ _) (.cons (.int _ _) .nil)) (.int _ _) (by
 have O:Plain (zkY pls [uF]) 37:=zml (fun _=>rfl) rfl;obtain⟨n,m⟩:=x;have hr:=zmO (n:=n) (m:=24) ac ac;have hp:0<=zla n 24:=hr.1;rw[po];simp only[];have Y:(24:Int)≠0:=aE;refine zlf (M:=25) (rs:=[.tmp 4]) (O.call _) O.ice O.froz Tryz.func37 rfl rfl PT.2 rfl ?_;dsimp only[PT,zD,Nat.reduceAdd];have V:=@zgc;repeat' (first
  |(apply ah ?_;clear hK K)|apply Rx.o ?_|(apply eM ?_;first|refine zlc (znn (fun _=>rfl) _ _ aE _) ?_)|(apply a0 (fun Z j=>?_) (fun Z j=>?_)<;>try(cases Z;done))|apply ak ?_|(apply zkU fun K hK=>?_)|apply aG ?_|apply zk3 ?_|apply aF ?_)
 .have C:(zla n 24).toNat<10:=by omega
  have U:uG[(zla n 24).toNat]?=some (uG.getD (zla n 24).toNat 0):=by
   rw[dx,aT (by simpa [uG]using C)];rfl
  repeat' (first
   |(apply ah ?_;clear hK K)|apply Ry.o ?_|apply aF ?_)
  all_goals (refine⟨eI,_,eR,?_⟩;try simp only[zkX])
  rw[rY,am jF]
 .all_goals (refine⟨eI,_,eR,?_⟩;try simp only[zkX])
  rw[rY,af jF,am jF]
 .all_goals (refine⟨eI,_,eR,?_⟩;try simp only[zkX])
  rw[rY,af jF,af jF])
noncomputable def DW:En:=⟨37,false,b7 (fun _=>True) po fun x=>.int .i64 (rY x.1 x.2)⟩
theorem ztF(ρ:Nat->Int):zl0 Tryz.prog ρ DW:=zl7 fun x hx=>zwi ρ x
theorem zAN{l:List En}(Z:∀M,zme l 37 M=DW.sp M)(n m:Int)(H:Hp):zk5 Tryz.prog (zkY pls l) 37 [.int .i64 n,.int .i64 m] H fun v H'=>v=.int .i64 (rY n m)/\H'=H:=
 zlM (enc:=po) (ok:=fun _=>True) (out:=fun x=>.int .i64 (rY x.1 x.2)) DU (x:=(n,m)) (Z _) trivial
def zlN(f:Int):List (List UInt8):=if f=0 then [[120],[121],[105],[106]]else [[110],[105]]
theorem tz(f:Int):(zlN f).length=4\/(zlN f).length=2:=by unfold zlN;split<;>simp
theorem zgg(H:Hp)(a b c d:List UInt8):zmb Tryz.prog H 59 4 [(0,.str a),(1,.str b),(2,.str c),(3,.str d)]=some (.sl H.next 0 4 1,H.alloc (.cells [.str a,.str b,.str c,.str d] 0 true)):=aj
theorem Au(H:Hp)(a b:List UInt8):zmb Tryz.prog H 59 2 [(0,.str a),(1,.str b)]=some (.sl H.next 0 2 1,H.alloc (.cells [.str a,.str b] 0 true)):=aj
theorem ztG(ρ:Nat->Int)(f:Int):bM Tryz.prog ρ 85 [.int .i64 f] (zlY (zlN f)):=vH (m:=3) (cfg:=zkY pls []) fit (pP ρ) (fun f Z r h=>by simp[zkY,zme]at h) (.cons (.int _ _) .nil) (by
 have O:=zmQ 85;refine zlf (M:=7) (rs:=[.tmp 2]) (O.call _) O.ice O.froz Tryz.func85 rfl rfl PU.2 rfl ?_;dsimp only[PU,zD,Nat.reduceAdd];have V:=@zgg;have Y:=@Au;repeat' (first
  |(apply ah ?_;clear hK K)|apply Rx.o ?_|(apply a0 (fun C j=>?_) (fun C j=>?_)<;>try(cases C;done))|apply ak ?_|(apply zkU fun K hK=>?_)|apply zk3 ?_|apply aF ?_)
 .all_goals (refine⟨eI,_,eR,?_⟩;try simp only[zkX])
  rw[zlN,am jF];rfl
 .all_goals (refine⟨eI,_,eR,?_⟩;try simp only[zkX])
  rw[zlN,af jF];rfl)
noncomputable def DX:En:=⟨85,false,b7 (fun _=>True) (fun n:Int=>[.int .i64 n]) fun f=>zlY (zlN f)⟩
theorem zwk(ρ:Nat->Int):zl0 Tryz.prog ρ DX:=zl7 fun x hx=>ztG ρ x
theorem PV{l:List En}(Z:∀M,zme l 85 M=DX.sp M)(f:Int)(H:Hp):zk5 Tryz.prog (zkY pls l) 85 [.int .i64 f] H fun v H'=>v=zlY (zlN f)/\H'=H:=
 zlM (enc:=fun n:Int=>[.int .i64 n]) (ok:=fun _=>True) (out:=fun f=>zlY (zlN f)) Im (x:=f) (Z _) trivial
end
section
def tyG2.tyF:=ad @cJ (ad @gX (@xf))
open tyG2
def fd(S:Nat->Prop)(n:Nat)(H:Hp)(v w:AV):Prop:=∃u,zl5 S n H v u/\∀m,n<=m->bX m u=w
def zlJ(S:Nat->Prop)(n:Nat)(H:Hp)(cs ws:List AV):Prop:=∃j,cr (zl5 S n H) cs j/\∀m,n<=m->j.map (bX m)=ws
theorem zlJ.frame{S S':Nat->Prop}(hS:∀k,S k->S' k){n:Nat}{H H':Hp}{v w:List AV}(h:zlJ S n H v w)(J:H.next<=H'.next)(K:∀k,S k->k<H.next->sY (H.get k) (H'.get k)):zlJ S' n H' v w:=by
 obtain⟨u,m,j⟩:=h;exact⟨u,m.mono fun a b k=>k.frame hS J K,j⟩
theorem zlJ.keep{S S':Nat->Prop}(hS:∀k,S k->S' k){n:Nat}{H H':Hp}{v w:List AV}(h:zlJ S n H v w)(J:H.next<=H'.next)(K:∀k,S k->k<H.next->H'.get k=H.get k):zlJ S' n H' v w:=h.frame hS J fun k m j=>.inl (K k m j).symm
theorem fd.up{S:Nat->Prop}{n m:Nat}{H:Hp}{v w:AV}(h:fd S n H v w)(V:n<=m):fd S m H v w:=by
 obtain⟨u,Z,j⟩:=h;exact⟨u,Z.up V,fun k o=>j k ac⟩
theorem zlJ.up{S:Nat->Prop}{n m:Nat}{H:Hp}{v w:List AV}(h:zlJ S n H v w)(V:n<=m):zlJ S m H v w:=by
 obtain⟨u,Z,j⟩:=h;exact⟨u,Z.mono fun a b k=>k.up V,fun k o=>j k ac⟩
theorem zlJ.nil{S:Nat->Prop}{n:Nat}{H:Hp}:zlJ S n H [] []:=⟨[],trivial,fun _ _=>rfl⟩
theorem zlJ.cons{S:Nat->Prop}{n:Nat}{H:Hp}{v w:AV}{cs ws:List AV}(h:fd S n H v w)(k:zlJ S n H cs ws):zlJ S n H (v::cs) (w::ws):=by
 obtain⟨u,Z,j⟩:=h;obtain⟨Y,z,U⟩:=k;exact⟨u::Y,⟨Z,z⟩,fun m V=>by rw[dM,j m V,U m V]⟩
theorem zlJ.append{S:Nat->Prop}{n:Nat}{H:Hp}:∀{a b c d:List AV},zlJ S n H a b->zlJ S n H c d->zlJ S n H (a++c) (b++d)
 |a,b,c,d,⟨u,Z,j⟩,⟨v,z,Y⟩=>⟨u++v,Z.append z,fun m V=>by rw[l0,j m V,Y m V]⟩
theorem fd.flat{S:Nat->Prop}{n:Nat}{H:Hp}{v:AV}(h:MM v)(o:∀m,bX m v=v):fd S (n+1) H v v:=⟨v,oY h,fun m _=>o m⟩
theorem fd.int{S:Nat->Prop}{n:Nat}{H:Hp}(k:IntKind)(x:Int):fd S (n+1) H (.int k x) (.int k x):=.flat ⟨.int _ _,trivial⟩ fun m=>by cases m<;>rfl
theorem fd.str{S:Nat->Prop}{n:Nat}{H:Hp}(s:List UInt8):fd S (n+1) H (.str s) (.str s):=.flat ⟨.str _,trivial⟩ fun m=>by cases m<;>rfl
theorem fd.nilS{S:Nat->Prop}{n:Nat}{H:Hp}:fd S (n+1) H .nilS (.lst []):=⟨.nilS,oY ⟨.nilS,trivial⟩,fun m V=>by
 obtain⟨m,rfl⟩:∃k,m=k+1:=⟨m-1,ac⟩;rfl⟩
def dO(S:Nat->Prop)(n:Nat)(H:Hp)(z:Nat):List (List AV)->List (List AV)->Prop:=cr fun a b=>a.length=z/\zlJ S n H a b
theorem PW{S:Nat->Prop}{n z:Nat}{H:Hp}:∀{a b:List (List AV)},dO S n H z a b->∃u,cr (cr (zl5 S n H)) a u/\(∀m,n<=m->u.map (List.map (bX m))=b)/\∀x∈a,x.length=z
 |[],[],_=>⟨[],trivial,fun _ _=>rfl,ax⟩
 |x::a,y::b,⟨⟨hz,v,h1,h2⟩,h⟩=>by
  obtain⟨u,Y,U,O⟩:=PW (a:=a) (b:=b) h;exact⟨v::u,⟨h1,Y⟩,fun m Z=>by rw[dM,h2 m Z,U m Z],fun q V=>by
   rcases fX.1 V with rfl|V
   .exact hz
   .exact O q V⟩
theorem fd.rows{S:Nat->Prop}{n:Nat}{H:Hp}{r z imm:Nat}{tip:Bool}{a b:List (List AV)}(hS:S r)(hr:r<H.next)(K:H.get r=some (.cells a.flatten imm tip))(I:imm<=a.flatten.length)(h:dO S n H z a b):fd S (n+1) H (.sl r 0 a.length z) (.lst b):=by
 obtain⟨u,Z,j,Y⟩:=PW h;refine⟨.lst u,zl5.rows hS hr K I Y Z,fun m U=>?_⟩;obtain⟨m,rfl⟩:∃k,m=k+1:=⟨m-1,ac⟩;show AV.lst (u.map fun V=>V.map (bX m))=_;rw[<-j m ac]
def tA:=@fd.rows
theorem dO.frame{S S':Nat->Prop}(hS:∀k,S k->S' k){n z:Nat}{H H':Hp}{a b:List (List AV)}(h:dO S n H z a b)(J:H.next<=H'.next)(K:∀k,S k->k<H.next->H'.get k=H.get k):dO S' n H' z a b:=cr.mono (fun x y k=>⟨k.1,k.2.keep hS J K⟩) h
theorem dO.up{S:Nat->Prop}{n m z:Nat}{H:Hp}{a b:List (List AV)}(h:dO S n H z a b)(V:n<=m):dO S m H z a b:=cr.mono (fun x y k=>⟨k.1,k.2.up V⟩) h
theorem zlJ.strs{S:Nat->Prop}{n:Nat}{H:Hp}(s:List UInt8):zlJ S (n+1) H [.str s] [.str s]:=.cons (.str s) .nil
theorem dO.strs{S:Nat->Prop}{n:Nat}{H:Hp}:∀l:List (List UInt8),dO S (n+1) H 1 (l.map fun s=>[AV.str s]) (l.map fun s=>[AV.str s])
 |[]=>trivial
 |a::l=>⟨⟨rfl,zlJ.strs a⟩,dO.strs l⟩
theorem uH{S:Nat->Prop}{n:Nat}{H:Hp}(k K o:Int)(s:List UInt8){kv:AV}{I:List Ex}(h:fd S (n+1) H kv (.lst (I.map Ex.cells))):zlJ S (n+1) H [.int .i64 k,.int .i64 K,.str s,.int .i64 o,kv] (Ex.mk k K s o I).cells:=by
 rw[mc];exact .cons (.int _ _) (.cons (.int _ _) (.cons (.str _) (.cons (.int _ _) (.cons h .nil))))
theorem oo{S:Nat->Prop}{n:Nat}{H:Hp}(k K o:Int)(s:List UInt8):zlJ S (n+1) H [.int .i64 k,.int .i64 K,.str s,.int .i64 o,.nilS] (Ex.mk k K s o []).cells:=uH k K o s .nilS
def zlK:List Int->Int×List Int
 |[]=>(0,[])
 |a::l=>(a,l)
def zgj(lo:Nat)(H:Hp)(r:Nat)(v:AV)(L:List Int):Prop:=(v=.lst []/\L=[])\/∃b U z m,v=.sl b U L.length 1/\H.get b=some (.cells z m true)/\z.drop U=L.map (fun n=>AV.int .i64 n)/\b≠r/\b<lo
def iZ(lo:Nat)(H:Hp)(r:Nat)(L:List Int)(c:Int):Prop:=r<lo/\lo<=H.next/\∃v,H.get r=some (.cells [v,.int .i64 c] 0 true)/\zgj lo H r v L
theorem iZ.keep{lo:Nat}{H H':Hp}{r:Nat}{L:List Int}{c:Int}(h:iZ lo H r L c)(o:H.next<=H'.next)(K:∀k,k<lo->H'.get k=H.get k):iZ lo H' r L c:=by
 obtain⟨Z,M,v,Y,j⟩:=h;refine⟨Z,ac,v,by rw[K _ Z];exact Y,?_⟩;rcases j with j|⟨b,U,z,m,V,O,J,I,C⟩
 .exact .inl j
 .exact .inr ⟨b,U,z,m,V,by rw[K _ C];exact O,J,I,C⟩
noncomputable def xO:{c:SC // aC 25 (Tryz.f40.body.getD .skip)=c}:=by
 refine⟨?_,?_⟩;rotate_left
 .simp only[Tryz.f40,bI,aC,zll,zle,zlp,zln,Nat.blt,Nat.ble];rfl
theorem DY{cfg:Cfg}(O:Plain cfg 40){lo:Nat}{H:Hp}{r:Nat}{L:List Int}{c:Int}(h:iZ lo H r L c)(hL:L.length<2^60):
 zk5 Tryz.prog cfg 40 [.ptr r 0] H fun v H'=>v=.int .i64 (zlK L).1/\iZ lo H' r (zlK L).2 c/\H'.next=H.next/\∀k,k≠r->H'.get k=H.get k:=by
 obtain⟨V,Z,v,h1,h2⟩:=h;rcases h2 with⟨rfl,rfl⟩|⟨b,U,I,m,rfl,e2,e3,o,e5⟩
 .refine zlf (M:=25) (rs:=[.tmp 2]) (O.call _) O.ice O.froz Tryz.func40 rfl rfl xO.2 rfl ?_;dsimp only[xO,zD,Nat.reduceAdd];repeat' (first
   |(apply ah ?_;clear hK K)|apply Rx.o ?_|(apply a0 (fun C j=>?_) (fun C j=>?_)<;>try(cases C;done))|apply ak ?_|(apply zkU fun K hK=>?_)|apply aF ?_)
  all_goals (refine⟨eI,_,eR,?_⟩;try simp only[zkX])
  exact⟨ib,⟨V,Z,_,h1,.inl ⟨rfl,rfl⟩⟩,ib,fun _ _=>ib⟩
 .cases L with
  |nil=>
   refine zlf (M:=25) (rs:=[.tmp 2]) (O.call _) O.ice O.froz Tryz.func40 rfl rfl xO.2 rfl ?_;dsimp only[xO,zD,Nat.reduceAdd];repeat' (first
    |(apply ah ?_;clear hK K)|apply Rx.o ?_|(apply a0 (fun C j=>?_) (fun C j=>?_)<;>try(cases C;done))|apply ak ?_|(apply zkU fun K hK=>?_)|apply aF ?_)
   all_goals (refine⟨eI,_,eR,?_⟩;try simp only[zkX])
   exact⟨ib,⟨V,Z,_,h1,.inr ⟨b,U,I,m,rfl,e2,e3,o,e5⟩⟩,ib,fun _ _=>ib⟩
  |cons a L=>
   have hg:I[U]?=some (.int .i64 a):=by
    have:=jm (fun l=>l[0]?) e3;simpa using this
   have hd:I.drop (U+1)=L.map (fun n=>AV.int .i64 n):=by
    have:=jm (List.drop 1) e3;rw[Fh]at this;simpa using this
   have Y:0<L.length+1:=ac;have z:jT Tryz.prog 23 (.sl b U (L.length+1) 1) (some (.int .i64 1)) none=if L=[]then some (.lst [])else some (.sl b (U+1) L.length 1):=by
    simp only[jT,Tryz.underlying23,ki,znd];by_cases J:L=[]
    .subst J;rfl
    .have:0<L.length:=vK.2 J;rw[af J,am ⟨ac,aB _,trivial⟩,af ac];rfl
   have hne:¬(((L.length+1:Nat):Int)=0):=ac;have hrb:(b == r)=false:=zkV o;refine zlf (M:=25) (rs:=[.tmp 2]) (O.call _) O.ice O.froz Tryz.func40 rfl rfl xO.2 rfl ?_;dsimp only[xO,zD,Nat.reduceAdd];by_cases J:L=[]
   .subst J;have hsl':jT Tryz.prog 23 (.sl b U 1 1) (some (.int .i64 1)) none=some (.lst []):=z;have hne':¬(((1:Nat):Int)=0):=aE;have hp':0<1:=aE;clear z hne Y;repeat' (first
     |(apply ah ?_;clear hK K)|apply Ry.o ?_|apply dG ?_|(apply bb (fun C j=>?_) (fun C j=>?_)<;>try(cases C;done))|apply ak ?_|(apply zkU fun K hK=>?_)|apply zk3 ?_|apply aF ?_)
    all_goals (refine⟨eI,_,eR,?_⟩;try simp only[zkX])
    refine⟨ib,⟨V,Z,_,gQ,.inl ⟨rfl,rfl⟩⟩,ib,fun k hk=>Fc⟩
   .rw[af J]at z;repeat' (first
     |(apply ah ?_;clear hK K)|apply Ry.o ?_|apply dG ?_|(apply bb (fun C j=>?_) (fun C j=>?_)<;>try(cases C;done))|apply ak ?_|(apply zkU fun K hK=>?_)|apply zk3 ?_|apply aF ?_)
    all_goals (refine⟨eI,_,eR,?_⟩;try simp only[zkX])
    refine⟨ib,⟨V,Z,_,Am,.inr ⟨b,U+1,I,m,rfl,by rw[aJ,af o];exact e2,hd,o,e5⟩⟩,ib,fun k hk=>Fc⟩
end
section
theorem zlJ.keep2{S S':Nat->Prop}{n:Nat}{H H':Hp}{v w:List AV}(h:zlJ S n H v w)(hS:∀k,k<H.next->S k->S' k)(J:H.next<=H'.next)(K:∀k,S k->k<H.next->H'.get k=H.get k):zlJ S' n H' v w:=by
 obtain⟨u,m,j⟩:=h;exact⟨u,m.mono fun a b k=>k.frame2 hS J fun q z Y=>.inl (K q z Y).symm,j⟩
theorem fd.keep2{S S':Nat->Prop}{n:Nat}{H H':Hp}{v w:AV}(h:fd S n H v w)(hS:∀k,k<H.next->S k->S' k)(J:H.next<=H'.next)(K:∀k,S k->k<H.next->H'.get k=H.get k):fd S' n H' v w:=by
 obtain⟨u,m,j⟩:=h;exact⟨u,m.frame2 hS J fun q z Y=>.inl (K q z Y).symm,j⟩
theorem dO.keep2{S S':Nat->Prop}{n z:Nat}{H H':Hp}{a b:List (List AV)}(h:dO S n H z a b)(hS:∀k,k<H.next->S k->S' k)(J:H.next<=H'.next)(K:∀k,S k->k<H.next->H'.get k=H.get k):dO S' n H' z a b:=cr.mono (fun x y k=>⟨k.1,k.2.keep2 hS J K⟩) h
theorem dO.len{S:Nat->Prop}{n z:Nat}{H:Hp}:∀{a b:List (List AV)},dO S n H z a b->∀x∈a,x.length=z
 |[],[],_,x,hx=>by simp at hx
 |y::a,w::b,h,x,hx=>by
  rcases fX.1 hx with rfl|hx
  .exact h.1.1
  .exact dO.len h.2 x hx
def zmf(S:Nat->Prop)(n:Nat)(H:Hp)(z:Nat)(v:AV)(ws:List (List AV)):Prop:=
 (v=.nilS/\ws=[])\/∃q m V,v=.sl q 0 V.length z/\S q/\q<H.next/\H.get q=some (.cells V.flatten m true)/\m<=V.flatten.length/\dO (fun k=>S k/\k≠q) n H z V ws
theorem zmf.rd{S:Nat->Prop}{n:Nat}{H:Hp}{z:Nat}{v:AV}{ws:List (List AV)}(h:zmf S n H z v ws):fd S (n+1) H v (.lst ws):=by
 rcases h with⟨rfl,rfl⟩|⟨q,m,V,rfl,Z,j,Y,U,O⟩
 .exact .nilS
 .exact .rows Z j Y U (O.frame (fun k o=>o.1) (aB _) fun _ _ _=>rfl)
theorem zmf.up{S:Nat->Prop}{n m:Nat}{H:Hp}{z:Nat}{v:AV}{ws:List (List AV)}(h:zmf S n H z v ws)(Y:n<=m):zmf S m H z v ws:=by
 rcases h with h|⟨q,Z,V,e,U,j,O,M,K⟩
 .exact .inl h
 .exact .inr ⟨q,Z,V,e,U,j,O,M,dO.up K Y⟩
theorem zmf.keep{S S':Nat->Prop}{n:Nat}{H H':Hp}{z:Nat}{v:AV}{ws:List (List AV)}(h:zmf S n H z v ws)(hS:∀k,k<H.next->S k->S' k)(J:H.next<=H'.next)(K:∀k,S k->k<H.next->H'.get k=H.get k):zmf S' n H' z v ws:=by
 rcases h with h|⟨q,m,V,e,Y,j,M,I,C⟩
 .exact .inl h
 .exact .inr ⟨q,m,V,e,hS q j Y,ac,by rw[K q Y j];exact M,I,C.keep2 (fun k o Z=>⟨hS k o Z.1,Z.2⟩) J fun k U O=>K k U.1 O⟩
theorem zmf.one{S:Nat->Prop}{n:Nat}{H:Hp}{z:Nat}{v:AV}{ws:List (List AV)}(h:zmf S n H z v ws):AV.one v=true/\v.cells=[v]:=by
 rcases h with⟨rfl,rfl⟩|⟨q,m,V,rfl,_⟩<;>exact⟨rfl,rfl⟩
theorem zmf.len{P:Program}{t e:TypeId}(j:P.underlying t=some (.slice e)){S:Nat->Prop}{n:Nat}{H H':Hp}{z:Nat}{v:AV}{ws:List (List AV)}(h:zmf S n H z v ws):zlS P H' t v=some (.int .i64 ws.length):=by
 rcases h with⟨rfl,rfl⟩|⟨q,m,V,rfl,Z,U,O,M,Y⟩
 .exact znE j
 .rw[znB j,show V.length=ws.length from cr.len Y]
theorem zmf.push{P:Program}{t e:TypeId}{z b:Nat}{zz:List AV}(ht:P.underlying t=some (.slice e))(hs:zlq P e=some z)(hb:zmg P e=some b)(hz:zlV P e=some zz)(C:zz.length=z)(M:znh P t=true)
 {lo n:Nat}{H:Hp}{v:AV}{ws:List (List AV)} (h:zmf (fun k=>lo<=k) n H z v ws) (j:lo<=H.next) {r imm:Nat}{row w:List AV} (hg:H.get r=some (.cells row imm true)) (Y:row.length=z) (U:row.all AV.one=true)
 (hw:zlJ (fun k=>lo<=k/\∀o m O,v≠.sl k o m O) n H row w) (hb1:(ws.length+1)*b<=zmr) (hb2:ws.length+1<=zmr) :
 ∃v' H',zmc P false H t t v (.sl r 0 1 z)=some (v',H')/\zmf (fun k=>lo<=k) n H' z v' (ws++[w])/\H'.next=H.next+1/\(∀k,k<H.next->(∀o m O,v≠.sl k o m O)->H'.get k=H.get k)/\∀k o m O,v'=.sl k o m O->k=H.next:=by
 have hx:zmM H z (.sl r 0 1 z)=some (1,row):=by
  have:=sN (H:=H) (r:=r) (o:=0) (n:=1) (z:=z) (s:=z) hg Pf;rw[this,fH,gl ac]
 rcases h with⟨rfl,rfl⟩|⟨q,Z,V,rfl,h1,h2,h3,h4,h5⟩
 .refine⟨.sl H.next 0 1 z,H.alloc (.cells row 0 true),append_nil ht hs hb hz M hx U C (by simpa using hb1) (by simpa using hb2),.inr ⟨H.next,0,[row],rfl,j,cE _,by rw[zkZ,am rfl];simp,ax,⟨⟨Y,hw.keep2 (fun k h1 h2=>⟨h2.1,ac⟩) (dQ _) fun k h1 h2=>gk⟩,trivial⟩⟩,rfl,fun k hk _=>gk,fun k o m O e=>?_⟩;simp only[AV.sl.injEq]at e;exact e.1.symm
 .have hrl:=vN (dO.len h5);have hwl:V.length=ws.length:=cr.len h5;have htr:iC false H z (.sl q 0 V.length z)=H:=by
   unfold iC;simp only[h3,bL];have:Nat.blt (V.length*z) V.flatten.length=false:=by
    cases hb:Nat.blt (V.length*z) V.flatten.length with
    |false=>rfl
    |true=>rw[jH]at hb;omega
   simp only[ir,fq,this,gy]
  refine⟨.sl H.next 0 (V.length+1) z,(H.kill q).alloc (.cells (V.flatten++row) (Z-0) true),?_,.inr ⟨H.next,Z-0,V++[row],ax,j,cE _,?_,Pg,?_⟩,rfl,fun k hk hno=>?_,fun k o m O e=>?_⟩
  .simp only[zmc,ht,hs,hb,hz,M,hx,U,htr,C,oM,dB,znM,h3,bL,fH,dE,dL];rw[am ⟨by rw[hwl];exact hb1,by rw[hwl];exact hb2,ac,trivial,h4⟩]
  .show((H.kill q).alloc _).get (H.kill q).next=_
   rw[zkZ,am rfl];simp
  .have I:∀k,k<H.next->k≠q->((H.kill q).alloc (.cells (V.flatten++row) (Z-0) true)).get k=H.get k:=fun k J K=>by rw[zkZ,af nh,znf,af K]
   refine cr.append (h5.keep2 (fun k J K=>⟨K.1,ac⟩) (dQ _) fun k J K=>I k K J.2) ⟨⟨Y,hw.keep2 (fun k J K=>⟨K.1,ac⟩) (dQ _) fun k J K=>I k K fun e=>J.2 0 V.length z oL⟩,trivial⟩
  .rw[zkZ,af nh,znf,af (fun e=>hno 0 V.length z oL)]
  .simp only[AV.sl.injEq]at e;exact e.1.symm
def xP:=@zmf.push
theorem PX{z:Nat}{H:Hp}{rows:List (List AV)}(h:∀r∈rows,r.length=z):zmM H z (.lst rows)=some (rows.length,rows.flatten):=by
 simp only[zmM];rw[am (by rw[iP];intro r hr;simp[h r hr])]
theorem Ex.wk:∀(m:Nat) (x:Ex),x.cells.map (bX m)=x.cells
 |0,x=>by rw[show bX 0=id from rfl,zU]
 |m+1,x=>by
  rw[mc];simp only[dM,mh,bX,sJ];have:(fun V=>List.map (bX m) V) ∘ Ex.cells=Ex.cells:=funext fun y=>Ex.wk m y;rw[this]
theorem zgk(l:List Ex)(m:Nat):bX m (.lst (l.map Ex.cells))=.lst (l.map Ex.cells):=by
 cases m with
 |zero=>rfl
 |succ m=>
  simp only[bX,sJ];have:(fun V=>List.map (bX m) V) ∘ Ex.cells=Ex.cells:=funext fun y=>Ex.wk m y;rw[this]
theorem St.wk:∀(m:Nat) (x:St),x.cells.map (bX m)=x.cells
 |0,x=>by rw[show bX 0=id from rfl,zU]
 |m+1,x=>by
  rw[oP];simp only[dM,mh,bX,sJ];have Z:(fun V=>List.map (bX m) V) ∘ Ex.cells=Ex.cells:=funext fun y=>Ex.wk m y;have j:(fun V=>List.map (bX m) V) ∘ St.cells=St.cells:=funext fun y=>St.wk m y;rw[Z,j]
theorem zgl(l:List St)(m:Nat):bX m (.lst (l.map St.cells))=.lst (l.map St.cells):=by
 cases m with
 |zero=>rfl
 |succ m=>
  simp only[bX,sJ];have:(fun V=>List.map (bX m) V) ∘ St.cells=St.cells:=funext fun y=>St.wk m y;rw[this]
theorem fd.exs{S:Nat->Prop}{n:Nat}{H:Hp}(l:List Ex):fd S (n+1) H (.lst (l.map Ex.cells)) (.lst (l.map Ex.cells)):=.flat ⟨zE l,trivial⟩ (zgk l)
def lO:=@fd.exs
theorem fd.sts{S:Nat->Prop}{n:Nat}{H:Hp}(l:List St):fd S (n+1) H (.lst (l.map St.cells)) (.lst (l.map St.cells)):=.flat ⟨xl l,trivial⟩ (zgl l)
def jq:=@fd.sts
theorem zlJ.ex{S:Nat->Prop}{n:Nat}{H:Hp}(x:Ex):zlJ S (n+1) H x.cells x.cells:=by
 rw[mc];exact .cons (.int _ _) (.cons (.int _ _) (.cons (.str _) (.cons (.int _ _) (.cons (.exs _) .nil))))
theorem zlJ.st{S:Nat->Prop}{n:Nat}{H:Hp}(x:St):zlJ S (n+1) H x.cells x.cells:=by
 rw[oP];exact .cons (.int _ _) (.cons (.str _) (.cons (.str _) (.cons (.int _ _) (.cons (.int _ _) (.cons (.int _ _) (.cons (.str _) (.cons (.int _ _) (.cons (.exs _) (.cons (.int _ _) (.cons (.int _ _) (.cons (.str _) (.cons (.int _ _) (.cons (.exs _) (.cons (.exs _) (.cons (.sts _) (.cons (.sts _) .nil))))))))))))))))
theorem zlJ.ar{S:Nat->Prop}{n:Nat}{H:Hp}(x:Ar):zlJ S (n+1) H x.cells x.cells:=.cons (.str _) (.cons (.int _ _) .nil)
theorem dO.ars{S:Nat->Prop}{n:Nat}{H:Hp}:∀l:List Ar,dO S (n+1) H 2 (l.map Ar.cells) (l.map Ar.cells)
 |[]=>trivial
 |a::l=>⟨⟨rfl,zlJ.ar a⟩,dO.ars l⟩
theorem PY:∀l:List Ar,(l.map Ar.cells).flatten.all AV.one=true
 |[]=>rfl
 |a::l=>by rw[dM,mW,wn,a.one,PY l];rfl
theorem zgm(m:Nat)(k:IntKind)(n:Int):bX m (.int k n)=.int k n:=by cases m<;>rfl
theorem zgn(m:Nat)(s:List UInt8):bX m (.str s)=.str s:=by cases m<;>rfl
theorem Ar.wk(m:Nat)(x:Ar):x.cells.map (bX m)=x.cells:=by
 rw[Ar.cells_eq];simp only[dM,mh,zgn,zgm]
theorem zAO{Z:Type}{f:Z->List AV}(h:∀m x,(f x).map (bX m)=f x)(l:List Z)(m:Nat):bX m (.lst (l.map f))=.lst (l.map f):=by
 cases m with
 |zero=>rfl
 |succ m=>
  simp only[bX,sJ];have:(fun V=>List.map (bX m) V) ∘ f=f:=funext fun y=>h m y;rw[this]
theorem ztH{S:Nat->Prop}{n:Nat}{H:Hp}{q imm:Nat}{tip:Bool}(l:List Int)(hS:S q)(V:q<H.next)(K:H.get q=some (.cells (l.map fun n=>.int .i64 n) imm tip))(I:imm<=l.length):fd S (n+2) H (.sl q 0 l.length 1) (.lst (l.map fun n=>[.int .i64 n])):=by
 have Z:(l.map fun n=>[AV.int .i64 n]).flatten=l.map fun n=>AV.int .i64 n:=by
  clear K I;induction l with
  |nil=>rfl
  |cons a l ih=>rw[dM,mW,ih];rfl
 have hr:∀l:List Int,dO S (n+1) H 1 (l.map fun n=>[AV.int .i64 n]) (l.map fun n=>[AV.int .i64 n]):=fun l=>by
  induction l with
  |nil=>trivial
  |cons a l ih=>exact⟨⟨rfl,.cons (.int _ _) .nil⟩,ih⟩
 have:=tA (n:=n+1) (a:=l.map fun n=>[AV.int .i64 n]) (imm:=imm) (tip:=tip) hS V (by rw[Z];exact K) (by rw[Z,cp];exact I) (hr l);rw[cp]at this;exact this
theorem PZ{cfg:Cfg}(fit:Fit Tryz.prog){ρ:Nat->Int}(J:oE cfg.dec ρ)(z:∀f M r,cfg.call f M=some r->bM Tryz.prog ρ f M r){g:FuncId}{M:List AV}{r:AV}{n:Nat}
 (C:gw M) (h:zk5 Tryz.prog cfg g M zlv fun v H'=>∃m u,iceV H' m v=some u/\bX n u=r):bM Tryz.prog ρ g M r:=by
 unfold zk5 at h;obtain⟨v,H',Z,m,u,j,Y⟩:=h;refine ML n (vH (m:=m) fit J z C ?_) Y;unfold zk5;exact⟨v,H',Z,j⟩
theorem P1{P:Program}{t e:TypeId}{z b:Nat}{zz:List AV}(ht:P.underlying t=some (.slice e))(hs:zlq P e=some z)(C:zmg P e=some b)(hz:zlV P e=some zz)(O:zz.length=z)(M:znh P t=true)
 {S S':Nat->Prop}{n:Nat}{H:Hp}{v:AV}{ws:List (List AV)} (h:zmf S n H z v ws) (j:∀k,k<H.next->S k->S' k) (hN:S' H.next) {r imm:Nat}{row:List AV} (hg:H.get r=some (.cells row imm true)) (hrow:row.length=z) (U:row.all AV.one=true)
 (K:(ws.length+1)*b<=zmr) (I:ws.length+1<=zmr) :
 ∃H' V Z,zmc P false H t t v (.sl r 0 1 z)=some (.sl H.next 0 (ws.length+1) z,H')/\V.length=ws.length/\(∀x∈V,x.length=z)/\H'.get H.next=some (.cells (V.flatten++row) Z true)/\Z<=V.flatten.length/\H'.next=H.next+1/\(∀k,k<H.next->(∀o m z',v≠.sl k o m z')->H'.get k=H.get k) /\
  dO (fun k=>S' k/\k≠H.next) n H' z V ws:=by
 have hx:zmM H z (.sl r 0 1 z)=some (1,row):=by
  have:=sN (H:=H) (r:=r) (o:=0) (n:=1) (z:=z) (s:=z) hg Pf;rw[this,fH,gl ac]
 rcases h with⟨rfl,rfl⟩|⟨q,Z,V,rfl,h1,h2,h3,h4,J⟩
 .exact⟨H.alloc (.cells row 0 true),[],0,append_nil ht hs C hz M hx U O (by simpa using K) wU,rfl,ax,by rw[zkZ,am rfl];simp,dm _,rfl,fun k hk _=>gk,trivial⟩
 .have hrl:=vN (dO.len J);have Y:V.length=ws.length:=cr.len J;have htr:iC false H z (.sl q 0 V.length z)=H:=by
   unfold iC;simp only[h3,bL];have:Nat.blt (V.length*z) V.flatten.length=false:=by
    cases C:Nat.blt (V.length*z) V.flatten.length with
    |false=>rfl
    |true=>rw[jH]at C;omega
   simp only[ir,fq,this,gy]
  refine⟨(H.kill q).alloc (.cells (V.flatten++row) (Z-0) true),V,Z-0,?_,Y,dO.len J,?_,ac,rfl,fun k hk hno=>?_,?_⟩
  .simp only[zmc,ht,hs,C,hz,M,hx,U,htr,O,oM,dB,znM,h3,bL,fH,dE,dL];rw[am ⟨by rw[Y];exact K,by rw[Y];exact I,ac,trivial,h4⟩,Y]
  .show((H.kill q).alloc _).get (H.kill q).next=_
   rw[zkZ,am rfl]
  .rw[zkZ,af nh,znf,af (fun e=>hno 0 V.length z oL)]
  .exact J.keep2 (fun k h6 h7=>⟨j k h6 h7.1,ac⟩) (dQ _) fun k h6 h7=>by rw[zkZ,af nh,znf,af h6.2]
theorem zmf.of{S:Nat->Prop}{n q z imm:Nat}{H:Hp}{rows ws:List (List AV)}{row w:List AV}(hS:S q)(V:q<H.next)(J:∀x∈rows,x.length=z)(K:row.length=z)(Z:H.get q=some (.cells (rows.flatten++row) imm true))(I:imm<=rows.flatten.length)(hr:dO (fun k=>S k/\k≠q) n H z rows ws)(O:zlJ (fun k=>S k/\k≠q) n H row w):zmf S n H z (.sl q 0 (ws.length+1) z) (ws++[w]):=by
 have M:rows.length=ws.length:=cr.len hr;exact .inr ⟨q,imm,rows++[row],by rw[fj,M];rfl,hS,V,by rw[Z];simp,Pg,hr.append ⟨⟨K,O⟩,trivial⟩⟩
theorem DZ{S:Nat->Prop}{n:Nat}{H:Hp}{r:Nat}(l:List (List UInt8))(hS:S r)(hr:r<H.next)(K:H.get r=some (.cells (l.map .str) 0 true)):zmf S (n+1) H 1 (.sl r 0 l.length 1) (l.map fun s=>[AV.str s]):=
 .inr ⟨r,0,l.map fun s=>[AV.str s],An,hS,hr,by rw[CY];exact K,dm _,dO.strs l⟩
structure FnL (pt:Nat->Nat) (b n:Nat) (H:Hp) (f:Fu) (p l bo:AV) (v:List AV):Prop where
 len:v.length=5
 one:v.all AV.one=true
 ps:zmf (fun q=>pt q=b) n H 1 p (f.params.map fun s=>[AV.str s])
 ls:zmf (fun q=>pt q=b+1) n H 1 l (f.locals.map fun s=>[AV.str s])
 bo:zmf (fun q=>pt q=b+2) n H 17 bo (f.body.map St.cells)
 vw:zlJ (fun q=>pt q=b+3) n H v f.value.cells
def gM(nm:List UInt8)(p l j:AV)(v:List AV):List AV:=[.str nm,p,l,j]++v
structure ProgL (pt:Nat->Nat) (n:Nat) (H:Hp) (ra rf:Nat) (x y:Int) (f g:Fu) (pf lf bf:AV) (vf:List AV) (pg lg bg:AV) (vg:List AV):Prop where
 ga:H.get ra=some (.cells [.str [97],.int .i64 x,.str [98],.int .i64 y] 0 true)
 gf:H.get rf=some (.cells (gM f.name pf lf bf vf++gM g.name pg lg bg vg) 0 true)
 ltA:ra<H.next
 ltF:rf<H.next
 lra:pt ra=1
 lrf:pt rf=2
 F:FnL pt 3 n H f pf lf bf vf
 G:FnL pt 7 n H g pg lg bg vg
def uI(M a b c q:Nat):Nat:=if q<=M then 0 else if q=M+1 then 1 else if q=M+7 then 2 else if q=M+3 then 3 else if q=M+4 then 4 else if q=M+5 then 7 else if q=M+6 then 8 else if q<a then 5 else if q<b then 6 else if q<c then 9 else 10
theorem zgq{M a b c q:Nat}(h:M+8<=q)(h1:q<a):uI M a b c q=5:=DI
theorem zgr{M a b c q:Nat}(h:M+8<=q)(h1:a<=q)(h2:q<b):uI M a b c q=6:=DI
theorem zgs{M a b c q:Nat}(h:M+8<=q)(Z:a<=q)(h1:b<=q)(h2:q<c):uI M a b c q=9:=DI
theorem zgt{M a b c q:Nat}(h:M+8<=q)(Z:a<=q)(h1:b<=q)(h2:c<=q):uI M a b c q=10:=DI
theorem I0{P:Program}{t e:TypeId}{z b:Nat}{J:List AV}(ht:P.underlying t=some (.slice e))(hs:zlq P e=some z)(hb:zmg P e=some b)(hz:zlV P e=some J)(V:J.length=z)(M:znh P t=true)
 {S S':Nat->Prop}{n:Nat}{H:Hp}{v:AV}{ws:List (List AV)} (h:zmf S n H z v ws) (Y:∀k,k<H.next->S k->S' k) (C:S' H.next) {r imm:Nat}{row w:List AV} (hg:H.get r=some (.cells row imm true)) (K:row.length=z) (U:row.all AV.one=true)
 (hw:zlJ (fun k=>S' k/\∀o m O,v≠.sl k o m O) n H row w) (Z:(ws.length+1)*b<=zmr) (I:ws.length+1<=zmr) :
 ∃H',zmc P false H t t v (.sl r 0 1 z)=some (.sl H.next 0 (ws.length+1) z,H')/\zmf S' n H' z (.sl H.next 0 (ws.length+1) z) (ws++[w])/\H'.next=H.next+1/\(∀k,k<H.next->(∀o m O,v≠.sl k o m O)->H'.get k=H.get k):=by
 obtain⟨H',rows,imm',a1,a2,a3,a4,a5,a6,a7,a8⟩:=P1 (P:=P) ht hs hb hz V M h Y C hg K U Z I;refine⟨H',a1,?_,a6,a7⟩;exact zmf.of C ac a3 K a4 a5 a8 (hw.keep2 (fun k h1 j=>⟨j.1,ac⟩) ac fun k h1 j=>a7 k j h1.2)
theorem zgu{Z:Type}{s:List Z}(h:s.length=3):∃a b c,s=[a,b,c]:=by
 match s,h with
 |[a,b,c],_=>exact⟨a,b,c,rfl⟩
theorem zgv(H:Hp){cs:List AV}(M:cs.length=3)(J:cs.all AV.one=true):zmb Tryz.prog H 22 1 [(0,.agg cs)]=some (.sl H.next 0 1 3,H.alloc (.cells cs 0 true)):=by
 obtain⟨a,b,c,rfl⟩:=zgu M;kernel_rfl
structure Lx where
 p:Pr
 b:Nat
 ra:Nat
 rf:Nat
 rt:Nat
 rn:Nat
 ae:List (zly×Int)
 fe:List (zly×Int)
 ne:List (zly×Int)
def zlB(X:Lx)(s:Bd)(m vv:AV):List AV:=[.lst (X.p.arrays.map Ar.cells),.lst (X.p.funcs.map Fu.cells),.map X.ra,.map X.rf,m,.map X.rt,.map X.rn,vv,.int .i64 s.state,.int .i64 s.loops]
structure RepL (X:Lx) (H:Hp) (S:Nat->Prop) (s:Bd) (lv vv:AV):Prop where
 m:H.get X.b=some (.cells (zlB X s lv vv) 0 true)
 a:H.get X.ra=some (.map (dy X.ae))
 f:H.get X.rf=some (.map (dy X.fe))
 t:H.get X.rt=some (.map (dy (atV s.l 0)))
 n:H.get X.rn=some (.map (dy X.ne))
 nodes:zmf S 2 H 3 lv (s.l.map Nd.cells)
 vars:je H vv s.vars 0
 o1:X.ra<X.rf
 o2:X.rf<X.rt
 o3:X.rt<X.rn
 o4:X.rn<X.b
 o5:X.b<H.next
 sS:∀k,S k->X.b<k/\k<H.next/\¬zlk vv k
 vS:∀k,zlk vv k->X.b<k/\k<H.next
structure Sm (n:Nat) (H H':Hp):Prop where
 get:∀k,k<n->H'.get k=H.get k
structure FrL (X:Lx) (S:Nat->Prop) (vv:AV) (H:Hp) (S':Nat->Prop) (vv':AV) (H':Hp):Prop where
 next:H.next<=H'.next
 get:∀k,k<H.next->k≠X.b->k≠X.rt->¬S k->¬zlk vv k->H'.get k=H.get k
 sub:∀k,S' k->S k\/H.next<=k
 own:∀k,zlk vv' k->zlk vv k\/H.next<=k
theorem FrL.refl(X:Lx)(S:Nat->Prop)(vv:AV)(H:Hp):FrL X S vv H S vv H:=⟨aB _,fun _ _ _ _ _ _=>rfl,fun _ h=>.inl h,fun _ h=>.inl h⟩
def cY:=@FrL.refl
theorem FrL.trans{X:Lx}{S S' K:Nat->Prop}{v o J:AV}{H H' M:Hp}(h:FrL X S v H S' o H')(k:FrL X S' o H' K J M):FrL X S v H K J M where
 next:=dc h.next k.next
 get r h1 h2 h3 h4 h5:=by
  rw[k.get r (mB h1 h.next) h2 h3 (fun e=>?_) (fun e=>?_)]
  .exact h.get r h1 h2 h3 h4 h5
  .rcases h.sub r e with e|e
   .exact h4 e
   .omega
  .rcases h.own r e with e|e
   .exact h5 e
   .omega
 sub r e:=by
  rcases k.sub r e with e|e
  .exact h.sub r e
  .exact .inr (dc h.next e)
 own r e:=by
  rcases k.own r e with e|e
  .exact h.own r e
  .exact .inr (dc h.next e)
section
variable {X:Lx} {H H':Hp} {S:Nat -> Prop} {s:Bd} {lv vv:AV}
theorem RepL.keep(h:RepL X H S s lv vv)(J:H.next<=H'.next)(K:∀k,k<H.next->(k<=X.b\/S k\/zlk vv k)->H'.get k=H.get k):RepL X H' S s lv vv:=by
 have Z:=h.o1;have I:=h.o2;have Y:=h.o3;have O:=h.o4;have z:=h.o5;refine⟨by rw[K _ z (.inl (aB _))];exact h.m,by rw[K _ ac (.inl ac)];exact h.a,by rw[K _ ac (.inl ac)];exact h.f,by rw[K _ ac (.inl ac)];exact h.t,by rw[K _ ac (.inl ac)];exact h.n,h.nodes.keep (fun _ _ h=>h) J fun k o V=>K k V (.inr (.inl o)),h.vars.keep J fun k o=>K k (h.vS k o).2 (.inr (.inr o)),Z,I,Y,O,ac,fun k o=>?_,fun k o=>?_⟩
 .have:=h.sS k o;exact⟨this.1,ac,this.2.2⟩
 .have:=h.vS k o;omega
theorem RepL.alloc(h:RepL X H S s lv vv)(b:HB):RepL X (H.alloc b) S s lv vv:=h.keep (dQ _) fun k o _=>gk
theorem RepL.alloc2(h:RepL X H S s lv vv)(b c:HB):RepL X ((H.alloc b).set H.next c) S s lv vv:=h.keep (dQ _) fun k o _=>nX
theorem FrL.alloc{m:Nat->Prop}{J:AV}{zlv:Hp}(h:FrL X m J zlv S vv H)(b:HB):FrL X m J zlv S vv (H.alloc b):=h.trans ⟨dQ _,fun k o _ _ _ _=>gk,fun _ h=>.inl h,fun _ h=>.inl h⟩
theorem FrL.alloc2{m:Nat->Prop}{J:AV}{zlv:Hp}(h:FrL X m J zlv S vv H)(b c:HB):FrL X m J zlv S vv ((H.alloc b).set H.next c):=h.trans ⟨dQ _,fun k o _ _ _ _=>nX,fun _ h=>.inl h,fun _ h=>.inl h⟩
theorem RepL.setS(h:RepL X H S s lv vv)(x:Int):RepL X (H.set X.b (.cells (zlB X {s with state:=x} lv vv) 0 true)) S {s with state:=x} lv vv/\FrL X S vv H S vv (H.set X.b (.cells (zlB X {s with state:=x} lv vv) 0 true)):=by
 have V:=h.o1;have I:=h.o2;have Z:=h.o3;have O:=h.o4;have z:=h.o5;have K:∀k,k≠X.b->(H.set X.b (.cells (zlB X {s with state:=x} lv vv) 0 true)).get k=H.get k:=fun k o=>wj;refine⟨⟨gQ,IQ,IR,IT,IU,h.nodes.keep (fun _ _ h=>h) (aB _) fun k o Y=>K k IP,h.vars.keep (aB _) fun k o=>K k (by have:=h.vS k o;omega),V,I,Z,O,z,h.sS,h.vS⟩,⟨aB _,fun k _ j _ _ _=>K k j,fun _ h=>.inl h,fun _ h=>.inl h⟩⟩
theorem RepL.setN(h:RepL X H S s lv vv)(x:Nat):RepL X (H.set X.b (.cells (zlB X {s with loops:=x} lv vv) 0 true)) S {s with loops:=x} lv vv/\FrL X S vv H S vv (H.set X.b (.cells (zlB X {s with loops:=x} lv vv) 0 true)):=by
 have V:=h.o1;have I:=h.o2;have Z:=h.o3;have O:=h.o4;have z:=h.o5;have K:∀k,k≠X.b->(H.set X.b (.cells (zlB X {s with loops:=x} lv vv) 0 true)).get k=H.get k:=fun k o=>wj;refine⟨⟨gQ,IQ,IR,IT,IU,h.nodes.keep (fun _ _ h=>h) (aB _) fun k o Y=>K k IP,h.vars.keep (aB _) fun k o=>K k (by have:=h.vS k o;omega),V,I,Z,O,z,h.sS,h.vS⟩,⟨aB _,fun k _ j _ _ _=>K k j,fun _ h=>.inl h,fun _ h=>.inl h⟩⟩
theorem RepL.setV(h:RepL X H S s lv vv){i:Nat}(I:i<s.vars.length)(x:Int):∃r,zlO Tryz.prog 23 vv (.int .i64 (i:Int))=some (.ptr r i)/\iN Tryz.prog H 3 (.ptr r i)=some (.int .i64 (s.vars.getD i 0)) /\
 ∃H',lS Tryz.prog H 3 (.ptr r i) (.int .i64 x)=some H'/\X.b<r/\r<H.next/\zlk vv r/\RepL X H' S {s with vars:=s.vars.set i x} lv vv/\FrL X S vv H S vv H'/\(∀k,k≠r->H'.get k=H.get k)/\H'.next=H.next:=by
 rcases h.vars with⟨_,j⟩|⟨r,Z,K,V,hr⟩
 .rw[j]at I;simp at I
 .have O:zlk vv r:=⟨_,Z⟩;have M:=(h.vS r O).1;refine⟨r,?_,?_,H.set r (.cells ((s.vars.set i x).map (.int .i64)) 0 true),?_,M,hr,O,?_,⟨aB _,fun k _ _ _ _ Y=>?_,fun _ h=>.inl h,fun _ h=>.inl h⟩,fun k o=>wj,rfl⟩
  .rw[Z,vy Tryz.underlying23 ki I];simp
  .rw[ub Tryz.underlying3 rfl K,eS,dx,aT I];rfl
  .rw[zO K (by rw[cp];exact I),qL]
  .have U:=h.o1;have J:=h.o2;have C:=h.o3;have z:=h.o4;have m:=h.o5;have o:∀k,k≠r->(H.set r (.cells ((s.vars.set i x).map (.int .i64)) 0 true)).get k=H.get k:=fun k o=>wj;refine⟨by rw[o _ ac];exact h.m,by rw[o _ ac];exact h.a,by rw[o _ ac];exact h.f,by rw[o _ ac];exact h.t,by rw[o _ ac];exact h.n,h.nodes.keep (fun _ _ h=>h) (aB _) fun k hS _=>o k fun e=>(h.sS k hS).2.2 (by rw[e];exact O),.inr ⟨r,by rw[Z,jd],gQ,V,hr⟩,U,J,C,z,m,h.sS,h.vS⟩
  .rw[aJ,af (fun e=>Y (by rw[e];exact O))]
theorem RepL.swapV(h:RepL X H S s lv vv){vw:AV}{l:List Int}(O:je H vw l 0)(h1:∀k,zlk vw k->X.b<k/\k<H.next/\¬S k):RepL X (H.set X.b (.cells (zlB X {s with vars:=l} lv vw) 0 true)) S {s with vars:=l} lv vw:=by
 have V:=h.o1;have I:=h.o2;have Z:=h.o3;have Y:=h.o4;have z:=h.o5;have K:∀k,k≠X.b->(H.set X.b (.cells (zlB X {s with vars:=l} lv vw) 0 true)).get k=H.get k:=fun k o=>wj;exact⟨gQ,IQ,IR,IT,IU,h.nodes.keep (fun _ _ h=>h) (aB _) fun k o U=>K k IP,O.keep (aB _) fun k o=>K k (by have:=h1 k o;omega),V,I,Z,Y,z,fun k o=>⟨(h.sS k o).1,(h.sS k o).2.1,fun e=>(h1 k e).2.2 o⟩,fun k o=>⟨(h1 k o).1,(h1 k o).2.1⟩⟩
end
def tyLoB.tyF:=ad @ec (ad @cJ (ad @oQ (ad @dd (ad @kW (ad @gX (ad @fI (ad @qM (ad @rH (ad @oR (ad @qO (ad @L5 (ad @L9 (ad @pU (ad @Mb (ad @GQ (ad @Ma (ad @Mc (ad @MU (ad @tf (@tg))))))))))))))))))))
open tyLoB
noncomputable def P2:{c:SC // aC 20 (Tryz.f134.body.getD .skip)=c}:=by
 refine⟨?_,?_⟩;rotate_left
 .simp only[Tryz.f134,bI,aC,zll,zle,zlp,zln,Nat.blt,Nat.ble];rfl
noncomputable def P3:{c:SC // aC 69 (Tryz.f86.body.getD .skip)=c}:=by
 refine⟨?_,?_⟩;rotate_left
 .simp only[Tryz.f86,bI,aC,zll,zle,zlp,zln,Nat.blt,Nat.ble];rfl
def I1(f:FuncId):Bool:=Nat.beq f 134||Nat.beq f 86||Nat.beq f 87||Nat.beq f 88||Nat.beq f 89||Nat.beq f 135||Nat.beq f 136||Nat.beq f 137||Nat.beq f 138||Nat.beq f 162||Nat.beq f 163||Nat.beq f 164||Nat.beq f 185||Nat.beq f 52
structure LowT (tb:List En):Prop where
 pl:∀f,I1 f=true->(∀ar,zme tb f ar=none)/\jb tb f=false
theorem LowT.plain{j:List En}(h:LowT j){f:FuncId}(K:I1 f=true):Plain (zkY pls j) f:=zml (h.pl f K).1 (h.pl f K).2
theorem P4{cfg:Cfg}(J:Plain cfg 134)(Z:cfg.keep 134=false){H:Hp}{v:AV}{b:List Int}{lo:Nat}(hv:kG H v b lo)(C:b.length<2^38)(n:Int):
 zk5 Tryz.prog cfg 134 [v,.int .u64 n] H fun w H'=>kG H' w (b++zm4 n 8) lo/\H.next<=H'.next/\∀k,k<lo->H'.get k=H.get k:=by
 obtain⟨zlE,i0,V,_⟩:=id hv;have hone:AV.one v=true:=by rw[V];rfl
 clear V;refine zlf (M:=20) (rs:=[.tmp 4]) (J.call _) J.ice J.froz Tryz.func134 rfl rfl P2.2 rfl ?_;dsimp only[P2,zD,Nat.reduceAdd];repeat' (first
  |(apply ah ?_;clear hK K)|apply Rx.o ?_|apply ak ?_|(apply zkU fun K hK=>?_)|apply aG ?_|fail)
 refine zlL [1] [] 5 8 (fun i E Y=>∃w,E.at 0=w/\kG Y w (b++zm4 n i) lo/\∀k,k<lo->Y.get k=H.get k) eE ⟨v,eE,by simpa [zm4]using hv,fun _ _=>rfl⟩ ?_;rintro i E Y hi z m hnH hsI ⟨w,k0,O,I⟩;(try simp only[zlm,zlb,aR,zk1,zk7,Nat.reduceBEq, *]at z);(try simp only[zlb, *]at m);(try simp only[zk9,zli,zlI,bL,Nat.reduceAdd]at hnH);by_cases hlt:i<8
 .have U:(i:Int)<8:=by omega
  have e1:IntKind.wrap .i64 (8*(i:Int))=((8*i:Nat):Int):=HQ;have e2:IntKind.wrap .u64 ((8*i:Nat):Int)=((8*i:Nat):Int):=(by decide:∀i:_root_.Fin 8,IntKind.wrap .u64 ((8*i.val:Nat):Int)=((8*i.val:Nat):Int)) ⟨i,hlt⟩;have e4:∀(D:BinOp->Sx->Sx->Option Bool) (t:TypeId),zmt Tryz.prog D .shr t (.int .u64 n) (.int .u64 ((8*i:Nat):Int))=some (.int .u64 (n.fdiv (2^ (8*i)))):=fun D t=>bin_shr ac rfl;repeat' (first
   |(apply ah ?_;clear hK K)|apply Ry.o ?_|(apply bb (fun C j=>?_) (fun C j=>?_)<;>try(cases C;done))|apply ak ?_|(apply zkU fun K hK=>?_)|apply aG ?_|apply zk3 ?_|fail)
  have hwb:C2 (Y.alloc (.cells [.int .u8 (ml n i)] 0 true)) w (b++zm4 n i) lo:=.inr (O.keep (dQ _) fun k o=>by rw[zkZ,af (by have:=(O.lt o).2;omega)]);have hlo2:lo<=Y.next:=by obtain⟨r,im,_,_,_,h1,h2⟩:=O;omega
  obtain⟨v5,H5,a5,s5,n5,f5,o5⟩:=MT (r:=Y.next) (imm:=0) (ml n i) hwb cL gH (by rw[fj,znT];omega);have n5':Y.next<=H5.next:=zR
  have o5':∀k,k<lo->H5.get k=H.get k:=fun k o=>by rw[f5 k o,zkZ,af ac,I k o]
  clear n5 f5 o5;refine jv eV eV (by rw[Z];exact a5) ?_;repeat' (first
   |(apply ah ?_;clear hK K)|apply Rx.o ?_|(apply zkU fun K hK=>?_)|fail)
  refine⟨ac,zk8,zk8,zlF,Ng,?_⟩;exact⟨v5,eE,by rw[MV,<-i8];exact s5,o5'⟩
 .have U:¬(i:Int)<8:=by omega
  repeat' (first
   |(apply ah ?_;clear hK K)|apply Ry.o ?_|(apply bb (fun C j=>?_) (fun C j=>?_)<;>try(cases C;done))|apply ak ?_|(apply zkU fun K hK=>?_)|apply aF ?_|apply zlu ?_)
  all_goals (refine⟨eI,_,eR,?_⟩;try simp only[zkX])
  have hie:i=8:=ac;rw[hie]at O;exact⟨O,ac,I⟩
theorem gZ.len'{H:Hp}{v:AV}{l:List Int}{lo:Nat}(h:gZ H v l lo)(H':Hp):zlS Tryz.prog H' 23 v=some (.int .i64 l.length):=by
 rcases h with⟨rfl,rfl⟩|h
 .exact znE Tryz.underlying23
 .exact h.len
theorem zgw{S:Nat->Prop}{H:Hp}{kv:AV}{kids:List Int}{lo:Nat}(op imm:Int)(o:gZ H kv kids lo)(hS:∀k,zlk kv k->S k):zlJ S 2 H [.int .i64 op,.int .i64 imm,kv] (Nd.mk op imm kids).cells:=by
 refine .cons (.int _ _) (.cons (.int _ _) (.cons ?_ .nil));rcases o with⟨rfl,rfl⟩|⟨r,i,rfl,j,z,Z,Y⟩
 .exact .nilS
 .exact ztH kids (hS r ⟨_,rfl⟩) Y j z
theorem zgx{H:Hp}{kv:AV}{l:List Int}{lo:Nat}(h:gZ H kv l lo)(a b:Int):zma Tryz.prog 67 [(0,.int .i64 a),(1,.int .i64 b),(2,kv)]=some (.agg [.int .i64 a,.int .i64 b,kv]):=by
 rcases h with⟨rfl,rfl⟩|⟨r,i,rfl,_⟩<;>kernel_rfl
theorem gZ.one{H:Hp}{kv:AV}{l:List Int}{lo:Nat}(h:gZ H kv l lo):AV.one kv=true:=by
 rcases h with⟨rfl,rfl⟩|⟨r,i,rfl,_⟩<;>rfl
theorem D0:sq Tryz.prog 3=some (.int .i64 0):=aj
theorem kS:nH Tryz.prog 9=some .string:=aj
def xQ(X:Lx)(S:Nat->Prop)(vv kv:AV)(H:Hp)(n:Nd)(s:Bd)(v:AV)(H':Hp):Prop:=v=.int .i64 (zkW n s).1/\∃o z,RepL X H' o (zkW n s).2 z vv/\H.next<=H'.next/\(∀k,k<H.next->k≠X.b->k≠X.rt->¬S k->H'.get k=H.get k)/\∀k,o k->S k\/zlk kv k\/H.next<=k
set_option maxRecDepth 100000 in
theorem Av{tb:List En}(hG:LowT tb){X:Lx}{H:Hp}{S:Nat->Prop}{s:Bd}{lv vv kv:AV}(hR:RepL X H S s lv vv)(n:Nd)(Y:gZ H kv n.kids 0)(hkf:∀k,zlk kv k->X.b<k/\¬S k/\¬zlk vv k)(hr:∀x∈jB s.l n,NdR x)(hlen:s.l.length<2^36):
 zk5 Tryz.prog (zkY pls tb) 86 [.ptr X.b 0,.int .i64 n.op,.int .i64 n.imm,kv] H (xQ X S vv kv H n s):=by
 have hw:Plain (zkY pls tb) 86:=hG.plain dT;have hap:Plain (zkY pls tb) 134:=hG.plain dT;have hkeep:(zkY pls tb).keep 86=false:=rfl;have hn:NdR n:=hr n (tm.2 (.inr rfl));have hnl:=hn.len;have o1:=hR.o1;have o2:=hR.o2;have o3:=hR.o3;have o4:=hR.o4;have o5:=hR.o5;have hkn:=Y.len';refine zlf (M:=69) (rs:=[.tmp 8]) (hw.call _) hw.ice hw.froz Tryz.func86 rfl rfl P3.2 rfl ?_;dsimp only[P3,zD,Nat.reduceAdd];repeat' (first
  |(apply ah ?_;clear hK K)|apply Rx.o ?_|apply ak ?_|(apply zkU fun K hK=>?_)|fail)
 refine aZ rfl bc bi ?_;simp only[bj];refine aS ?_ (P4 hap rfl (b:=[IntKind.wrap .u8 n.op]) (lo:=H.next) ⟨H.next,0,rfl,iT,dm _,aB _,xD⟩ ax _);rintro w H1 ⟨hw1,zlQ,q1⟩;have n1':H.next<=H1.next:=by simp only[zk9]at zlQ;omega
 have q1':∀k,k<H.next->H1.get k=H.get k:=fun k Y=>by rw[q1 k Y,zkZ,af ac]
 clear zlQ q1;dsimp only[zk6];repeat' (first
  |(apply ah ?_;clear hK K)|apply Rx.o ?_|apply ak ?_|(apply zkU fun K hK=>?_)|apply aG ?_|fail)
 refine zlL [0,1,2,3,8,20,21] [] 22 n.kids.length (fun j E I=>∃w,E.at 9=w/\kG I w ([IntKind.wrap .u8 n.op]++zm4 (IntKind.wrap .u64 n.imm) 8++(n.kids.take j).flatMap fun k=>zm4 (IntKind.wrap .u64 k) 8) H.next/\Sm H.next H I) eE ⟨w,eE,by simpa using hw1,⟨q1'⟩⟩ ?_;rintro j E I hj hcE hrH hnH hsI ⟨w2,k9,hw2,V⟩;(try simp only[zlm,zlb,aR,zk1,zk7,Nat.reduceBEq, *]at hcE);(try simp only[zlb, *]at hrH);(try simp only[zk9,zli,zlI,bL,Nat.reduceAdd]at hnH);have n2':H.next<=I.next:=ac
 by_cases hlt:j<n.kids.length
 .have hlt':(j:Int)<n.kids.length:=by omega
  have htk:n.kids.take (j+1)=n.kids.take j++[n.kids[j]]:=by rw[oI,aT hlt];rfl
  have hfl:((n.kids.take j).flatMap fun k=>zm4 (IntKind.wrap .u64 k) 8).length<=8*j:=by
   rw[List.length_flatMap];simp only[znT];have:((n.kids.take j).map fun _=>8).sum=8*(n.kids.take j).length:=by
    generalize n.kids.take j=q;induction q with
    |nil=>rfl
    |cons a q ih=>simp[ih];omega
   rw[this,j6];omega
  have hkb:gC I kv n.kids 0:=by
   rcases Y with⟨_,J⟩|J
   .rw[J]at hlt;simp at hlt
   .exact J.keep ac fun k Y=>V.get k (J.lt Y).2
  obtain⟨r,hix,hld⟩:=hkb.at hlt;generalize n.kids[j]=kd at *;repeat' (first
   |(apply ah ?_;clear hK K)|apply Ry.o ?_|(apply bb (fun hb hbp=>?_) (fun hb hbp=>?_)<;>try(cases hb;done))|apply ak ?_|(apply zkU fun K hK=>?_)|apply aG ?_|apply zk3 ?_|fail)
  refine aZ rfl bc bi ?_;simp only[bj];refine aS ?_ (P4 hap rfl hw2 Nf _);rintro w3 H3 ⟨hw3,n3,q3⟩;dsimp only[zk6];repeat' (first
   |(apply ah ?_;clear hK K)|apply Rx.o ?_|(apply zkU fun K hK=>?_)|fail)
  refine⟨ac,zk8,zk8,zlF,xE,?_⟩;exact⟨w3,eE,by rw[htk,List.flatMap_append,uf,HS,bj,<-i8];exact hw3,⟨fun k Y=>by rw[q3 k Y];exact V.get k Y⟩⟩
 .have hlt':¬(j:Int)<n.kids.length:=by omega
  have hje:n.kids.take j=n.kids:=gl ac;rw[hje,<-Nx]at hw2;have hcv:=Nz hw2;have Z:RepL X I S s lv vv:=hR.keep n2' fun k Y _=>V.get k Y;have m2:=Z.m;unfold zlB at m2;have hlk:=OR (P:=Tryz.prog) (t:=98) Tryz.underlying98 kS D0 Z.t (jj n);obtain⟨f1,f2,f3⟩:=Px hn s.l 0 (fun x hx=>hr x (tm.2 (.inl hx)));clear hje hw1 q1';have hcv':zny Tryz.prog I 93 9 w2=some (.str (jj n)):=hcv;clear hcv;by_cases C:hY s.l n<s.l.length
  .rw[fY C]at f1;have f2:=f2 C;rw[f1,f2]at hlk;repeat' (first
    |(apply ah ?_;clear hK K)|apply Ry.o ?_|(apply bb (fun hb hbp=>?_) (fun hb hbp=>?_)<;>try(cases hb;done))|apply ak ?_|(apply zkU fun K hK=>?_)|(apply zmm 7 [(3,12),(5,12),(6,12)] fun K hK=>?_)|(apply zlC ?_;try intro _)|(apply zmk ?_ ?_<;>clear hK K)|apply bZ ?_|apply zk3 ?_|apply aF ?_|apply zlu ?_)
   all_goals first
    |exact zlU
    |skip
   all_goals (refine⟨eI,_,eR,?_⟩;try simp only[zkX])
   have e1:zkW n s=(((hY s.l n:Nat):Int),s):=by rw[zkW,jB,am C]
   rw[xQ,e1];exact⟨ax,S,lv,Z,n2',fun k O _ _ _=>V.get k O,fun k Y=>.inl Y⟩
  .rw[iH C]at f1;have f3:=f3 C;have hix:hY s.l n=s.l.length:=by have:=DK s.l n;omega
   have hadd:jB s.l n=s.l++[n]:=by rw[jB,af C]
   rw[f1]at hlk;have hll:∀H',zlS Tryz.prog H' 22 lv=some (.int .i64 s.l.length):=fun H'=>by
    have:=Z.nodes.len (P:=Tryz.prog) (t:=22) (H':=H') Tryz.underlying22
    rwa [cp]at this
   have hup:znN Tryz.prog I 98 (.map X.rt) (.str (jj n)) (.int .i64 s.l.length)=some (I.set X.rt (.map (dy (atV (s.l++[n]) 0)))):=by
    rw[(Ix (P:=Tryz.prog) (t:=98) (nm:=jj n) Tryz.underlying98 kS Z.t).1 ((Iz (jj n) (atV s.l 0) 0).1 f1).1,<-zwc];simp[dy]
   have hbn:=zgx Y n.op n.imm;have hone:=Y.one;have hbs:∀H,zmb Tryz.prog H 22 1 [(0,.agg [.int .i64 n.op,.int .i64 n.imm,kv])]=some (.sl H.next 0 1 3,H.alloc (.cells [.int .i64 n.op,.int .i64 n.imm,kv] 0 true)):=fun H=>zgv H rfl Ph;have g3:∀k,k≠X.rt->(I.set X.rt (.map (dy (atV (s.l++[n]) 0)))).get k=I.get k:=fun k Y=>BE;have g4:∀k,k≠X.rt->k<I.next->((I.set X.rt (.map (dy (atV (s.l++[n]) 0)))).alloc (.cells [.int .i64 n.op,.int .i64 n.imm,kv] 0 true)).get k=I.get k:=fun k Y hl=>by rw[zkZ,af gc,g3 k Y]
   have m3:(I.set X.rt (.map (dy (atV (s.l++[n]) 0)))).get X.b=some (.cells (zlB X s lv vv) 0 true):=by rw[g3 _ ac];exact Z.m
   have m4:((I.set X.rt (.map (dy (atV (s.l++[n]) 0)))).alloc (.cells [.int .i64 n.op,.int .i64 n.imm,kv] 0 true)).get X.b=some (.cells (zlB X s lv vv) 0 true):=by rw[g4 _ ac ac];exact Z.m
   have g4n:((I.set X.rt (.map (dy (atV (s.l++[n]) 0)))).alloc (.cells [.int .i64 n.op,.int .i64 n.imm,kv] 0 true)).get I.next=some (.cells [.int .i64 n.op,.int .i64 n.imm,kv] 0 true):=rX
   have hkS:∀k,zlk kv k->k<H.next:=fun k U=>(Y.lt U).2
   obtain⟨H5,a5,s5,n5,q5⟩:=I0 (P:=Tryz.prog) (t:=22) Tryz.underlying22 GM LQ LR rfl aj (S':=fun k=>S k\/zlk kv k\/k=I.next+1)
    (Z.nodes.keep (S':=S) (H':=(I.set X.rt (.map (dy (atV (s.l++[n]) 0)))).alloc (.cells [.int .i64 n.op,.int .i64 n.imm,kv] 0 true)) (fun _ _ h=>h) (dQ _) fun k Y h6=>g4 k (by have:=(Z.sS k Y).1;omega) h6)
    (fun k _ h=>.inl h) (.inr (.inr rfl)) (r:=I.next) (imm:=0) (row:=[.int .i64 n.op,.int .i64 n.imm,kv]) (w:=n.cells) g4n rfl Ph
    (zgw n.op n.imm (lo:=0) (Y.keep mM fun k U=>by rw[g4 k (by have:=(hkf k U).1;omega) (by have:=hkS k U;omega)];exact V.get k (hkS k U)) fun k U=>⟨.inr (.inl U),fun o m z' e=>(hkf k U).2.1 (by
      rcases Z.nodes with⟨O,_⟩|⟨q,im,rows,O,J,_⟩
      .rw[O]at e;cases e
      .rw[O]at e;simp only[AV.sl.injEq]at e;rw[<-e.1];exact J)⟩)
    rW rW
   rw[cp]at a5 s5;simp only[zk9,zli]at a5 s5 n5 q5;have hno:∀k,(¬S k)->∀o m z',lv≠.sl k o m z':=fun k Y o m z' e=>Y (by
    rcases Z.nodes with⟨O,_⟩|⟨q,im,rows,O,J,_⟩
    .rw[O]at e;cases e
    .rw[O]at e;simp only[AV.sl.injEq]at e;rw[<-e.1];exact J)
   have m5:H5.get X.b=some (.cells (zlB X s lv vv) 0 true):=by rw[q5 _ ac (hno _ fun e=>Ao)];exact m4
   have z:∀k,k<I.next->k≠X.rt->¬S k->H5.get k=I.get k:=fun k O J h3=>by rw[q5 _ ac (hno _ h3)];exact g4 k J O
   have t5:H5.get X.rt=some (.map (dy (atV (s.l++[n]) 0))):=by rw[q5 _ ac (hno _ fun e=>Ao),zkZ,af gc,aJ,am rfl]
   have hpo:zkW n s=(((hY s.l n:Nat):Int),{s with l:=s.l++[n] }):=by rw[zkW,hadd]
   have fin:xQ X S vv kv H n s (.int .i64 s.l.length) (H5.set X.b (.cells (zlB X {s with l:=s.l++[n] } (.sl (I.next+1) 0 (s.l.length+1) 3) vv) 0 true)):=by
    rw[xQ,hpo,hix];have g6:∀k,k≠X.b->(H5.set X.b (.cells (zlB X {s with l:=s.l++[n] } (.sl (I.next+1) 0 (s.l.length+1) 3) vv) 0 true)).get k=H5.get k:=fun k Y=>BE;refine⟨rfl,fun k=>S k\/zlk kv k\/k=I.next+1,_,⟨gQ,?_,?_,?_,?_,?_,?_,o1,o2,o3,o4,?_,?_,?_⟩,?_,?_,?_⟩
    .rw[g6 _ ac,z _ ac ac fun e=>Ao];exact Z.a
    .rw[g6 _ ac,z _ ac ac fun e=>Ao];exact Z.f
    .rw[g6 _ ac];exact t5
    .rw[g6 _ ac,z _ ac ac fun e=>Ao];exact Z.n
    .have e:(s.l++[n]).map Nd.cells=s.l.map Nd.cells++[n.cells]:=by simp
     rw[e];refine s5.keep (fun _ _ h=>h) (aB _) fun k Y _=>g6 k ?_;rcases Y with Y|Y|Y
     .have:=(Z.sS _ Y).1;omega
     .have:=(hkf _ Y).1;omega
     .omega
    .exact Z.vars.keep gc fun k Y=>by rw[g6 k (by have:=(Z.vS k Y).1;omega),z k (Z.vS k Y).2 (by have:=(Z.vS k Y).1;omega) fun e=>(Z.sS k e).2.2 Y]
    .simp only[zli];omega
    .rintro k (Y|Y|Y)
     .have:=Z.sS k Y;exact⟨this.1,gc,this.2.2⟩
     .have:=hkf k Y;have J:=hkS k Y;exact⟨this.1,gc,this.2.2⟩
     .refine⟨ac,gc,fun e=>?_⟩;have:=(Z.vS k e).2;omega
    .intro k Y;have:=Z.vS k Y;simp only[zli];omega
    .simp only[zli];omega
    .intro k O J h3 h4;rw[g6 k J,z k ac h3 h4];exact V.get k O
    .rintro k (Y|Y|Y)
     .exact .inl Y
     .exact .inr (.inl Y)
     .exact .inr (.inr ac)
   unfold zlB at m3 m4 m5 fin;clear s5 z t5 g3 g4 q5 hkS;repeat' (first
    |(apply ah ?_;clear hK K)|apply Ry.o ?_|apply dG ?_|(apply bb (fun hb hbp=>?_) (fun hb hbp=>?_)<;>try(cases hb;done))|apply ak ?_|(apply zkU fun K hK=>?_)|(apply zmm 7 [(3,12),(5,12),(6,12)] fun K hK=>?_)|(apply rK 10 fun K hK=>?_)|(apply zlC ?_;try intro _)|(apply zmk ?_ ?_<;>clear hK K)|apply bZ ?_|apply aF ?_|apply zlu ?_)
   all_goals first
    |exact zlU
    |skip
   all_goals (refine⟨eI,_,eR,?_⟩;try simp only[zkX])
   exact fin
end
end Go.Proofs.YtpbcimfiofmoeaaGreat
