/- Parts: V5, P4c, RowN, SpecL, LoK, LoA, LoB, SpecM, LoC, LoD, LoF, VdA, VdB, VdP. -/
import Derived.Test.YtljebeflbbgibaaGreatWCK
set_option linter.unusedSimpArgs false
set_option linter.unusedVariables false
set_option linter.unusedSectionVars false
set_option linter.defProp false
set_option maxHeartbeats 32000000
namespace Go.Ab
set_option maxRecDepth 20000
open Go
theorem wd{P:Prop}(h:P:=by rw[Hp.get_set,if_neg j]):P:=h
theorem Bn{P:Prop}(h:P:=by simp only[List.all_cons,List.all_nil,hone];rfl):P:=h
theorem Bo{P:Prop}(h:P:=by rw[List.length_map,show Rd=70368744177664 from rfl];omega):P:=h
theorem qh{P:Prop}(h:P:=by have:=(i.sS _ e).1;omega):P:=h
def qi:=@Go.IntKind.wrap_u8
def Bp:=@Int.fdiv_eq_ediv_of_nonneg
def qj:=@Go.IntKind.wrap_u64
def qk:=@List.flatMap_cons
def ql:=@List.prefix_refl
end Go.Ab
namespace Go.Proofs.YtljebeflbbgibaaGreat
set_option maxRecDepth 20000
open Go Go.Ab
section
namespace tyV5
end tyV5
open tyV5
def gg(n:Nd):List UInt8:=lK (mU n)
end
section
theorem iT(n:Nat):(!decide ((0:Int)<n))=decide ((n:Int)=0):=by
 cases n with
 |zero=>rfl
 |succ n=>simp;omega
theorem Pc{P:Program}{t e:TypeId}{z b:Nat}{J:List AV}(K:P.underlying t=some (.slice e))(I:P3 P e=some z)(hb:QI P e=some b)(hz:Qx P e=some J)(F:J.length=z)(U:Sr P t=true)
 {S S':Nat->Prop}{n:Nat}{H:Hp}{v:AV}{O:List (List AV)} (h:Q6 S n H z v O) (Z:∀k,k<H.next->S k->S' k) (M:S' H.next) {r imm:Nat}{row w:List AV} (hg:H.get r=some (.cells row imm true)) (C:row.length=z) (j:row.all AV.one=true)
 (hw:Q4 (fun k=>S' k/\∀o m V,v≠.sl k o m V) n H row w) (A:(O.length+1)*b<=Rd) (Y:O.length+1<=Rd) :
 ∃H',Rj P false H t t v (.sl r 0 1 z)=some (.sl H.next 0 (O.length+1) z,H')/\Q6 S' n H' z (.sl H.next 0 (O.length+1) z) (O++[w])/\H'.next=H.next+1/\(∀k,k<H.next->(∀o m V,v≠.sl k o m V)->H'.get k=H.get k):=by
 obtain⟨H',rows,L,RQ,a2,a3,a4,a5,S1,SZ,a8⟩:=OU (P:=P) K I hb hz F U h Z M hg C j A Y;refine⟨H',RQ,?_,S1,SZ⟩;exact Q6.of M aa a3 C a4 a5 a8 (hw.keep2 (fun k i g=>⟨g.1,aa⟩) aa fun k i g=>SZ k g i.2)
structure Bd where
 l:List Nd
 vars:List Int
 state:Int
 loops:Nat
structure Cx where
 arrays:List Ar
 funcs:List Fu
 names:List Rh
def fA(l:List Nd)(n:Nd):Nat:=l.findIdx fun x=>decide (x=n)
def kM(l:List Nd)(n:Nd):List Nd:=if fA l n<l.length then l else l++[n]
def Q5(n:Nd)(s:Bd):Int×Bd:=(fA s.l n,{s with l:=kM s.l n})
def g8:List Rh->Rh->Nat
 |[],_=>0
 |a::l,s=>if a=s then 0 else if ls l s=true then g8 l s+1 else 0
def RC(c a b:Int)(s:Bd):Int×Bd:=if a=b then (a,s)else Q5 ⟨22,0,[c,a,b]⟩ s
def qm(z v:Int)(s:Bd):Bd:=let r:=Q5 ⟨27,z,[s.state,v]⟩ s;{r.2 with state:=r.1}
def oy(len i:Int)(s:Bd):Bd:=
 let PV:=Q5 ⟨1,len,[]⟩ s
 let Qq:=Q5 ⟨19,0,[i,PV.1]⟩ PV.2
 qm 2 Qq.1 Qq.2
def oz(v:Int)(s:Bd):Bd:=
 let z:=Q5 ⟨1,0,[]⟩ s
 let c:=Q5 ⟨16,0,[v,z.1]⟩ z.2
 qm 1 c.1 c.2
def il(c:Cx):Nat->Ex->Bd->Option (Int×Bd)
 |0,_,_=>none
 |n+1,x,s=>
  if x.kind=1 then some (Q5 ⟨1,x.n,[]⟩ s)
  else if x.kind=2 then (s.vars[g8 c.names x.name]?).map fun v=>(v,s)
  else if x.kind=3 then
   (x.kids[0]?).bind fun k=>(il c n k s).bind fun r=>(c.arrays[g8 (c.arrays.map (·.name)) x.name]?).bind fun a=>
     let z:=oy a.len r.1 r.2
     some (Q5 ⟨23,g8 (c.arrays.map (·.name)) x.name,[z.state,r.1]⟩ z)
  else if x.kind=5 then
   (x.kids[0]?).bind fun k0=>(il c n k0 s).bind fun Qa=>
   (x.kids[1]?).bind fun k1=>(il c n k1 Qa.2).bind fun PV=>
   (x.kids[2]?).bind fun k2=>(il c n k2 {PV.2 with state:=Qa.2.state}).bind fun Qq=>
     let v:=RC Qa.1 PV.1 Qq.1 Qq.2
     let t:=RC Qa.1 PV.2.state v.2.state v.2
     some (v.1,{t.2 with state:=t.1})
  else
   (x.kids[0]?).bind fun k0=>(il c n k0 s).bind fun Qa=>
     if x.kids.length=1 then some (Q5 ⟨x.op,0,[Qa.1]⟩ Qa.2)
     else (x.kids[1]?).bind fun k1=>(il c n k1 Qa.2).bind fun PV=>
      some (Q5 ⟨x.op,0,[Qa.1,PV.1]⟩ (if x.op=7\/x.op=8 then oz PV.1 PV.2 else PV.2))
section
variable (c:Cx)
end
structure NdR (n:Nd):Prop where
 op:0<=n.op/\n.op<256
 imm:-9223372036854775808<=n.imm/\n.imm<9223372036854775808
 kids:∀k∈n.kids,0<=k/\k<2^60
 len:n.kids.length<2^30
theorem Bq(n:Int):gD n 0=n%256:=by
 rw[gD,qi];simp[Int.fdiv_one]
theorem Br(n:Int)(i:Nat):gD n (i+1)=gD (n/256) i:=by
 rw[gD,gD];have e:(2:Int)^ (8*(i+1))=256*2^ (8*i):=by
  rw[Nat.mul_add,Int.pow_add];omega
 have p:(0:Int)<=2^ (8*i):=Int.le_of_lt (Int.pow_pos bA);rw[e,Bp _ aa,Bp _ p,Int.ediv_ediv_of_nonneg bA]
theorem Pd(n:Int)(i:Nat):0<=gD n i/\gD n i<256:=by
 rw[gD,qi];omega
theorem Bt:∀(k:Nat) (n m:Int),0<=n->n<256^ k->0<=m->m<256^ k->(∀i,i<k->gD n i=gD m i)->n=m
 |0,n,m,h1,h2,h3,h4,_=>by simp at h2 h4;omega
 |k+1,n,m,h1,h2,h3,h4,h=>by
  have e:(256:Int)^ (k+1)=256*256^ k:=by rw[Int.pow_succ];omega
  rw[e]at h2 h4;have z:=h 0 aa;rw[Bq,Bq]at z;have ih:=Bt k (n/256) (m/256) aa (by generalize (256:Int)^ k=P at *;omega) aa (by generalize (256:Int)^ k=P at *;omega) (fun i F=>by rw[<-Br,<-Br];exact h (i+1) aa);omega
theorem Bu:∀{l m:List Int},(∀x∈l,0<=x/\x<256)->(∀x∈m,0<=x/\x<256)->lK l=lK m->l=m
 |[],[],_,_,_=>rfl
 |[],_::_,_,_,h=>by simp[lK]at h
 |_::_,[],_,_,h=>by simp[lK]at h
 |a::l,b::m,hl,hm,h=>by
  simp only[lK,dS,dz]at h;have i:=hl a et;have g:=hm b et;have e:a=b:=by
   have:=ki UInt8.toNat h.1;rw[UInt8.toNat_ofNat',UInt8.toNat_ofNat']at this;omega
  rw[e,Bu (fun x C=>hl x (ft _ C)) (fun x C=>hm x (ft _ C)) h.2]
theorem Bv(n:Int)(k:Nat):∀x∈RI n k,0<=x/\x<256:=fun x C=>by
 obtain⟨i,_,rfl⟩:=jA.1 C;exact Pd n i
theorem Bw(n:Nd):∀x∈mU n,0<=x/\x<256:=fun x C=>by
 rw[mU,gJ,lb,tY]at C;rcases C with rfl|C|⟨k,_,C⟩
 .rw[qi];omega
 .exact Bv _ _ x C
 .exact Bv _ _ x C
theorem Bx{n m:Int}(Z:0<=n)(g:n<18446744073709551616)(o:0<=m)(U:m<18446744073709551616)(h:RI n 8=RI m 8):n=m:=
 Bt 8 n m Z aa o aa fun i F=>List.map_inj_left.1 h i (jy.2 F)
theorem lL(n:Int):0<=IntKind.wrap .u64 n/\IntKind.wrap .u64 n<18446744073709551616:=by rw[qj];omega
theorem By:∀{i ms:List Int},(∀k∈i,0<=k/\k<2^60)->(∀k∈ms,0<=k/\k<2^60)->(i.flatMap fun k=>RI (IntKind.wrap .u64 k) 8)=(ms.flatMap fun k=>RI (IntKind.wrap .u64 k) 8)->i=ms
 |[],[],_,_,_=>rfl
 |[],m::ms,_,_,h=>by
  have:=ki List.length h;rw[qk,eh,SX]at this;simp at this;omega
 |k::i,[],_,_,h=>by
  have:=ki List.length h;rw[qk,eh,SX]at this;simp at this
 |k::i,m::ms,hk,hm,h=>by
  rw[qk,qk]at h;obtain⟨Z,g⟩:=List.append_inj h (by rw[SX,SX]);have e:=Bx (lL k).1 (lL k).2 (lL m).1 (lL m).2 Z;have RQ:=hk k et;have a2:=hm m et;rw[qj,qj]at e;have z:k=m:=aa;rw[z,By (fun x C=>hk x (ft _ C)) (fun x C=>hm x (ft _ C)) g]
theorem Pe{a b:Nd}(K:NdR a)(z:NdR b)(h:gg a=gg b):a=b:=by
 have h:=Bu (Bw a) (Bw b) h;rw[mU,mU,dz]at h;obtain⟨i,g⟩:=h;obtain⟨o,U⟩:=List.append_inj g (by rw[SX,SX]);have Y:=Bx (lL _).1 (lL _).2 (lL _).1 (lL _).2 o;have V:=By K.kids z.kids U;have M:=K.op;have L:=z.op;have J:=K.imm;have m:=z.imm;rw[qi,qi]at i;rw[qj,qj]at Y;obtain⟨Z,A,C⟩:=a;obtain⟨F,I,O⟩:=b;simp only at *;rw[show Z=F by omega,show A=I by omega,V]
theorem Pf(x:Nd)(l:List Nd)(n:Nd):fA (x::l) n=if x=n then 0 else fA l n+1:=by
 unfold fA;rw[List.findIdx_cons];by_cases h:x=n<;>simp[h]
theorem Pg(l:List Nd)(n:Nd):fA l n<=l.length:=by unfold fA;exact List.findIdx_le_length
theorem Ph{l:List Nd}{n:Nd}:fA l n<l.length↔n∈l:=by
 unfold fA;rw[List.findIdx_lt_length];simp
theorem we(l:List Nd)(n:Nd):l<+:kM l n:=by
 unfold kM;split
 .exact ql l
 .exact List.prefix_append l [n]
theorem Bz{l:List Nd}{n x:Nd}:x∈kM l n↔x∈l\/x=n:=by
 unfold kM;split
 .rename_i h;have:=Ph.1 h;constructor
  .exact .inl
  .rintro(h|rfl)
   .exact h
   .exact this
 .simp
def atV(l:List Nd)(i:Nat):List (Rh×Int):=(l.zipIdx i).map fun p=>(gg p.1,(p.2:Int))
theorem Pi(x:Nd)(l:List Nd)(i:Nat):atV (x::l) i=(gg x,(i:Int))::atV l (i+1):=by rw[atV,List.zipIdx_cons];rfl
theorem BA{n:Nd}(m:NdR n):∀(l:List Nd) (i:Nat),(∀x∈l,NdR x)->hY (atV l i) (gg n)=decide (fA l n<l.length)/\(fA l n<l.length->eu (atV l i) (gg n)=((i+fA l n:Nat):Int))/\(¬fA l n<l.length->∀x,setV (atV l i) (gg n) x=atV l i++[(gg n,x)])
 |[],i,_=>⟨rfl,fun h=>by simp[fA]at h,fun _ x=>rfl⟩
 |x::l,i,hl=>by
  obtain⟨Z,g,o⟩:=BA m l (i+1) fun y A=>hl y (ft _ A)
  rw[Pf,Pi,em];by_cases e:x=n
  .subst e;refine⟨by simp[hY],fun _=>by simp[eu],fun h=>ko⟩
  .have J:¬gg n=gg x:=fun h=>e (Pe m (hl x et) h).symm;rw[af e];refine⟨?_,fun h=>?_,fun h y=>?_⟩
   .simp only[hY,J];rw[Z];simp
   .have:=g aa;simp only[eu,J,cC];rw[this];congr 1;omega
   .have:=o aa y;simp only[setV,J,cC,this,fM]
theorem Pj(l:List Nd)(n:Nd):atV l 0++[(gg n,(l.length:Int))]=atV (l++[n]) 0:=by
 simp[atV,List.zipIdx_append]
structure Lx where
 p:Pr
 b:Nat
 ra:Nat
 rf:Nat
 rt:Nat
 rn:Nat
 ae:List (Rh×Int)
 fe:List (Rh×Int)
 ne:List (Rh×Int)
def RA(X:Lx)(s:Bd)(I M:AV):List AV:=[.lst (X.p.arrays.map Ar.cells),.lst (X.p.funcs.map Fu.cells),.map X.ra,.map X.rf,I,.map X.rt,.map X.rn,M,.int .i64 s.state,.int .i64 s.loops]
structure RepL (X:Lx) (H:Hp) (S:Nat->Prop) (s:Bd) (lv vv:AV):Prop where
 m:H.get X.b=some (.cells (RA X s lv vv) 0 true)
 a:H.get X.ra=some (.map (cI X.ae))
 f:H.get X.rf=some (.map (cI X.fe))
 t:H.get X.rt=some (.map (cI (atV s.l 0)))
 n:H.get X.rn=some (.map (cI X.ne))
 nodes:Q6 S 2 H 3 lv (s.l.map Nd.cells)
 vars:jR H vv s.vars 0
 o1:X.ra<X.rf
 o2:X.rf<X.rt
 o3:X.rt<X.rn
 o4:X.rn<X.b
 o5:X.b<H.next
 sS:∀k,S k->X.b<k/\k<H.next/\¬Rb vv k
 vS:∀k,Rb vv k->X.b<k/\k<H.next
structure Sm (n:Nat) (H H':Hp):Prop where
 get:∀k,k<n->H'.get k=H.get k
structure FrL (X:Lx) (S:Nat->Prop) (vv:AV) (H:Hp) (S':Nat->Prop) (vv':AV) (H':Hp):Prop where
 next:H.next<=H'.next
 get:∀k,k<H.next->k≠X.b->k≠X.rt->¬S k->¬Rb vv k->H'.get k=H.get k
 sub:∀k,S' k->S k\/H.next<=k
 own:∀k,Rb vv' k->Rb vv k\/H.next<=k
theorem FrL.refl(X:Lx)(S:Nat->Prop)(M:AV)(H:Hp):FrL X S M H S M H:=⟨aC _,fun _ _ _ _ _ _=>rfl,fun _ h=>.inl h,fun _ h=>.inl h⟩
def dM:=@FrL.refl
theorem FrL.trans{X:Lx}{S S' K:Nat->Prop}{v A Z:AV}{H H' Y:Hp}(h:FrL X S v H S' A H')(k:FrL X S' A H' K Z Y):FrL X S v H K Z Y where
 next:=ea h.next k.next
 get r h1 h2 h3 h4 h5:=by
  rw[k.get r (oW h1 h.next) h2 h3 (fun e=>?_) (fun e=>?_)]
  .exact h.get r h1 h2 h3 h4 h5
  .rcases h.sub r e with e|e
   .exact h4 e
   .omega
  .rcases h.own r e with e|e
   .exact h5 e
   .omega
 sub r e:=by
  rcases k.sub r e with e|e
  .exact h.sub r e
  .exact .inr (ea h.next e)
 own r e:=by
  rcases k.own r e with e|e
  .exact h.own r e
  .exact .inr (ea h.next e)
section
variable {X:Lx} {H H':Hp} {S:Nat -> Prop} {s:Bd} {lv vv:AV}
theorem RepL.keep(h:RepL X H S s lv vv)(m:H.next<=H'.next)(A:∀k,k<H.next->(k<=X.b\/S k\/Rb vv k)->H'.get k=H.get k):RepL X H' S s lv vv:=by
 have Z:=h.o1;have U:=h.o2;have L:=h.o3;have g:=h.o4;have Y:=h.o5;refine⟨by rw[A _ Y (.inl (aC _))];exact h.m,by rw[A _ aa (.inl aa)];exact h.a,by rw[A _ aa (.inl aa)];exact h.f,by rw[A _ aa (.inl aa)];exact h.t,by rw[A _ aa (.inl aa)];exact h.n,h.nodes.keep (fun _ _ h=>h) m fun k j o=>A k o (.inr (.inl j)),h.vars.keep m fun k j=>A k (h.vS k j).2 (.inr (.inr j)),Z,U,L,g,aa,fun k j=>?_,fun k j=>?_⟩
 .have:=h.sS k j;exact⟨this.1,aa,this.2.2⟩
 .have:=h.vS k j;omega
theorem RepL.alloc(h:RepL X H S s lv vv)(b:HB):RepL X (H.alloc b) S s lv vv:=h.keep (dD _) fun k j _=>fT
theorem FrL.alloc{M:Nat->Prop}{Z:AV}{Qv:Hp}(h:FrL X M Z Qv S vv H)(b:HB):FrL X M Z Qv S vv (H.alloc b):=h.trans ⟨dD _,fun k j _ _ _ _=>fT,fun _ h=>.inl h,fun _ h=>.inl h⟩
theorem RepL.setS(h:RepL X H S s lv vv)(x:Int):RepL X (H.set X.b (.cells (RA X {s with state:=x} lv vv) 0 true)) S {s with state:=x} lv vv/\FrL X S vv H S vv (H.set X.b (.cells (RA X {s with state:=x} lv vv) 0 true)):=by
 have o:=h.o1;have U:=h.o2;have L:=h.o3;have Z:=h.o4;have Y:=h.o5;have A:∀k,k≠X.b->(H.set X.b (.cells (RA X {s with state:=x} lv vv) 0 true)).get k=H.get k:=fun k j=>wd;refine⟨⟨dQ,by rw[A _ aa];exact h.a,by rw[A _ aa];exact h.f,by rw[A _ aa];exact h.t,by rw[A _ aa];exact h.n,h.nodes.keep (fun _ _ h=>h) (aC _) fun k j V=>A k (by have:=h.sS k j;omega),h.vars.keep (aC _) fun k j=>A k (by have:=h.vS k j;omega),o,U,L,Z,Y,h.sS,h.vS⟩,⟨aC _,fun k _ g _ _ _=>A k g,fun _ h=>.inl h,fun _ h=>.inl h⟩⟩
theorem RepL.setV(h:RepL X H S s lv vv){i:Nat}(F:i<s.vars.length)(x:Int):∃r,Qt Tryz.prog 23 vv (.int .i64 (i:Int))=some (.ptr r i)/\Ru Tryz.prog H 3 (.ptr r i)=some (.int .i64 (s.vars.getD i 0)) /\
 ∃H',RT Tryz.prog H 3 (.ptr r i) (.int .i64 x)=some H'/\X.b<r/\r<H.next/\Rb vv r/\RepL X H' S {s with vars:=s.vars.set i x} lv vv/\FrL X S vv H S vv H'/\(∀k,k≠r->H'.get k=H.get k)/\H'.next=H.next:=by
 rcases h.vars with⟨_,g⟩|⟨r,J,A,Z,hr⟩
 .rw[g]at F;simp at F
 .have L:Rb vv r:=⟨_,J⟩;have M:=(h.vS r L).1;refine⟨r,?_,?_,H.set r (.cells ((s.vars.set i x).map (.int .i64)) 0 true),?_,M,hr,L,?_,⟨aC _,fun k _ _ _ _ Y=>?_,fun _ h=>.inl h,fun _ h=>.inl h⟩,fun k j=>wd,rfl⟩
  .rw[J,mh Tryz.underlying23 fy F];simp
  .rw[j3 Tryz.underlying3 rfl A,dY,cN,a1 F];rfl
  .rw[pY A (by rw[cS];exact F),lq]
  .have o:=h.o1;have U:=h.o2;have V:=h.o3;have O:=h.o4;have K:=h.o5;have j:∀k,k≠r->(H.set r (.cells ((s.vars.set i x).map (.int .i64)) 0 true)).get k=H.get k:=fun k j=>wd;refine⟨by rw[j _ aa];exact h.m,by rw[j _ aa];exact h.a,by rw[j _ aa];exact h.f,by rw[j _ aa];exact h.t,by rw[j _ aa];exact h.n,h.nodes.keep (fun _ _ h=>h) (aC _) fun k hS _=>j k fun e=>(h.sS k hS).2.2 (by rw[e];exact L),.inr ⟨r,by rw[J,me],dQ,Z,hr⟩,o,U,V,O,K,h.sS,h.vS⟩
  .rw[a9,af (fun e=>Y (by rw[e];exact L))]
end
def tyLoB.tyF:=ac @dr (ac @cZ (ac @uS (ac @jK (ac @dK (ac @ey (ac @ez (ac @pQ (ac @r1 (ac @r2 (ac @r5 (ac @yM (ac @r7 (ac @yO (ac @yQ (ac @r4 (ac @yP (ac @yS (ac @Bl (ac @gW (@gX))))))))))))))))))))
open tyLoB
noncomputable def BB:{c:SC // aB 20 (Tryz.f137.body.getD .skip)=c}:=by
 refine⟨?_,?_⟩;rotate_left
 .simp only[Tryz.f137,bh,aB,Qh,Qe,Qm,Qn,Nat.blt,Nat.ble];rfl
noncomputable def BC:{c:SC // aB 69 (Tryz.f89.body.getD .skip)=c}:=by
 refine⟨?_,?_⟩;rotate_left
 .simp only[Tryz.f89,bh,aB,Qh,Qe,Qm,Qn,Nat.blt,Nat.ble];rfl
def BD(f:FuncId):Bool:=Nat.beq f 137||Nat.beq f 89||Nat.beq f 90||Nat.beq f 91||Nat.beq f 92||Nat.beq f 138||Nat.beq f 139||Nat.beq f 140||Nat.beq f 141||Nat.beq f 175||Nat.beq f 176||Nat.beq f 177||Nat.beq f 198||Nat.beq f 56
structure LowT (tb:List En):Prop where
 pl:∀f,BD f=true->(∀ar,QT tb f ar=none)/\iI tb f=false
theorem LowT.plain{tb:List En}(h:LowT tb){f:FuncId}(g:BD f=true):Plain (PU pls tb) f:=Ra (h.pl f g).1 (h.pl f g).2
theorem BE{cfg:Cfg}(J:Plain cfg 137)(V:cfg.keep 137=false){H:Hp}{v:AV}{b:List Int}{lo:Nat}(hv:gf H v b lo)(z:b.length<2^38)(n:Int):
 P2 Tryz.prog cfg 137 [v,.int .u64 n] H fun w H'=>gf H' w (b++RI n 8) lo/\H.next<=H'.next/\∀k,k<lo->H'.get k=H.get k:=by
 obtain⟨Qa,i0,U,_⟩:=id hv;have hone:AV.one v=true:=by rw[U];rfl
 clear U;refine P4 (M:=20) (rs:=[.tmp 4]) (J.call _) J.ice J.froz Tryz.func137 rfl rfl BB.2 rfl ?_;dsimp only[BB,PZ,Nat.reduceAdd];repeat' (first
  |(apply PO ?_;clear hK K)|apply Rx.o ?_|apply aj ?_|(apply PP fun K hK=>?_)|apply ay ?_|fail)
 refine Rk [1] [] 5 8 (fun i E m=>∃w,E.at 0=w/\gf m w (b++RI n i) lo/\∀k,k<lo->m.get k=H.get k) eE ⟨v,eE,by simpa [RI]using hv,fun _ _=>rfl⟩ ?_;rintro i E m hi I F C hsI ⟨w,k0,O,Z⟩;(try simp only[QK,Qs,a7,P7,Qy,Nat.reduceBEq, *]at I);(try simp only[Qs, *]at F);(try simp only[QA,QZ,Re,bZ,Nat.reduceAdd]at C);by_cases A:i<8
 .have L:(i:Int)<8:=by omega
  have e1:IntKind.wrap .i64 (8*(i:Int))=((8*i:Nat):Int):=sG;have e2:IntKind.wrap .u64 ((8*i:Nat):Int)=((8*i:Nat):Int):=(by decide:∀i:_root_.Fin 8,IntKind.wrap .u64 ((8*i.val:Nat):Int)=((8*i.val:Nat):Int)) ⟨i,A⟩;have e4:∀(D:BinOp->Sx->Sx->Option Bool) (t:TypeId),QR Tryz.prog D .shr t (.int .u64 n) (.int .u64 ((8*i:Nat):Int))=some (.int .u64 (n.fdiv (2^ (8*i)))):=fun D t=>bin_shr aa rfl;repeat' (first
   |(apply PO ?_;clear hK K)|apply Ry.o ?_|(apply aH (fun z Y=>?_) (fun z Y=>?_)<;>try(cases z;done))|apply aj ?_|(apply PP fun K hK=>?_)|apply ay ?_|apply PR ?_|fail)
  have o:wc (m.alloc (.cells [.int .u8 (gD n i)] 0 true)) w (b++RI n i) lo:=.inr (O.keep (dD _) fun k j=>by rw[P8,af (by have:=(O.lt j).2;omega)]);have hlo2:lo<=m.next:=by obtain⟨r,im,_,_,_,h1,h2⟩:=O;omega
  obtain⟨v5,H5,a5,s5,n5,f5,o5⟩:=O7 (r:=m.next) (imm:=0) (gD n i) o lz eX (by rw[eh,SX];omega);have n5':m.next<=H5.next:=kH
  have g:∀k,k<lo->H5.get k=H.get k:=fun k j=>by rw[f5 k j,P8,af aa,Z k j]
  clear n5 f5 o5;refine mg eV eV (by rw[V];exact a5) ?_;repeat' (first
   |(apply PO ?_;clear hK K)|apply Rx.o ?_|(apply PP fun K hK=>?_)|fail)
  refine⟨aa,P1,P1,QN,(by simp only[P7,Nat.reduceBEq, *];exact Su (n:=8) aa aa),?_⟩;exact⟨v5,eE,by rw[O8,<-iz];exact s5,g⟩
 .have L:¬(i:Int)<8:=by omega
  repeat' (first
   |(apply PO ?_;clear hK K)|apply Ry.o ?_|(apply aH (fun z Y=>?_) (fun z Y=>?_)<;>try(cases z;done))|apply aj ?_|(apply PP fun K hK=>?_)|apply aq ?_|apply PX ?_)
  all_goals (refine⟨eI,_,P0,?_⟩;try simp only[PT])
  have hie:i=8:=aa;rw[hie]at O;exact⟨O,aa,Z⟩
theorem QL.len'{H:Hp}{v:AV}{l:List Int}{lo:Nat}(h:QL H v l lo)(H':Hp):Qr Tryz.prog H' 23 v=some (.int .i64 l.length):=by
 rcases h with⟨rfl,rfl⟩|h
 .exact Sa Tryz.underlying23
 .exact h.len
theorem Pk{S:Nat->Prop}{H:Hp}{kv:AV}{kids:List Int}{lo:Nat}(op imm:Int)(j:QL H kv kids lo)(hS:∀k,Rb kv k->S k):Q4 S 2 H [.int .i64 op,.int .i64 imm,kv] (Nd.mk op imm kids).cells:=by
 refine .cons (.int _ _) (.cons (.int _ _) (.cons ?_ .nil));rcases j with⟨rfl,rfl⟩|⟨r,i,rfl,g,o,U,A⟩
 .exact .nilS
 .exact vR kids (hS r ⟨_,rfl⟩) A g o
theorem Pm{H:Hp}{kv:AV}{l:List Int}{lo:Nat}(h:QL H kv l lo)(a b:Int):jn Tryz.prog 25 [(0,.int .i64 a),(1,.int .i64 b),(2,kv)]=some (.agg [.int .i64 a,.int .i64 b,kv]):=by
 rcases h with⟨rfl,rfl⟩|⟨r,i,rfl,_⟩<;>kernel_rfl
theorem QL.one{H:Hp}{kv:AV}{l:List Int}{lo:Nat}(h:QL H kv l lo):AV.one kv=true:=by
 rcases h with⟨rfl,rfl⟩|⟨r,i,rfl,_⟩<;>rfl
theorem wg:j0 Tryz.prog 3=some (.int .i64 0):=ad
theorem Tb:jN Tryz.prog 9=some .string:=ad
def oA(X:Lx)(S:Nat->Prop)(M kv:AV)(H:Hp)(n:Nd)(s:Bd)(v:AV)(H':Hp):Prop:=v=.int .i64 (Q5 n s).1/\∃j m,RepL X H' j (Q5 n s).2 m M/\H.next<=H'.next/\(∀k,k<H.next->k≠X.b->k≠X.rt->¬S k->H'.get k=H.get k)/\∀k,j k->S k\/Rb kv k\/H.next<=k
set_option maxRecDepth 100000 in
theorem BF{tb:List En}(hG:LowT tb){X:Lx}{H:Hp}{S:Nat->Prop}{s:Bd}{lv L kv:AV}(hR:RepL X H S s lv L)(n:Nd)(Z:QL H kv n.kids 0)(I:∀k,Rb kv k->X.b<k/\¬S k/\¬Rb L k)(hr:∀x∈kM s.l n,NdR x)(hlen:s.l.length<2^36):
 P2 Tryz.prog (PU pls tb) 89 [.ptr X.b 0,.int .i64 n.op,.int .i64 n.imm,kv] H (oA X S L kv H n s):=by
 have hw:Plain (PU pls tb) 89:=hG.plain gz;have hap:Plain (PU pls tb) 137:=hG.plain gz;have hkeep:(PU pls tb).keep 89=false:=rfl;have hn:NdR n:=hr n (Bz.2 (.inr rfl));have hnl:=hn.len;have o1:=hR.o1;have o2:=hR.o2;have o3:=hR.o3;have o4:=hR.o4;have o5:=hR.o5;have hkn:=Z.len';refine P4 (M:=69) (rs:=[.tmp 8]) (hw.call _) hw.ice hw.froz Tryz.func89 rfl rfl BC.2 rfl ?_;dsimp only[BC,PZ,Nat.reduceAdd];repeat' (first
  |(apply PO ?_;clear hK K)|apply Rx.o ?_|apply aj ?_|(apply PP fun K hK=>?_)|fail)
 refine ci rfl cu cy ?_;simp only[b8];refine b3 ?_ (BE hap rfl (b:=[IntKind.wrap .u8 n.op]) (lo:=H.next) ⟨H.next,0,rfl,ga,ca _,aC _,by simp[QA]⟩ aA _);rintro w H1 ⟨hw1,S0,q1⟩;have n1':H.next<=H1.next:=by simp only[QA]at S0;omega
 have q1':∀k,k<H.next->H1.get k=H.get k:=fun k Z=>by rw[q1 k Z,P8,af aa]
 clear S0 q1;dsimp only[Qo];repeat' (first
  |(apply PO ?_;clear hK K)|apply Rx.o ?_|apply aj ?_|(apply PP fun K hK=>?_)|apply ay ?_|fail)
 refine Rk [0,1,2,3,8,20,21] [] 22 n.kids.length (fun j E Y=>∃w,E.at 9=w/\gf Y w ([IntKind.wrap .u8 n.op]++RI (IntKind.wrap .u64 n.imm) 8++(n.kids.take j).flatMap fun k=>RI (IntKind.wrap .u64 k) 8) H.next/\Sm H.next H Y) eE ⟨w,eE,by simpa using hw1,⟨q1'⟩⟩ ?_;rintro j E Y hj hcE hrH hnH hsI ⟨w2,k9,hw2,V⟩;(try simp only[QK,Qs,a7,P7,Qy,Nat.reduceBEq, *]at hcE);(try simp only[Qs, *]at hrH);(try simp only[QA,QZ,Re,bZ,Nat.reduceAdd]at hnH);have n2':H.next<=Y.next:=aa
 by_cases F:j<n.kids.length
 .have hlt':(j:Int)<n.kids.length:=by omega
  have htk:n.kids.take (j+1)=n.kids.take j++[n.kids[j]]:=by rw[qT,a1 F];rfl
  have hfl:((n.kids.take j).flatMap fun k=>RI (IntKind.wrap .u64 k) 8).length<=8*j:=by
   rw[List.length_flatMap];simp only[SX];have:((n.kids.take j).map fun _=>8).sum=8*(n.kids.take j).length:=by
    generalize n.kids.take j=q;induction q with
    |nil=>rfl
    |cons a q ih=>simp[ih];omega
   rw[this,kU];omega
  have hkb:dx Y kv n.kids 0:=by
   rcases Z with⟨_,g⟩|g
   .rw[g]at F;simp at F
   .exact g.keep aa fun k Z=>V.get k (g.lt Z).2
  obtain⟨r,hix,hld⟩:=hkb.at F;generalize n.kids[j]=kd at *;repeat' (first
   |(apply PO ?_;clear hK K)|apply Ry.o ?_|(apply aH (fun hb O=>?_) (fun hb O=>?_)<;>try(cases hb;done))|apply aj ?_|(apply PP fun K hK=>?_)|apply ay ?_|apply PR ?_|fail)
  refine ci rfl cu cy ?_;simp only[b8];refine b3 ?_ (BE hap rfl hw2 (by rw[eh,eh,SX,vC];omega) _);rintro w3 H3 ⟨hw3,n3,q3⟩;dsimp only[Qo];repeat' (first
   |(apply PO ?_;clear hK K)|apply Rx.o ?_|(apply PP fun K hK=>?_)|fail)
  refine⟨aa,P1,P1,QN,p9,?_⟩;exact⟨w3,eE,by rw[htk,List.flatMap_append,qk,List.flatMap_nil,b8,<-iz];exact hw3,⟨fun k Z=>by rw[q3 k Z];exact V.get k Z⟩⟩
 .have hlt':¬(j:Int)<n.kids.length:=by omega
  have hje:n.kids.take j=n.kids:=fF aa;rw[hje,<-O9]at hw2;have hcv:=Pa hw2;have i:RepL X Y S s lv L:=hR.keep n2' fun k Z _=>V.get k Z;have m2:=i.m;unfold RA at m2;have hlk:=EN (P:=Tryz.prog) (t:=110) Tryz.underlying110 Tb wg i.t (gg n);obtain⟨f1,f2,f3⟩:=BA hn s.l 0 (fun x hx=>hr x (Bz.2 (.inl hx)));clear hje hw1 q1';have hcv':RU Tryz.prog Y 200 9 w2=some (.str (gg n)):=hcv;clear hcv;by_cases z:fA s.l n<s.l.length
  .rw[mD z]at f1;have f2:=f2 z;rw[f1,f2]at hlk;repeat' (first
    |(apply PO ?_;clear hK K)|apply Ry.o ?_|(apply aH (fun hb O=>?_) (fun hb O=>?_)<;>try(cases hb;done))|apply aj ?_|(apply PP fun K hK=>?_)|(apply PQ 7 [(3,12),(5,12),(6,12)] fun K hK=>?_)|(apply P5 ?_;try intro _)|(apply P6 ?_ ?_<;>clear hK K)|apply aS ?_|apply PR ?_|apply aq ?_|apply PX ?_)
   all_goals first
    |exact eK
    |skip
   all_goals (refine⟨eI,_,P0,?_⟩;try simp only[PT])
   have e1:Q5 n s=(((fA s.l n:Nat):Int),s):=by rw[Q5,kM,az z]
   rw[oA,e1];exact⟨aA,S,lv,i,n2',fun k U _ _ _=>V.get k U,fun k Z=>.inl Z⟩
  .rw[mC z]at f1;have f3:=f3 z;have hix:fA s.l n=s.l.length:=by have:=Pg s.l n;omega
   have hadd:kM s.l n=s.l++[n]:=by rw[kM,af z]
   rw[f1]at hlk;have hll:∀H',Qr Tryz.prog H' 26 lv=some (.int .i64 s.l.length):=fun H'=>by
    have:=i.nodes.len (P:=Tryz.prog) (t:=26) (H':=H') Tryz.underlying26
    rwa [cS]at this
   have hup:SD Tryz.prog Y 110 (.map X.rt) (.str (gg n)) (.int .i64 s.l.length)=some (Y.set X.rt (.map (cI (atV (s.l++[n]) 0)))):=by
    rw[(EI (P:=Tryz.prog) (t:=110) (nm:=gg n) Tryz.underlying110 Tb i.t).1 ((uI (gg n) (atV s.l 0) 0).1 f1).1,<-Pj];simp[cI]
   have hbn:=Pm Z n.op n.imm;have hone:=Z.one;have hbs:∀H,Rs Tryz.prog H 26 1 [(0,.agg [.int .i64 n.op,.int .i64 n.imm,kv])]=some (.sl H.next 0 1 3,H.alloc (.cells [.int .i64 n.op,.int .i64 n.imm,kv] 0 true)):=fun H=>sT H rfl Bn;have g3:∀k,k≠X.rt->(Y.set X.rt (.map (cI (atV (s.l++[n]) 0)))).get k=Y.get k:=fun k Z=>tm;have g4:∀k,k≠X.rt->k<Y.next->((Y.set X.rt (.map (cI (atV (s.l++[n]) 0)))).alloc (.cells [.int .i64 n.op,.int .i64 n.imm,kv] 0 true)).get k=Y.get k:=fun k Z hl=>by rw[P8,af lJ,g3 k Z]
   have m3:(Y.set X.rt (.map (cI (atV (s.l++[n]) 0)))).get X.b=some (.cells (RA X s lv L) 0 true):=by rw[g3 _ aa];exact i.m
   have m4:((Y.set X.rt (.map (cI (atV (s.l++[n]) 0)))).alloc (.cells [.int .i64 n.op,.int .i64 n.imm,kv] 0 true)).get X.b=some (.cells (RA X s lv L) 0 true):=by rw[g4 _ aa aa];exact i.m
   have g4n:((Y.set X.rt (.map (cI (atV (s.l++[n]) 0)))).alloc (.cells [.int .i64 n.op,.int .i64 n.imm,kv] 0 true)).get Y.next=some (.cells [.int .i64 n.op,.int .i64 n.imm,kv] 0 true):=sn
   have A:∀k,Rb kv k->k<H.next:=fun k C=>(Z.lt C).2
   obtain⟨H5,a5,s5,n5,q5⟩:=Pc (P:=Tryz.prog) (t:=26) Tryz.underlying26 jL nK nL rfl ad (S':=fun k=>S k\/Rb kv k\/k=Y.next+1)
    (i.nodes.keep (S':=S) (H':=(Y.set X.rt (.map (cI (atV (s.l++[n]) 0)))).alloc (.cells [.int .i64 n.op,.int .i64 n.imm,kv] 0 true)) (fun _ _ h=>h) (dD _) fun k Z h6=>g4 k (by have:=(i.sS k Z).1;omega) h6)
    (fun k _ h=>.inl h) (.inr (.inr rfl)) (r:=Y.next) (imm:=0) (row:=[.int .i64 n.op,.int .i64 n.imm,kv]) (w:=n.cells) g4n rfl Bn
    (Pk n.op n.imm (lo:=0) (Z.keep (by simp only[QA,QZ];omega) fun k C=>by rw[g4 k (by have:=(I k C).1;omega) (by have:=A k C;omega)];exact V.get k (A k C)) fun k C=>⟨.inr (.inl C),fun o m z' e=>(I k C).2.1 (by
      rcases i.nodes with⟨U,_⟩|⟨q,im,rows,U,g,_⟩
      .rw[U]at e;cases e
      .rw[U]at e;simp only[AV.sl.injEq]at e;rw[<-e.1];exact g)⟩)
    Bo Bo
   rw[cS]at a5 s5;simp only[QA,QZ]at a5 s5 n5 q5;have hno:∀k,(¬S k)->∀o m z',lv≠.sl k o m z':=fun k Z o m z' e=>Z (by
    rcases i.nodes with⟨U,_⟩|⟨q,im,rows,U,g,_⟩
    .rw[U]at e;cases e
    .rw[U]at e;simp only[AV.sl.injEq]at e;rw[<-e.1];exact g)
   have m5:H5.get X.b=some (.cells (RA X s lv L) 0 true):=by rw[q5 _ aa (hno _ fun e=>qh)];exact m4
   have J:∀k,k<Y.next->k≠X.rt->¬S k->H5.get k=Y.get k:=fun k U g h3=>by rw[q5 _ aa (hno _ h3)];exact g4 k g U
   have t5:H5.get X.rt=some (.map (cI (atV (s.l++[n]) 0))):=by rw[q5 _ aa (hno _ fun e=>qh),P8,af lJ,a9,az rfl]
   have hpo:Q5 n s=(((fA s.l n:Nat):Int),{s with l:=s.l++[n] }):=by rw[Q5,hadd]
   have fin:oA X S L kv H n s (.int .i64 s.l.length) (H5.set X.b (.cells (RA X {s with l:=s.l++[n] } (.sl (Y.next+1) 0 (s.l.length+1) 3) L) 0 true)):=by
    rw[oA,hpo,hix];have g6:∀k,k≠X.b->(H5.set X.b (.cells (RA X {s with l:=s.l++[n] } (.sl (Y.next+1) 0 (s.l.length+1) 3) L) 0 true)).get k=H5.get k:=fun k Z=>tm;refine⟨rfl,fun k=>S k\/Rb kv k\/k=Y.next+1,_,⟨dQ,?_,?_,?_,?_,?_,?_,o1,o2,o3,o4,?_,?_,?_⟩,?_,?_,?_⟩
    .rw[g6 _ aa,J _ aa aa fun e=>qh];exact i.a
    .rw[g6 _ aa,J _ aa aa fun e=>qh];exact i.f
    .rw[g6 _ aa];exact t5
    .rw[g6 _ aa,J _ aa aa fun e=>qh];exact i.n
    .have e:(s.l++[n]).map Nd.cells=s.l.map Nd.cells++[n.cells]:=by simp
     rw[e];refine s5.keep (fun _ _ h=>h) (aC _) fun k Z _=>g6 k ?_;rcases Z with Z|Z|Z
     .have:=(i.sS _ Z).1;omega
     .have:=(I _ Z).1;omega
     .omega
    .exact i.vars.keep lJ fun k Z=>by rw[g6 k (by have:=(i.vS k Z).1;omega),J k (i.vS k Z).2 (by have:=(i.vS k Z).1;omega) fun e=>(i.sS k e).2.2 Z]
    .simp only[QZ];omega
    .rintro k (Z|Z|Z)
     .have:=i.sS k Z;exact⟨this.1,lJ,this.2.2⟩
     .have:=I k Z;have g:=A k Z;exact⟨this.1,lJ,this.2.2⟩
     .refine⟨aa,lJ,fun e=>?_⟩;have:=(i.vS k e).2;omega
    .intro k Z;have:=i.vS k Z;simp only[QZ];omega
    .simp only[QZ];omega
    .intro k U g h3 h4;rw[g6 k g,J k aa h3 h4];exact V.get k U
    .rintro k (Z|Z|Z)
     .exact .inl Z
     .exact .inr (.inl Z)
     .exact .inr (.inr aa)
   unfold RA at m3 m4 m5 fin;clear s5 J t5 g3 g4 q5 A;repeat' (first
    |(apply PO ?_;clear hK K)|apply Ry.o ?_|apply bC ?_|(apply aH (fun hb O=>?_) (fun hb O=>?_)<;>try(cases hb;done))|apply aj ?_|(apply PP fun K hK=>?_)|(apply PQ 7 [(3,12),(5,12),(6,12)] fun K hK=>?_)|(apply QD 10 fun K hK=>?_)|(apply P5 ?_;try intro _)|(apply P6 ?_ ?_<;>clear hK K)|apply aS ?_|apply aq ?_|apply PX ?_)
   all_goals first
    |exact eK
    |skip
   all_goals (refine⟨eI,_,P0,?_⟩;try simp only[PT])
   exact fin
end
section
structure RG (a b:Bd):Prop where
 l:a.l<+:b.l
 n:a.loops<=b.loops
theorem RG.refl(a:Bd):RG a a:=⟨ql _,aC _⟩
theorem RG.trans{a b c:Bd}(h:RG a b)(k:RG b c):RG a c:=⟨h.l.trans k.l,ea h.n k.n⟩
structure Fin (s:Bd):Prop where
 r:∀x∈s.l,NdR x
 l:s.l.length<2^36
 n:s.loops<2^36
theorem Fin.le{a b:Bd}(h:Fin b)(k:RG a b):Fin a:=⟨fun x C=>h.r x (k.l.subset C),pL k.l.length_le h.l,pL k.n h.n⟩
structure Lv (a b:Bd):Prop where
 le:RG a b
 v:b.vars=a.vars
 n:b.loops=a.loops
theorem Lv.refl(a:Bd):Lv a a:=⟨RG.refl a,rfl,rfl⟩
theorem Lv.trans{a b c:Bd}(h:Lv a b)(k:Lv b c):Lv a c:=⟨h.le.trans k.le,k.v.trans h.v,k.n.trans h.n⟩
theorem Lv.setS{a b:Bd}(h:Lv a b)(x:Int):Lv a {b with state:=x}:=⟨⟨h.le.l,h.le.n⟩,h.v,h.n⟩
theorem Sl(n:Nd)(s:Bd):Lv s (Q5 n s).2:=⟨⟨we s.l n,aC _⟩,rfl,rfl⟩
theorem sZ(c a b:Int)(s:Bd):Lv s (RC c a b s).2:=by
 unfold RC;split
 .exact Lv.refl s
 .exact Sl _ s
theorem s0(t v:Int)(s:Bd):Lv s (qm t v s):=(Sl _ s).setS _
theorem BG(t v:Int)(s:Bd):Lv s (oy t v s):=(Sl _ s).trans ((Sl _ _).trans (s0 _ _ _))
theorem BH(v:Int)(s:Bd):Lv s (oz v s):=(Sl _ s).trans ((Sl _ _).trans (s0 _ _ _))
theorem qn(c:Cx):∀(n:Nat) (x:Ex) (s:Bd) (r:Int×Bd),il c n x s=some r->Lv s r.2
 |0,_,_,_,h=>by simp[il]at h
 |n+1,x,s,r,h=>by
  have Y:=qn c n;unfold il at h;split at h
  .cases h;exact Sl _ s
  split at h
  .obtain⟨v,_,rfl⟩:=jt.1 h;exact Lv.refl s
  split at h
  .simp only[iY,au]at h;obtain⟨k,_,PV,i,a,_,rfl⟩:=h;exact(Y _ _ _ i).trans ((BG _ _ _).trans (Sl _ _))
  split at h
  .simp only[iY,au]at h;obtain⟨k0,_,Qa,z,k1,_,PV,i,k2,_,Qq,g,rfl⟩:=h;have a:=(Y _ _ _ z).trans (Y _ _ _ i);have b:=(a.setS Qa.2.state).trans (Y _ _ _ g);exact(b.trans ((sZ _ _ _ _).trans (sZ _ _ _ _))).setS _
  .simp only[iY]at h;obtain⟨k0,_,Qa,z,h⟩:=h;have a:=Y _ _ _ z;split at h
   .cases h;exact a.trans (Sl _ _)
   .simp only[iY,au]at h;obtain⟨k1,_,PV,i,rfl⟩:=h;have b:=a.trans (Y _ _ _ i);refine Lv.trans ?_ (Sl _ _);split
    .exact b.trans (BH _ _)
    .exact b
def tyLoC.tyF:=ac @cZ (ac @jK (ac @dK (ac @ez (ac @yw (ac @GA (ac @yA (ac @pQ (ac @r1 (@r2)))))))))
open tyLoC
noncomputable def BI:{c:SC // aB 8 (Tryz.f90.body.getD .skip)=c}:=by
 refine⟨?_,?_⟩;rotate_left
 .simp only[Tryz.f90,bh,aB,Qh,Qe,Qm,Qn,Nat.blt,Nat.ble];rfl
noncomputable def BJ:{c:SC // aB 18 (Tryz.f141.body.getD .skip)=c}:=by
 refine⟨?_,?_⟩;rotate_left
 .simp only[Tryz.f141,bh,aB,Qh,Qe,Qm,Qn,Nat.blt,Nat.ble];rfl
noncomputable def s6:{c:SC // aB 19 (Tryz.f177.body.getD .skip)=c}:=by
 refine⟨?_,?_⟩;rotate_left
 .simp only[Tryz.f177,bh,aB,Qh,Qe,Qm,Qn,Nat.blt,Nat.ble];rfl
noncomputable def BK:{c:SC // aB 25 (Tryz.f139.body.getD .skip)=c}:=by
 refine⟨?_,?_⟩;rotate_left
 .simp only[Tryz.f139,bh,aB,Qh,Qe,Qm,Qn,Nat.blt,Nat.ble];rfl
def jX(X:Lx)(S:Nat->Prop)(M:AV)(H:Hp)(r:Int×Bd)(v:AV)(H':Hp):Prop:=v=.int .i64 r.1/\∃j m,RepL X H' j r.2 m M/\FrL X S M H j M H'
def BL(X:Lx)(S:Nat->Prop)(M:AV)(H:Hp)(r:Bd)(v:AV)(H':Hp):Prop:=∃j m K,RepL X H' j r m K/\FrL X S M H j K H'
def BM(X:Lx)(S:Nat->Prop)(M:AV)(H:Hp)(r:Bd)(v:AV)(H':Hp):Prop:=∃j m,RepL X H' j r m M/\FrL X S M H j M H'
theorem oA.val{X:Lx}{S:Nat->Prop}{M kv:AV}{H J H':Hp}{n:Nd}{s:Bd}{v:AV}(h:oA X S M kv J n s v H')(g:FrL X S M H S M J)(j:∀k,Rb kv k->H.next<=k):jX X S M H (Q5 n s) v H':=by
 obtain⟨i,Z,m,Y,o,U,A⟩:=h;refine⟨i,Z,m,Y,ea g.next o,fun k a b c d e=>?_,fun k a=>?_,fun k a=>.inl a⟩
 .rw[U k (oW a g.next) b c d];exact g.get k a b c d e
 .rcases A k a with a|a|a
  .exact .inl a
  .exact .inr (j k a)
  .exact .inr (ea g.next a)
theorem BN{r o n z k:Nat}(h:Rb (.sl r o n z) k):k=r:=by
 obtain⟨m,e⟩:=h;simp only[AV.sl.injEq]at e;exact e.1.symm
theorem BO{k:Nat}(h:Rb .nilS k):False:=by
 obtain⟨m,e⟩:=h;cases e
theorem jY{tb:List En}(Y:LowT tb){X:Lx}{H J:Hp}{S:Nat->Prop}{s:Bd}{I M:AV}(V:RepL X J S s I M)(g:FrL X S M H S M J)(n:Nd){r m:Nat}(U:n.kids.length=m)(A:J.get r=some (.cells (n.kids.map (.int .i64)) 0 true))(hr:H.next<=r)(z:r<J.next)(O:X.b<r)(hS:¬S r)(K:¬Rb M r)(L:Fin (Q5 n s).2){op imm:Int}(hop:n.op=op)(Z:n.imm=imm):
 P2 Tryz.prog (PU pls tb) 89 [.ptr X.b 0,.int .i64 op,.int .i64 imm,.sl r 0 m 1] J (jX X S M H (Q5 n s)):=by
 subst U;subst hop;subst Z;refine b3 ?_ (BF Y V n (.inr ⟨r,0,rfl,A,ca _,ca _,z⟩) (fun k j=>?_) L.r (pL (we s.l n).length_le L.l))
 .intro v H' h;exact h.val g fun k j=>by rw[BN j];exact hr
 .rw[BN j];exact⟨O,hS,K⟩
theorem Pn{tb:List En}(Z:LowT tb){X:Lx}{H J:Hp}{S:Nat->Prop}{s:Bd}{I M:AV}(z:RepL X J S s I M)(g:FrL X S M H S M J)(op imm:Int)(L:Fin (Q5 ⟨op,imm,[]⟩ s).2):
 P2 Tryz.prog (PU pls tb) 89 [.ptr X.b 0,.int .i64 op,.int .i64 imm,.nilS] J (jX X S M H (Q5 ⟨op,imm,[]⟩ s)):=by
 refine b3 ?_ (BF Z z ⟨op,imm,[]⟩ (.inl ⟨rfl,rfl⟩) (fun k j=>(BO j).elim) L.r (pL (we s.l _).length_le L.l));intro v H' h;exact h.val g fun k j=>(BO j).elim
theorem RepL.new{X:Lx}{H:Hp}{S:Nat->Prop}{s:Bd}{I M:AV}(h:RepL X H S s I M){r:Nat}(hr:H.next<=r):¬S r/\¬Rb M r/\X.b<r:=⟨fun e=>by have:=(h.sS r e).2.1;omega,fun e=>by have:=(h.vS r e).2;omega,by have:=h.o5;omega⟩
theorem jX.pre{X:Lx}{S Z:Nat->Prop}{M:AV}{H Qv:Hp}{r:Int×Bd}{v:AV}{H':Hp}(h:jX X S M H r v H')(g:FrL X Z M Qv S M H):jX X Z M Qv r v H':=by
 obtain⟨i,j,m,Y,o⟩:=h;exact⟨i,j,m,Y,g.trans o⟩
theorem s7{tb:List En}(Y:LowT tb){X:Lx}{H J:Hp}{S:Nat->Prop}{s:Bd}{I Z:AV}(z:RepL X J S s I Z)(V:FrL X S Z H S Z J)(n:Int)(U:Fin (Q5 ⟨1,n,[]⟩ s).2):
 P2 Tryz.prog (PU pls tb) 90 [.ptr X.b 0,.int .i64 n] J (jX X S Z H (Q5 ⟨1,n,[]⟩ s)):=by
 have L:Plain (PU pls tb) 90:=Y.plain gz;refine P4 (M:=8) (rs:=[.tmp 4]) (L.call _) L.ice L.froz Tryz.func90 rfl rfl BI.2 rfl ?_;dsimp only[BI,PZ,Nat.reduceAdd];repeat' (first
  |(apply PO ?_;clear hK K)|apply Rx.o ?_|apply aj ?_|(apply PP fun K hK=>?_)|fail)
 refine ci rfl cu cy ?_;simp only[b8];refine b3 ?_ (Pn Y z V 1 n U);rintro v m g;obtain⟨rfl,o⟩:=id g;dsimp only[Qo];repeat' (first
  |(apply PO ?_;clear hK K)|apply Rx.o ?_|apply aq ?_)
 all_goals (refine⟨eI,_,P0,?_⟩;try simp only[PT])
 exact g
theorem s9(H:Hp)(a b:Int):Rs Tryz.prog H 23 2 [(0,.int .i64 a),(1,.int .i64 b)]=some (.sl H.next 0 2 1,H.alloc (.cells [.int .i64 a,.int .i64 b] 0 true)):=ad
theorem BP(H:Hp)(a b c:Int):Rs Tryz.prog H 23 3 [(0,.int .i64 a),(1,.int .i64 b),(2,.int .i64 c)]=some (.sl H.next 0 3 1,H.alloc (.cells [.int .i64 a,.int .i64 b,.int .i64 c] 0 true)):=ad
theorem Po(H:Hp)(a:Int):Rs Tryz.prog H 23 1 [(0,.int .i64 a)]=some (.sl H.next 0 1 1,H.alloc (.cells [.int .i64 a] 0 true)):=ad
theorem wh{tb:List En}(Y:LowT tb){X:Lx}{H J:Hp}{S:Nat->Prop}{s:Bd}{V Z:AV}(z:RepL X J S s V Z)(g:FrL X S Z H S Z J)(t v:Int)(U:Fin (qm t v s)):
 P2 Tryz.prog (PU pls tb) 141 [.ptr X.b 0,.int .i64 t,.int .i64 v] J (BM X S Z H (qm t v s)):=by
 have L:Plain (PU pls tb) 141:=Y.plain gz;have Sk:=z.m;unfold RA at Sk;refine P4 (M:=18) (rs:=[]) (L.call _) L.ice L.froz Tryz.func141 rfl rfl BJ.2 rfl ?_;dsimp only[BJ,PZ,Nat.reduceAdd];have o:=@s9;repeat' (first
  |apply Rx.o ?_|(apply PP fun K hK=>?_)|fail)
 refine ci rfl cu cy ?_;simp only[b8];have I:=z.new (aC _);refine b3 ?_ (jY Y (z.alloc _) (g.alloc _) ⟨27,t,[s.state,v]⟩ rfl ga g.next (dh _) I.2.2 I.1 I.2.1 (U.le ⟨ql _,aC _⟩) rfl rfl);rintro w j ⟨rfl,O,A,C,F⟩;have m:=C.m;unfold RA at m;dsimp only[Qo];repeat' (first
  |(apply PO ?_;clear hK K)|apply Rx.o ?_|apply dL ?_|fail)
 all_goals (refine⟨eI,_,P0,?_⟩;try simp only[PT])
 obtain⟨a,b⟩:=C.setS (Q5 ⟨27,t,[s.state,v]⟩ s).1;exact⟨O,A,a,F.trans b⟩
theorem BQ{tb:List En}(V:LowT tb){X:Lx}{H J:Hp}{S:Nat->Prop}{s:Bd}{U Z:AV}(Y:RepL X J S s U Z)(g:FrL X S Z H S Z J)(c a b:Int)(O:Fin (RC c a b s).2):
 P2 Tryz.prog (PU pls tb) 177 [.ptr X.b 0,.int .i64 c,.int .i64 a,.int .i64 b] J (jX X S Z H (RC c a b s)):=by
 have L:Plain (PU pls tb) 177:=V.plain gz;by_cases h:a=b
 .subst h;have e:RC c a a s=(a,s):=by rw[RC,az rfl]
  rw[e];refine P4 (M:=19) (rs:=[.tmp 8]) (L.call _) L.ice L.froz Tryz.func177 rfl rfl s6.2 rfl ?_;dsimp only[s6,PZ,Nat.reduceAdd];repeat' (first
   |(apply PO ?_;clear hK K)|apply Ry.o ?_|(apply aH (fun z i=>?_) (fun z i=>?_)<;>try(cases z;done))|apply aj ?_|(apply PP fun K hK=>?_)|apply aq ?_)
  all_goals (refine⟨eI,_,P0,?_⟩;try simp only[PT])
  exact⟨rfl,S,U,Y,g⟩
 .have e:RC c a b s=Q5 ⟨22,0,[c,a,b]⟩ s:=by rw[RC,af h]
  rw[e]at O⊢;have I:=Y.new (aC _);refine P4 (M:=19) (rs:=[.tmp 8]) (L.call _) L.ice L.froz Tryz.func177 rfl rfl s6.2 rfl ?_;dsimp only[s6,PZ,Nat.reduceAdd];have C:=@BP;repeat' (first
   |(apply PO ?_;clear hK K)|apply Ry.o ?_|(apply aH (fun z i=>?_) (fun z i=>?_)<;>try(cases z;done))|apply aj ?_|(apply PP fun K hK=>?_)|apply PR ?_|fail)
  refine ci rfl cu cy ?_;simp only[b8];refine b3 ?_ (jY V (Y.alloc _) (g.alloc _) ⟨22,0,[c,a,b]⟩ rfl ga g.next (dh _) I.2.2 I.1 I.2.1 O rfl rfl);intro w m F;obtain⟨rfl,o⟩:=id F;dsimp only[Qo];repeat' (first
   |(apply PO ?_;clear hK K)|apply Rx.o ?_|apply aq ?_)
  all_goals (refine⟨eI,_,P0,?_⟩;try simp only[PT])
  exact F
theorem Pp{tb:List En}(Z:LowT tb){X:Lx}{H J:Hp}{S:Nat->Prop}{s:Bd}{O Y:AV}(V:RepL X J S s O Y)(g:FrL X S Y H S Y J)(k:Nat)(i:Int){a:Ar}(ha:X.p.arrays[k]?=some a)(U:Fin (oy a.len i s)):
 P2 Tryz.prog (PU pls tb) 139 [.ptr X.b 0,.int .i64 (k:Int),.int .i64 i] J (BM X S Y H (oy a.len i s)):=by
 have L:Plain (PU pls tb) 139:=Z.plain gz;have Sk:=V.m;unfold RA at Sk;have z:Fin (Q5 ⟨19,0,[i,(Q5 ⟨1,a.len,[]⟩ s).1]⟩ (Q5 ⟨1,a.len,[]⟩ s).2).2:=U.le (s0 _ _ _).le;have A:Fin (Q5 ⟨1,a.len,[]⟩ s).2:=z.le (Sl _ _).le;refine P4 (M:=25) (rs:=[]) (L.call _) L.ice L.froz Tryz.func139 rfl rfl BK.2 rfl ?_;dsimp only[BK,PZ,Nat.reduceAdd];repeat' (first
  |apply Rx.o ?_|apply aj ?_|(apply PP fun K hK=>?_)|fail)
 refine ci rfl cu cy ?_;simp only[b8];refine b3 ?_ (s7 Z V g a.len A);rintro w H2 ⟨rfl,S2,F,C,o⟩;dsimp only[Qo];have I:=C.new (aC _);have gh0:=@s9;repeat' (first
  |(apply PO ?_;clear hK K)|apply Rx.o ?_|(apply PP fun K hK=>?_)|fail)
 refine ci rfl cu cy ?_;simp only[b8];refine b3 ?_ (jY Z (C.alloc _) ((dM _ _ _ _).alloc _) ⟨19,0,[i,(Q5 ⟨1,a.len,[]⟩ s).1]⟩ rfl ga (aC _) (dh _) I.2.2 I.1 I.2.1 z rfl rfl);rintro w H3 ⟨rfl,S3,m,R3,F3⟩;dsimp only[Qo];repeat' (first
  |(apply PO ?_;clear hK K)|fail)
 refine ci rfl cu cy ?_;simp only[b8];refine b3 ?_ (wh Z R3 (dM _ _ _ _) 2 _ U);rintro w H4 ⟨S4,j,R4,F4⟩;dsimp only[Qo];repeat' (first
  |(apply PO ?_;clear hK K)|fail)
 all_goals (refine⟨eI,_,P0,?_⟩;try simp only[PT])
 exact⟨S4,j,R4,o.trans (F3.trans F4)⟩
end
section
def tyLoD.tyF:=ac @dr (ac @cZ (ac @jK (ac @dK (ac @ez (ac @pQ (ac @nM (ac @nN (ac @r1 (ac @r2 (ac @s9 (@Po)))))))))))
open tyLoD
noncomputable def iU:{c:SC // aB 110 (Tryz.f92.body.getD .skip)=c}:=by
 refine⟨?_,?_⟩;rotate_left
 .simp only[Tryz.f92,bh,aB,Qh,Qe,Qm,Qn,Nat.blt,Nat.ble];rfl
noncomputable def BR:{c:SC // aB 58 (Tryz.f140.body.getD .skip)=c}:=by
 refine⟨?_,?_⟩;rotate_left
 .simp only[Tryz.f140,bh,aB,Qh,Qe,Qm,Qn,Nat.blt,Nat.ble];rfl
structure CxOk (X:Lx) (c:Cx):Prop where
 ar:c.arrays=X.p.arrays
 ae:∀nm,eu X.ae nm=g8 (c.arrays.map (·.name)) nm
 ne:∀nm,eu X.ne nm=g8 c.names nm
 fe:∀nm,0<=u1 c.funcs nm 0->eu X.fe nm=u1 c.funcs nm 0
theorem FrL.box{X:Lx}{J m:Hp}{S U:Nat->Prop}{s:Bd}{I M L:AV}(z:RepL X J S s I M){b:HB}(h:FrL X S M (J.alloc b) U L m):m.get J.next=some b:=by
 have n:=z.new (aC _);have Z:=z.o3;have g:=z.o4;rw[h.get _ (dh _) (by have:=n.2.2;omega) (by have:=n.2.2;omega) n.1 n.2.1,P8,az rfl]
def jZ:=@FrL.box
theorem RepL.lkN{X:Lx}{c:Cx}(j:CxOk X c){H:Hp}{S:Nat->Prop}{s:Bd}{I M:AV}(z:RepL X H S s I M)(nm:Rh):R2 Tryz.prog H 110 (.map X.rn) (.str nm) false=some (.int .i64 (g8 c.names nm)):=by
 rw[<-j.ne];exact yd (P:=Tryz.prog) Tryz.underlying110 Tb wg z.n nm
theorem RepL.lkA{X:Lx}{c:Cx}(j:CxOk X c){H:Hp}{S:Nat->Prop}{s:Bd}{I M:AV}(z:RepL X H S s I M)(nm:Rh):R2 Tryz.prog H 110 (.map X.ra) (.str nm) false=some (.int .i64 (g8 (c.arrays.map (·.name)) nm)):=by
 rw[<-j.ae];exact yd (P:=Tryz.prog) Tryz.underlying110 Tb wg z.a nm
theorem RepL.atV{X:Lx}{H:Hp}{S:Nat->Prop}{s:Bd}{I Z:AV}(h:RepL X H S s I Z){i:Nat}{x:Int}(F:s.vars[i]?=some x):∃r,Qt Tryz.prog 23 Z (.int .i64 (i:Int))=some (.ptr r i)/\Ru Tryz.prog H 3 (.ptr r i)=some (.int .i64 x):=by
 have M:i<s.vars.length:=by
  by_cases c:i<s.vars.length
  .exact c
  .rw[lf aa]at F;cases F
 obtain⟨r,Y,g,_⟩:=h.setV M 0;refine⟨r,Y,?_⟩;rw[g,cN,F];rfl
set_option maxRecDepth 100000 in
theorem BS{tb:List En}(Z:LowT tb){X:Lx}{c:Cx}(hX:CxOk X c):∀(n:Nat) (x:Ex) (s:Bd) (r:Int×Bd),il c n x s=some r->Fin r.2->∀{H H1:Hp}{S:Nat->Prop}{lv vv:AV},RepL X H1 S s lv vv->FrL X S vv H S vv H1 ->
 P2 Tryz.prog (PU pls tb) 92 [.ptr X.b 0,.agg x.cells] H1 (jX X S vv H r)
 |0,x,s,r,h,_,_,_,_,_,_,_,_=>by simp[il]at h
 |n+1,x,s,r,h,hF,H,H1,S,lv,vv,hR,hf=>by
  have IH:=BS Z hX n;have L:Plain (PU pls tb) 92:=Z.plain gz;have hwc:Plain (PU pls tb) 140:=Z.plain gz;have m:=hR.alloc (.cells x.cells 0 true);have F1:=hf.alloc (.cells x.cells 0 true);have Sk:=m.m;unfold RA at Sk;have nw:=hR.new (aC _);unfold il at h;by_cases h1:x.kind=1
  .rw[az h1,au]at h;subst h;refine P4 (M:=110) (rs:=[.tmp 4]) (L.call _) L.ice L.froz Tryz.func92 rfl rfl iU.2 rfl ?_;dsimp only[iU,PZ,Nat.reduceAdd];repeat' (first
    |(apply PO ?_;clear hK K)|apply Ry.o ?_|(apply aH (fun z i=>?_) (fun z i=>?_)<;>try(cases z;done))|apply aj ?_|(apply PP fun K hK=>?_)|apply ay ?_|fail)
   refine ci rfl cu cy ?_;simp only[b8];refine b3 ?_ (s7 Z m F1 x.n hF);intro w H2 h2;obtain⟨rfl,h3⟩:=id h2;dsimp only[Qo];repeat' (first
    |(apply PO ?_;clear hK K)|apply Rx.o ?_|apply aq ?_)
   all_goals (refine⟨eI,_,P0,?_⟩;try simp only[PT])
   exact h2
  rw[af h1]at h;by_cases h2:x.kind=2
  .rw[az h2]at h;obtain⟨v,hv,rfl⟩:=jt.1 h;have hlk:=m.lkN hX x.name;obtain⟨q,hix,hld⟩:=m.atV hv;refine P4 (M:=110) (rs:=[.tmp 4]) (L.call _) L.ice L.froz Tryz.func92 rfl rfl iU.2 rfl ?_;dsimp only[iU,PZ,Nat.reduceAdd];repeat' (first
    |(apply PO ?_;clear hK K)|apply Ry.o ?_|(apply aH (fun z i=>?_) (fun z i=>?_)<;>try(cases z;done))|apply aj ?_|(apply PP fun K hK=>?_)|(apply PQ 5 [(3,14),(7,14),(9,14),(10,14),(12,14)] fun K hK=>?_)|(apply P5 ?_;try intro _)|(apply P6 ?_ ?_<;>clear hK K)|apply aS ?_|apply ay ?_|apply aq ?_)
   all_goals first
    |exact eK
    |skip
   all_goals (refine⟨eI,_,P0,?_⟩;try simp only[PT])
   exact⟨rfl,S,lv,m,F1⟩
  rw[af h2]at h;by_cases h3:x.kind=3
  .rw[az h3]at h;simp only[iY,au]at h;obtain⟨k,hk,PV,he,a,ha,rfl⟩:=h;have ha':X.p.arrays[g8 (c.arrays.map (·.name)) x.name]?=some a:=by rw[<-hX.ar];exact ha
   have hFc:Fin (oy a.len PV.1 PV.2):=hF.le (Sl _ _).le;have hlk1:=m.lkA hX x.name;refine P4 (M:=110) (rs:=[.tmp 4]) (L.call _) L.ice L.froz Tryz.func92 rfl rfl iU.2 rfl ?_;dsimp only[iU,PZ,Nat.reduceAdd];repeat' (first
    |(apply PO ?_;clear hK K)|apply Ry.o ?_|(apply aH (fun z i=>?_) (fun z i=>?_)<;>try(cases z;done))|apply aj ?_|(apply PP fun K hK=>?_)|(apply PQ 7 [(2,5),(4,5),(9,5),(9,15),(11,5),(11,15),(12,5),(12,15)] fun K hK=>?_)|(apply P5 ?_;try intro _)|apply aS ?_|apply ay ?_|fail)
   refine ci rfl cu cy ?_;simp only[fM,e6,b8];refine b3 ?_ (IH k s PV he (hFc.le (BG _ _ _).le) m (dM _ _ _ _));rintro v H2 ⟨rfl,S2,lv2,C,F⟩;have g2:=jZ hR F;have m2:=C.m;unfold RA at m2;have hlk:=C.lkA hX x.name;have n2:H1.next+1<=H2.next:=F.next
   dsimp only[Qo];repeat' (first
    |apply Rx.o ?_|apply aj ?_|(apply PP fun K hK=>?_)|(apply P5 ?_;try intro _)|(apply P6 ?_ ?_<;>clear hK K)|apply aS ?_|fail)
   .exact eK
   .refine ci rfl cu cy ?_;simp only[b8];refine b3 ?_ (Pp Z C (dM _ _ _ _) (g8 (c.arrays.map (·.name)) x.name) PV.1 ha' hFc);rintro w H3 ⟨S3,lv3,g,F3⟩;have m3:=g.m;unfold RA at m3;have Y:=g.new (aC _);dsimp only[Qo];repeat' (first
     |(apply PO ?_;clear hK K)|apply Rx.o ?_|apply aj ?_|(apply PP fun K hK=>?_)|fail)
    refine ci rfl cu cy ?_;simp only[b8];refine b3 ?_ (jY Z (g.alloc _) ((dM _ _ _ _).alloc _) ⟨23,g8 (c.arrays.map (·.name)) x.name,[(oy a.len PV.1 PV.2).state,PV.1]⟩ rfl ga (aC _) (dh _) Y.2.2 Y.1 Y.2.1 hF rfl rfl);intro w H4 h4;have h5:=h4.pre (F1.trans (F.trans F3));obtain⟨rfl,h6⟩:=h4;dsimp only[Qo];repeat' (first
     |(apply PO ?_;clear hK K)|apply Rx.o ?_|apply aq ?_)
    all_goals (refine⟨eI,_,P0,?_⟩;try simp only[PT])
    exact h5
  rw[af h3]at h;by_cases h5:x.kind=5
  .rw[az h5]at h;simp only[iY,au]at h;obtain⟨k0,hk0,Qa,e0,k1,hk1,PV,e1,k2,hk2,Qq,e2,rfl⟩:=h;have hFt:Fin (RC Qa.1 PV.2.state (RC Qa.1 PV.1 Qq.1 Qq.2).2.state (RC Qa.1 PV.1 Qq.1 Qq.2).2).2:=hF.le ⟨ql _,aC _⟩;have hFv:Fin (RC Qa.1 PV.1 Qq.1 Qq.2).2:=hFt.le (sZ _ _ _ _).le;have hF2:Fin Qq.2:=hFv.le (sZ _ _ _ _).le;have I:Fin PV.2:=(hF2.le (qn c n _ _ _ e2).le).le ⟨ql _,aC _⟩;have o:Fin Qa.2:=I.le (qn c n _ _ _ e1).le;refine P4 (M:=110) (rs:=[.tmp 4]) (L.call _) L.ice L.froz Tryz.func92 rfl rfl iU.2 rfl ?_;dsimp only[iU,PZ,Nat.reduceAdd];repeat' (first
    |(apply PO ?_;clear hK K)|apply Ry.o ?_|(apply aH (fun z i=>?_) (fun z i=>?_)<;>try(cases z;done))|apply aj ?_|(apply PP fun K hK=>?_)|apply ay ?_|fail)
   refine ci rfl cu cy ?_;simp only[b8];have R1c:=m.alloc (.cells x.cells 0 true);have F1c:=F1.alloc (.cells x.cells 0 true);have main:P2 Tryz.prog (PU pls tb) 140 [.ptr X.b 0,.agg x.cells] (H1.alloc (.cells x.cells 0 true)) (jX X S vv H ((RC Qa.1 PV.1 Qq.1 Qq.2).1,{ (RC Qa.1 PV.2.state (RC Qa.1 PV.1 Qq.1 Qq.2).2.state (RC Qa.1 PV.1 Qq.1 Qq.2).2).2 with state:=(RC Qa.1 PV.2.state (RC Qa.1 PV.1 Qq.1 Qq.2).2.state (RC Qa.1 PV.1 Qq.1 Qq.2).2).1})):=by
    clear Sk nw;refine P4 (M:=58) (rs:=[.tmp 4]) (hwc.call _) hwc.ice hwc.froz Tryz.func140 rfl rfl BR.2 rfl ?_;dsimp only[BR,PZ,Nat.reduceAdd];repeat' (first
     |(apply PO ?_;clear hK K)|apply Ry.o ?_|apply aj ?_|(apply PP fun K hK=>?_)|fail)
    refine ci rfl cu cy ?_;simp only[b8];refine b3 ?_ (IH k0 s Qa e0 o R1c (dM _ _ _ _));rintro v H2 ⟨rfl,S2,lv2,C,F⟩;have g2:=jZ m F;simp only[QA]at g2;have m2:=C.m;unfold RA at m2;dsimp only[Qo];repeat' (first
     |(apply PO ?_;clear hK K)|apply Ry.o ?_|apply aj ?_|(apply PP fun K hK=>?_)|fail)
    refine ci rfl cu cy ?_;simp only[b8];refine b3 ?_ (IH k1 _ PV e1 I C (dM _ _ _ _));rintro v H3 ⟨rfl,S3,lv3,g,F3⟩;have g3:=jZ m (F.trans F3);have m3:=g.m;obtain⟨R3s,F3s⟩:=g.setS Qa.2.state;have g3s:=jZ m (F.trans (F3.trans F3s));simp only[QA]at g3 g3s;unfold RA at m3;dsimp only[RA]at R3s F3s g3s;dsimp only[Qo];repeat' (first
     |(apply PO ?_;clear hK K)|apply Ry.o ?_|apply bC ?_|apply aj ?_|(apply PP fun K hK=>?_)|fail)
    refine ci rfl cu cy ?_;simp only[b8];refine b3 ?_ (IH k2 _ Qq e2 hF2 R3s (dM _ _ _ _));rintro v H4 ⟨rfl,S4,lv4,R4,F4⟩;dsimp only[Qo];repeat' (first
     |(apply PO ?_;clear hK K)|apply Rx.o ?_|apply aj ?_|(apply PP fun K hK=>?_)|fail)
    refine ci rfl cu cy ?_;simp only[b8];refine b3 ?_ (BQ Z R4 (dM _ _ _ _) Qa.1 PV.1 Qq.1 hFv);rintro v H5 ⟨rfl,S5,lv5,R5,F5⟩;have m5:=R5.m;unfold RA at m5;dsimp only[Qo];repeat' (first
     |(apply PO ?_;clear hK K)|apply Rx.o ?_|apply aj ?_|(apply PP fun K hK=>?_)|fail)
    refine ci rfl cu cy ?_;simp only[b8];refine b3 ?_ (BQ Z R5 (dM _ _ _ _) Qa.1 PV.2.state _ hFt);rintro v H6 ⟨rfl,S6,O,R6,F6⟩;have m6:=R6.m;unfold RA at m6;dsimp only[Qo];repeat' (first
     |(apply PO ?_;clear hK K)|apply Rx.o ?_|apply dL ?_|apply aj ?_|(apply PP fun K hK=>?_)|apply aq ?_)
    all_goals (refine⟨eI,_,P0,?_⟩;try simp only[PT])
    obtain⟨R7,F7⟩:=R6.setS (RC Qa.1 PV.2.state (RC Qa.1 PV.1 Qq.1 Qq.2).2.state (RC Qa.1 PV.1 Qq.1 Qq.2).2).1;exact⟨rfl,S6,O,R7,F1c.trans (F.trans (F3.trans (F3s.trans (F4.trans (F5.trans (F6.trans F7))))))⟩
   refine b3 ?_ main;intro w H2 h2;obtain⟨rfl,h3⟩:=id h2;dsimp only[Qo];repeat' (first
    |(apply PO ?_;clear hK K)|apply Rx.o ?_|apply aq ?_)
   all_goals (refine⟨eI,_,P0,?_⟩;try simp only[PT])
   exact h2
  rw[af h5]at h;simp only[iY]at h;obtain⟨k0,hk0,Qa,e0,h⟩:=h;by_cases hz:x.kids.length=1
  .rw[az hz,au]at h;subst h;have o:Fin Qa.2:=hF.le (Sl _ _).le;have hz':((x.kids.length:Nat):Int)=1:=aa;refine P4 (M:=110) (rs:=[.tmp 4]) (L.call _) L.ice L.froz Tryz.func92 rfl rfl iU.2 rfl ?_;dsimp only[iU,PZ,Nat.reduceAdd];repeat' (first
    |(apply PO ?_;clear hK K)|apply Ry.o ?_|(apply aH (fun z i=>?_) (fun z i=>?_)<;>try(cases z;done))|apply aj ?_|(apply PP fun K hK=>?_)|apply ay ?_|apply PR ?_|fail)
   refine ci rfl cu cy ?_;simp only[b8];refine b3 ?_ (IH k0 s Qa e0 o m (dM _ _ _ _));rintro v H2 ⟨rfl,S2,lv2,C,F⟩;have g2:=jZ hR F;have nw2:=C.new (aC _);dsimp only[Qo];repeat' (first
    |(apply PO ?_;clear hK K)|apply Ry.o ?_|(apply aH (fun z i=>?_) (fun z i=>?_)<;>try(cases z;done))|apply aj ?_|(apply PP fun K hK=>?_)|fail)
   refine ci rfl cu cy ?_;simp only[b8];refine b3 ?_ (jY Z (C.alloc _) ((dM _ _ _ _).alloc _) ⟨x.op,0,[Qa.1]⟩ rfl ga (aC _) (dh _) nw2.2.2 nw2.1 nw2.2.1 hF rfl rfl);intro w H4 h4;have h5:=h4.pre (F1.trans F);obtain⟨rfl,h6⟩:=h4;dsimp only[Qo];repeat' (first
    |(apply PO ?_;clear hK K)|apply Rx.o ?_|apply aq ?_)
   all_goals (refine⟨eI,_,P0,?_⟩;try simp only[PT])
   exact h5
  rw[af hz]at h;simp only[iY,au]at h;obtain⟨k1,hk1,PV,e1,rfl⟩:=h;have hz':¬((x.kids.length:Nat):Int)=1:=aa;have j:Fin (if x.op=7\/x.op=8 then oz PV.1 PV.2 else PV.2):=hF.le (Sl _ _).le;have I:Fin PV.2:=by
   split at j
   .exact j.le (BH _ _).le
   .exact j
  have o:Fin Qa.2:=I.le (qn c n _ _ _ e1).le;generalize hq:(if x.op=7\/x.op=8 then oz PV.1 PV.2 else PV.2)=q at *;refine P4 (M:=110) (rs:=[.tmp 4]) (L.call _) L.ice L.froz Tryz.func92 rfl rfl iU.2 rfl ?_;dsimp only[iU,PZ,Nat.reduceAdd];repeat' (first
   |(apply PO ?_;clear hK K)|apply Ry.o ?_|(apply aH (fun z i=>?_) (fun z i=>?_)<;>try(cases z;done))|apply aj ?_|(apply PP fun K hK=>?_)|apply ay ?_|apply PR ?_|fail)
  refine ci rfl cu cy ?_;simp only[b8];refine b3 ?_ (IH k0 s Qa e0 o m (dM _ _ _ _));rintro v H2 ⟨rfl,S2,lv2,C,F⟩;have g2:=jZ hR F;dsimp only[Qo];repeat' (first
   |(apply PO ?_;clear hK K)|apply Ry.o ?_|(apply aH (fun z i=>?_) (fun z i=>?_)<;>try(cases z;done))|apply aj ?_|(apply PP fun K hK=>?_)|apply PR ?_|fail)
  refine ci rfl cu cy ?_;simp only[b8];refine b3 ?_ (IH k1 _ PV e1 I C (dM _ _ _ _));rintro v H3 ⟨rfl,S3,lv3,g,F3⟩;have g3:=jZ hR (F.trans F3);have F123:=F1.trans (F.trans F3);dsimp only[Qo];by_cases hd:x.op=7\/x.op=8
  .rw[az hd]at hq;subst hq;have hFq:Fin (Q5 ⟨16,0,[PV.1,(Q5 ⟨1,0,[]⟩ PV.2).1]⟩ (Q5 ⟨1,0,[]⟩ PV.2).2).2:=j.le (s0 _ _ _).le;have hFz:Fin (Q5 ⟨1,0,[]⟩ PV.2).2:=hFq.le (Sl _ _).le;rcases hd with h7|h8
   .repeat' (first
     |(apply PO ?_;clear hK K)|apply Ry.o ?_|(apply aU (fun hg U=>?_) (fun hg U=>?_)<;>try(cases hg;done))|(apply aH (fun z i=>?_) (fun z i=>?_)<;>try(cases z;done))|apply aj ?_|(apply PP fun K hK=>?_)|fail)
    refine ci rfl cu cy ?_;simp only[b8];refine b3 ?_ (s7 Z g (dM _ _ _ _) 0 hFz);rintro v H4 ⟨rfl,S4,lv4,R4,F4⟩;have A:=R4.new (aC _);dsimp only[Qo];repeat' (first
     |apply Rx.o ?_|fail)
    refine ci rfl cu cy ?_;simp only[b8];refine b3 ?_ (jY Z (R4.alloc _) ((dM _ _ _ _).alloc _) ⟨16,0,[PV.1,(Q5 ⟨1,0,[]⟩ PV.2).1]⟩ rfl ga (aC _) (dh _) A.2.2 A.1 A.2.1 hFq rfl rfl);rintro v H5 ⟨rfl,S5,lv5,R5,F5⟩;dsimp only[Qo];repeat' (first
     |(apply PO ?_;clear hK K)|fail)
    refine ci rfl cu cy ?_;simp only[b8];refine b3 ?_ (wh Z R5 (dM _ _ _ _) 1 _ j);rintro v H6 ⟨S6,O,R6,F6⟩;have F36:=F4.trans (F5.trans F6);have g6:=jZ hR (F.trans (F3.trans F36));have V:=R6.new (aC _);have R6':RepL X H6 S6 (oz PV.1 PV.2) O vv:=R6;dsimp only[Qo];repeat' (first
     |(apply PO ?_;clear hK K)|apply Rx.o ?_|apply aj ?_|(apply PP fun K hK=>?_)|fail)
    refine ci rfl cu cy ?_;simp only[b8];refine b3 ?_ (jY Z (R6'.alloc _) ((dM _ _ _ _).alloc _) ⟨x.op,0,[Qa.1,PV.1]⟩ rfl ga (aC _) (dh _) V.2.2 V.1 V.2.1 hF h7 rfl);intro w H7 J;have h5q:=J.pre (F123.trans F36);obtain⟨rfl,h6q⟩:=J;dsimp only[Qo];repeat' (first
     |(apply PO ?_;clear hK K)|apply Rx.o ?_|apply aq ?_)
    all_goals (refine⟨eI,_,P0,?_⟩;try simp only[PT])
    rw[h7]at h5q⊢;exact h5q
   .have h7:¬x.op=7:=by omega
    repeat' (first
     |(apply PO ?_;clear hK K)|apply Ry.o ?_|(apply aU (fun hg U=>?_) (fun hg U=>?_)<;>try(cases hg;done))|(apply aH (fun z i=>?_) (fun z i=>?_)<;>try(cases z;done))|apply aj ?_|(apply PP fun K hK=>?_)|fail)
    refine ci rfl cu cy ?_;simp only[b8];refine b3 ?_ (s7 Z g (dM _ _ _ _) 0 hFz);rintro v H4 ⟨rfl,S4,lv4,R4,F4⟩;have A:=R4.new (aC _);dsimp only[Qo];repeat' (first
     |apply Rx.o ?_|fail)
    refine ci rfl cu cy ?_;simp only[b8];refine b3 ?_ (jY Z (R4.alloc _) ((dM _ _ _ _).alloc _) ⟨16,0,[PV.1,(Q5 ⟨1,0,[]⟩ PV.2).1]⟩ rfl ga (aC _) (dh _) A.2.2 A.1 A.2.1 hFq rfl rfl);rintro v H5 ⟨rfl,S5,lv5,R5,F5⟩;dsimp only[Qo];repeat' (first
     |(apply PO ?_;clear hK K)|fail)
    refine ci rfl cu cy ?_;simp only[b8];refine b3 ?_ (wh Z R5 (dM _ _ _ _) 1 _ j);rintro v H6 ⟨S6,O,R6,F6⟩;have F36:=F4.trans (F5.trans F6);have g6:=jZ hR (F.trans (F3.trans F36));have V:=R6.new (aC _);have R6':RepL X H6 S6 (oz PV.1 PV.2) O vv:=R6;dsimp only[Qo];repeat' (first
     |(apply PO ?_;clear hK K)|apply Rx.o ?_|apply aj ?_|(apply PP fun K hK=>?_)|fail)
    refine ci rfl cu cy ?_;simp only[b8];refine b3 ?_ (jY Z (R6'.alloc _) ((dM _ _ _ _).alloc _) ⟨x.op,0,[Qa.1,PV.1]⟩ rfl ga (aC _) (dh _) V.2.2 V.1 V.2.1 hF h8 rfl);intro w H7 J;have h5q:=J.pre (F123.trans F36);obtain⟨rfl,h6q⟩:=J;dsimp only[Qo];repeat' (first
     |(apply PO ?_;clear hK K)|apply Rx.o ?_|apply aq ?_)
    all_goals (refine⟨eI,_,P0,?_⟩;try simp only[PT])
    rw[h8]at h5q⊢;exact h5q
  .rw[af hd]at hq;subst hq;have h7:¬x.op=7:=fun e=>hd (.inl e);have h8:¬x.op=8:=fun e=>hd (.inr e);have Y:=g.new (aC _);repeat' (first
    |(apply PO ?_;clear hK K)|apply Ry.o ?_|(apply aU (fun hg U=>?_) (fun hg U=>?_)<;>try(cases hg;done))|(apply aH (fun z i=>?_) (fun z i=>?_)<;>try(cases z;done))|apply aj ?_|(apply PP fun K hK=>?_)|apply PR ?_|fail)
   refine ci rfl cu cy ?_;simp only[b8];refine b3 ?_ (jY Z (g.alloc _) ((dM _ _ _ _).alloc _) ⟨x.op,0,[Qa.1,PV.1]⟩ rfl ga (aC _) (dh _) Y.2.2 Y.1 Y.2.1 hF rfl rfl);intro w H4 h4;have h5:=h4.pre F123;obtain⟨rfl,h6⟩:=h4;dsimp only[Qo];repeat' (first
    |(apply PO ?_;clear hK K)|apply Rx.o ?_|apply aq ?_)
   all_goals (refine⟨eI,_,P0,?_⟩;try simp only[PT])
   exact h5
end
section
def tyLoF.tyF:=ac @dr (ac @cZ (ac @jK (ac @dK (ac @ez (ac @pQ (ac @pR (ac @nM (ac @nN (ac @r1 (ac @r2 (ac @r6 (ac @BP (@s9)))))))))))))
open tyLoF
noncomputable def ta:{c:SC // aB 155 (Tryz.f138.body.getD .skip)=c}:=by
 refine⟨?_,?_⟩;rotate_left
 .simp only[Tryz.f138,bh,aB,Qh,Qe,Qm,Qn,Nat.blt,Nat.ble];rfl
section
variable {tb:List En} (hG:LowT tb) {X:Lx} {c:Cx} (hX:CxOk X c) {x:St} {s:Bd} {H:Hp} {S:Nat -> Prop} {lv vv:AV}
set_option maxRecDepth 100000 in
set_option maxHeartbeats 4000000 in
include hG hX in
theorem PN(hk:x.kind=1){n:Nat}{r:Int×Bd}(I:il c n x.value s=some r)(o:g8 c.names x.name<r.2.vars.length)(hF:Fin r.2)(z:RepL X H S s lv vv):
 P2 Tryz.prog (PU pls tb) 138 [.ptr X.b 0,.agg x.cells] H (BL X S vv H {r.2 with vars:=r.2.vars.set (g8 c.names x.name) r.1}):=by
 have L:Plain (PU pls tb) 138:=hG.plain gz;have m:=z.alloc (.cells x.cells 0 true);have F1:=(dM X S vv H).alloc (.cells x.cells 0 true);have Sk:=m.m;unfold RA at Sk;have hlk1:=m.lkN hX x.name;have V:=qn c n _ _ _ I;have U:g8 c.names x.name<s.vars.length:=by rw[<-V.v];exact o
 obtain⟨q,O,hld,_⟩:=m.setV U r.1;refine P4 (M:=155) (rs:=[]) (L.call _) L.ice L.froz Tryz.func138 rfl rfl ta.2 rfl ?_;dsimp only[ta,PZ,Nat.reduceAdd];repeat' (first
  |(apply PO ?_;clear hK K)|apply Ry.o ?_|(apply aH (fun j i=>?_) (fun j i=>?_)<;>try(cases j;done))|apply aj ?_|(apply PP fun K hK=>?_)|(apply PQ 3 [(3,14),(3,16),(7,14),(7,16),(9,14),(9,16),(10,14),(10,16),(13,14)] fun K hK=>?_)|(apply P5 ?_;try intro _)|apply aS ?_|apply ay ?_|fail)
 refine ci rfl cu cy ?_;simp only[fM,e6,b8];refine b3 ?_ (BS hG hX n x.value s r I hF m (dM _ _ _ _));rintro v H2 ⟨rfl,S2,A,C,F⟩;have g2:=jZ z F;have m2:=C.m;unfold RA at m2;have hlk2:=C.lkN hX x.name;obtain⟨q',g,hld',H3,hst,hq1,hq2,Z,Y,F3,o3,n3⟩:=C.setV o r.1;have J:q'=q:=by
  rw[O]at g;simp only[au,AV.ptr.injEq]at g;exact g.1.symm
 subst J;have n2:H.next+1<=H2.next:=F.next
 have m3:=Y.m;have hlk3:=Y.lkN hX x.name;have g3:H3.get H.next=some (.cells x.cells 0 true):=by rw[o3 _ (by have:=z.new (aC _);intro e;subst e;exact this.2.1 Z)];exact g2
 dsimp only[RA]at m3;dsimp only[Qo];repeat' (first
  |apply Rx.o ?_|apply dL ?_|(apply P5 ?_;try intro _)|(apply P6 ?_ ?_<;>clear hK K)|apply aS ?_|apply P9 rfl ?_|fail)
 .exact eK
 .all_goals (refine⟨eI,_,P0,?_⟩;try simp only[PT])
  exact⟨S2,A,vv,Y,F1.trans (F.trans F3)⟩
set_option maxRecDepth 100000 in
set_option maxHeartbeats 4000000 in
include hG hX in
set_option maxRecDepth 100000 in
set_option maxHeartbeats 4000000 in
include hG hX in
set_option maxRecDepth 100000 in
set_option maxHeartbeats 4000000 in
include hG in
set_option maxRecDepth 100000 in
set_option maxHeartbeats 4000000 in
include hG in
theorem lst0(Y:¬x.kind=1)(g:¬x.kind=2)(o:¬x.kind=3)(U:¬x.kind=4)(A:¬x.kind=5)(V:¬x.kind=6)(J:¬x.kind=7)(Z:RepL X H S s lv vv):
 P2 Tryz.prog (PU pls tb) 138 [.ptr X.b 0,.agg x.cells] H (BL X S vv H s):=by
 have L:Plain (PU pls tb) 138:=hG.plain gz;have m:=Z.alloc (.cells x.cells 0 true);have I:=(dM X S vv H).alloc (.cells x.cells 0 true);refine P4 (M:=155) (rs:=[]) (L.call _) L.ice L.froz Tryz.func138 rfl rfl ta.2 rfl ?_;dsimp only[ta,PZ,Nat.reduceAdd];repeat' (first
  |(apply PO ?_;clear hK K)|apply Ry.o ?_|(apply aH (fun z i=>?_) (fun z i=>?_)<;>try(cases z;done))|apply aj ?_|(apply PP fun K hK=>?_)|apply ay ?_|apply PR ?_|fail)
 all_goals (refine⟨eI,_,P0,?_⟩;try simp only[PT])
 exact⟨S,lv,vv,m,I⟩
end
end
section
theorem Pq(H:Hp)(q:Nat):Rs Tryz.prog H 123 1 [(0,.sl q 0 16 1)]=some (.sl H.next 0 1 1,H.alloc (.cells [.sl q 0 16 1] 0 true)):=ad
def tyVdB.tyF:=ac @dr (ac @cZ (ac @pO (ac @dK (ac @ey (ac @ez (ac @uU (ac @Kb (ac @jE (@Pq)))))))))
open tyVdB
theorem chunk_rows:∀(K:List AV),Rv 1 K.length K=K.map fun x=>[x]
 |[]=>rfl
 |x::b=>by
  have:=chunk_rows b;simp only[dS,em,Rv,List.take_succ_cons,Av,y1,eN,this]
end
theorem rep_get(m:Nat):(List.replicate 16 (0:Int)).getD m 0=0:=by
 rw[cN,nz];split<;>rfl
end Go.Proofs.YtljebeflbbgibaaGreat
