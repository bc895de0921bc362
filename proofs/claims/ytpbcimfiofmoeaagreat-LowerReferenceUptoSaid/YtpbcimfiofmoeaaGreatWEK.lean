/- Lemmas for the last file. -/
import Derived.Test.YtpbcimfiofmoeaaGreatWEJ
set_option linter.all false
set_option maxHeartbeats 32000000
namespace Go.Ab
set_option maxRecDepth 20000
open Go
variable{qe:Prop}
def ED(h:qe:=by rw[U.s];decide):=h
def Bg(h:qe:=by cases m<;>rfl):=h
def il(h:qe:=by first|rfl|trivial):=h
def Bh(h:qe:=by rw[Hp.get_set,if_pos rfl];rfl):=h
def PG(h:qe:=by rw[List.drop_zero,List.length_take];omega):=h
def PH(h:qe:=by rw[List.flatten_append,List.length_append];omega):=h
def Bi(h:qe:=by rw[List.length_map]):=h
def EE(h:qe:=by unfold vK;(repeat' split)<;>omega):=h
def PI(h:qe:=by rw[hg _ U (.inl (Nat.le_refl _))];exact h.m):=h
def yE(h:qe:=by have:=h.sS k z;omega):=h
def EF(h:qe:=by have:=h.vS k z;omega):=h
def Bj(h:qe:=by rw[e];exact V):=h
def oB(h:qe:=by rw[Hp.get_set,if_neg ac,aD,if_neg ac]):=h
def JA(h:qe:=by rw[hg _ ac];exact h.a):=h
def JB(h:qe:=by rw[hg _ ac];exact h.f):=h
def JC(h:qe:=by rw[hg _ ac];exact h.t):=h
def JD(h:qe:=by rw[hg _ ac];exact h.n):=h
def ur:=@Nat.lt_of_le_of_lt
def jQ:=@List.length_set
def EG:=@List.not_mem_nil
def zcJ:=@or_false
def xm:=@List.length_replicate
def xn:=@Int.tmod_lt_of_pos
def xo:=@List.all_append
def iD:=And.intro @gG.{0,0} @aQ.{0}
def zcK:=And.intro @gH.{0} @EG.{0}
def jh:=And.intro zcK @zcJ
def kF:=And.intro @eK.{0,0} @ym.{0,0}
end Go.Ab
namespace Go.Proofs.YtpbcimfiofmoeaaGreat
set_option maxRecDepth 20000
open Go Go.Ab Proofs.Tryz
variable(ρ:Nat->Int)
variable{c i z q M:Nat}{C:List bG}{x:St}{k:Int}{Z L:qy}{S S':Nat->Prop}{H H':Hp}{w cs:qu}{cfg:Cfg}{P:Program}{e:TypeId}{U:AV}
section
structure ea (a b:Bd):Prop where
 l:a.l<+:b.l
 n:a.loops<=b.loops
def ea.refl(a:Bd):ea a a:=⟨rW _,ay _⟩
def ri:=@ea.refl
def ea.trans{a b c:Bd}(h:ea a b)(k:ea b c):ea a c:=⟨h.l.trans k.l,dw h.n k.n⟩
def EH:=@ea.trans
structure Fin (s:Bd):Prop where
 r:∀x∈s.l,NdR x
 l:s.l.length<2^36
 n:s.loops<2^36
def Fin.le{a b:Bd}(h:Fin b)(k:ea a b):Fin a:=⟨fun x hx=>h.r x (k.l.subset hx),ur k.l.length_le h.l,ur k.n h.n⟩
structure Lv (a b:Bd):Prop where
 le:ea a b
 v:b.vars=a.vars
 n:b.loops=a.loops
def Lv.refl(a:Bd):Lv a a:=⟨ri a,rfl,rfl⟩
def Lv.trans{a b c:Bd}(h:Lv a b)(k:Lv b c):Lv a c:=⟨h.le.trans k.le,k.v.trans h.v,k.n.trans h.n⟩
def Lv.setS{a b:Bd}(h:Lv a b)(x:Int):Lv a {b with ab:=x}:=⟨⟨h.le.l,h.le.n⟩,h.v,h.n⟩
def ea.setS{a b:Bd}(h:ea a b)(x:Int):ea a {b with ab:=x}:=⟨h.l,h.n⟩
def ea.setV{a b:Bd}(h:ea a b)(x:qy):ea a {b with vars:=x}:=⟨h.l,h.n⟩
def cC(n:Nd)(s:Bd):Lv s (ah n s).2:=⟨⟨sZ s.l n,ay _⟩,rfl,rfl⟩
def eZ(c a b:Int)(s:Bd):Lv s (bA c a b s).2:=by
 unfold bA;split
 .exact Lv.refl s
 .exact cC _ s
def rj(t v:Int)(s:Bd):Lv s (kC t v s):=(cC _ s).setS _
def r0(t v:Int)(s:Bd):Lv s (eO t v s):=(cC _ s).trans ((cC _ _).trans (rj _ _ _))
def Bk(v:Int)(s:Bd):Lv s (mF v s):=(cC _ s).trans ((cC _ _).trans (rj _ _ _))
theorem dr(c:Cx):∀(n:Nat) (x:Ex) (s:Bd) (r:Int×Bd),ec c n x s=some r->Lv s r.2
 |0,_,_,_,h=>by simp[ec]at h
 |n+1,x,s,r,h=>by
  have m:=dr c n;unfold ec at h;split at h
  .cases h;exact cC _ s
  split at h
  .obtain⟨v,_,rfl⟩:=sC.1 h;exact Lv.refl s
  split at h
  .simp only[iD]at h;obtain⟨k,_,I,Z,a,_,rfl⟩:=h;exact(m _ _ _ Z).trans ((r0 _ _ _).trans (cC _ _))
  split at h
  .simp only[iD]at h;obtain⟨k0,_,br,Y,O,_,I,Z,C,_,M,j,rfl⟩:=h;have a:=(m _ _ _ Y).trans (m _ _ _ Z);have b:=(a.setS br.2.ab).trans (m _ _ _ j);exact(b.trans ((eZ _ _ _ _).trans (eZ _ _ _ _))).setS _
  .simp only[gG]at h;obtain⟨k0,_,br,Y,h⟩:=h;have a:=m _ _ _ Y;split at h
   .cases h;exact a.trans (cC _ _)
   .simp only[iD]at h;obtain⟨O,_,I,Z,rfl⟩:=h;have b:=a.trans (m _ _ _ Z);refine Lv.trans ?_ (cC _ _);split
    .exact b.trans (Bk _ _)
    .exact b
theorem sc(c:Cx)(n:Nat):∀(l:qI) (s:Bd) (r:qy×Bd),nC c n l s=some r->Lv s r.2/\r.1.length=l.length
 |[],s,r,h=>by cases h;exact⟨Lv.refl s,rfl⟩
 |x::l,s,r,h=>by
  unfold nC at h;simp only[iD]at h;obtain⟨I,m,M,j,rfl⟩:=h;obtain⟨a,b⟩:=sc c n l _ _ j;exact⟨(dr c n _ _ _ m).trans a,by simp[b]⟩
theorem ta(c:Int)(a:qy):∀(k i:Nat) (s r:Bd),lC c a k i s=some r->ea s r/\r.ab=s.ab/\r.vars.length=s.vars.length/\r.loops=s.loops
 |0,i,s,r,h=>by cases h;exact⟨ri s,rfl,rfl,rfl⟩
 |k+1,i,s,r,h=>by
  unfold lC at h;simp only[gG]at h;obtain⟨x,_,y,_,h⟩:=h;have e:=ta c a k (i+1) _ _ h;have m:=eZ c x y s;have U:(bA c x y s).2.ab=s.ab:=by unfold bA;split<;>rfl
  refine⟨(m.le.setV _).trans e.1,e.2.1.trans U,?_,e.2.2.2.trans m.n⟩;rw[e.2.2.1,jQ,m.v]
theorem sd(base:Int):∀(M:qG) (j:Nat) (s:Bd),ea s (ik base M j s)/\(ik base M j s).ab=s.ab/\(ik base M j s).vars.length=s.vars.length/\(ik base M j s).loops=s.loops
 |[],j,s=>⟨ri s,rfl,rfl,rfl⟩
 |w::M,j,s=>by
  unfold ik;have e:=sd base M (j+1) { (ah ⟨3,base+j,[]⟩ s).2 with vars:=(ah ⟨3,base+j,[]⟩ s).2.vars.set w (ah ⟨3,base+j,[]⟩ s).1};refine⟨((cC _ s).le.setV _).trans e.1,e.2.1,?_,e.2.2.2⟩;rw[e.2.2.1,jQ];rfl
theorem tc(lp c:Int)(old:qy):∀(M:qG) (j:Nat) (s:Bd),ea s (fD lp c old M j s)/\(fD lp c old M j s).ab=s.ab/\(fD lp c old M j s).vars.length=s.vars.length/\(fD lp c old M j s).loops=s.loops
 |[],j,s=>⟨ri s,rfl,rfl,rfl⟩
 |w::M,j,s=>by
  unfold fD;simp only[];have m:=(cC ⟨25,j,[lp]⟩ s).trans (eZ c (ah ⟨25,j,[lp]⟩ s).1 (old.getD w 0) (ah ⟨25,j,[lp]⟩ s).2);have U:(bA c (ah ⟨25,j,[lp]⟩ s).1 (old.getD w 0) (ah ⟨25,j,[lp]⟩ s).2).2.ab=s.ab:=by unfold bA;split<;>rfl
  generalize bA c (ah ⟨25,j,[lp]⟩ s).1 (old.getD w 0) (ah ⟨25,j,[lp]⟩ s).2=q at *;have e:=tc lp c old M (j+1) {q.2 with vars:=q.2.vars.set w q.1};refine⟨(m.le.setV _).trans e.1,e.2.1.trans U,?_,e.2.2.2.trans m.n⟩;rw[e.2.2.1,jQ,m.v]
theorem jD(c:Cx):∀n:Nat,(∀x s r,lU c n x s=some r->ea s r/\r.vars.length=s.vars.length)/\(∀l s r,eY c n l s=some r->ea s r/\r.vars.length=s.vars.length)/\(∀x s r,nD c n x s=some r->ea s r/\r.vars.length=s.vars.length)
 |0=>⟨fun _ _ _ h=>by simp[lU]at h,fun _ _ _ h=>by simp[eY]at h,fun _ _ _ h=>by simp[nD]at h⟩
 |n+1=>by
  obtain⟨I1,U,I3⟩:=jD c n;refine⟨fun x s r h=>?_,fun l s r h=>?_,fun x s r h=>?_⟩
  .unfold lU at h;split at h
   .simp only[gG]at h;obtain⟨v,Z,h⟩:=h;split at h
    .cases h;have a:=dr c n _ _ _ Z;exact⟨a.le.setV _,by rw[jQ,a.v]⟩
    .cases h
   split at h
   .simp only[iD]at h;obtain⟨i,Z,v,j,a,_,rfl⟩:=h;have a:=(dr c n _ _ _ Z).trans ((dr c n _ _ _ j).trans ((r0 a.len i.1 v.2).trans (cC ⟨28,bV (c.aa.map (·.name)) x.name,[(eO a.len i.1 v.2).ab,i.1,v.1]⟩ _)));exact⟨a.le.setS _,by show List.length (Bd.vars _)=_;rw[a.v]⟩
   split at h
   .simp only[iD]at h;obtain⟨q,Z,a,j,b,C,m,h4,rfl⟩:=h;have Y:=dr c n _ _ _ Z;have J:=U _ _ _ j;have V:=U _ _ _ C;have O:=ta _ _ _ _ _ _ h4;have z:=eZ q.1 a.ab m.ab m;have k:ea a b:=⟨V.1.l,V.1.n⟩;refine⟨(Y.le.trans (J.1.trans (k.trans (O.1.trans z.le)))).setS _,?_⟩;show(bA q.1 a.ab m.ab m).2.vars.length=_;rw[z.v,O.2.2.1,V.2];show q.2.vars.length=_;rw[Y.v]
   split at h
   .exact I3 _ _ _ h
   split at h
   .simp only[iD]at h;obtain⟨v,Z,rfl⟩:=h;have a:=(dr c n _ _ _ Z).trans (cC ⟨29,0,[v.2.ab,v.1]⟩ v.2);exact⟨a.le.setS _,by show List.length (Bd.vars _)=_;rw[a.v]⟩
   split at h
   .simp only[gG]at h;obtain⟨M,Z,h⟩:=h;split at h
    .cases h;have a:=(sc c n _ _ _ Z).1;have b:=a.le.trans (cC ⟨30,cJ c.funcs x.to 0,M.2.ab::M.1⟩ M.2).le;refine⟨ea.setV (EH (b.setS _) (cC _ _).le) _,?_⟩;rw[jQ];exact lN List.length a.v
    .cases h
   split at h
   .cases h;have a:=(cC ⟨1,0,[]⟩ s).trans (rj (bB (16+x.n)) (ah ⟨1,0,[]⟩ s).1 _);exact⟨a.le,by rw[a.v]⟩
   .cases h;exact⟨ri s,rfl⟩
  .unfold eY at h;cases l with
   |nil=>cases h;exact⟨ri s,rfl⟩
   |cons x l=>
    simp only[gG]at h;obtain⟨q,Z,j⟩:=h;have a:=I1 _ _ _ Z;have b:=U _ _ _ j;exact⟨a.1.trans b.1,b.2.trans a.2⟩
  .unfold nD at h;simp only[iD]at h;obtain⟨q,Z,b,_,t,j,d,C,rfl⟩:=h;have Y:=dr c n _ _ _ Z;have I:ea s q.2:=⟨Y.le.l,dw (cG _) Y.le.n⟩;have p:=cC ⟨3,16*(s.loops:Int),[]⟩ q.2;have J:=sd (16*(s.loops:Int)+1) (eS b) 0 { (ah ⟨3,16*(s.loops:Int),[]⟩ q.2).2 with ab:=(ah ⟨3,16*(s.loops:Int),[]⟩ q.2).1};have V:=U _ _ _ j;have O:=dr c n _ _ _ C;have a1:ea s d.2:=I.trans ((p.le.setS _).trans (J.1.trans (V.1.trans O.le)));refine⟨?_,?_⟩
   .refine EH ?_ (tc _ _ _ _ _ _).1;refine ea.setS ?_ _;refine EH (EH ?_ (cC _ _).le) (eZ _ _ _ _).le;refine ea.setV ?_ _;exact a1.trans (cC _ _).le
   .rw[(tc _ _ _ _ _ _).2.2.1];show(bA _ _ _ _).2.vars.length=_;rw[(eZ _ _ _ _).v];show q.2.vars.length=_;rw[Y.v]
def zie(b:qM)(k i:Nat):(b.set k true).getD i false=if k=i/\k<b.length then true else b.getD i false:=by
 grind
def EI{n:Nat}{l:qD}{b Z:qM}(h:fC C (n+1) (x::l) b=some Z):
 ∃j m O,j=(if x.am=1\/x.am=6 then b.set (bV C x.name) true else b)/\(x.am=1\/x.am=6->bV C x.name<b.length)/\fC C n x.bl j=some m/\fC C n x.bA m=some O/\fC C n l O=some Z:=by
 unfold fC at h;simp only[]at h;split at h
 .cases h
 .rename_i Y;simp only[gG]at h;simp_all
theorem ut(C:List bG):∀(n:Nat) (l:qD) (b b':qM),fC C n l b=some b'->∀i,b'.getD i false=false->b.getD i false=false
 |0,_,_,_,h,_,_=>by simp[fC]at h
 |n+1,[],b,b',h,i,hi=>by cases h;exact hi
 |n+1,x::l,b,b',h,i,hi=>by
  obtain⟨Y,m,O,e,z,j,Z,V⟩:=EI h;have:=ut C n _ _ _ j i (ut C n _ _ _ Z i (ut C n _ _ _ V i hi))
  grind
theorem EJ(C:List bG):∀(n m:Nat) (l:qD) (b b' c M:qM),fC C n l b=some b'->fC C m l c=some M->∀i,b.getD i false=false->M.getD i false=false->b'.getD i false=false
 |0,_,_,_,_,_,_,h,_,_,_,_=>by simp[fC]at h
 |n+1,0,_,_,_,_,_,_,h,_,_,_=>by simp[fC]at h
 |n+1,m+1,[],b,b',c,M,h,k,i,hb,hc=>by cases h;exact hb
 |n+1,m+1,x::l,b,b',c,M,h,k,i,hb,hc=>by
  obtain⟨j,b2,b3,e,hk,V,U,O⟩:=EI h;obtain⟨c1,c2,c3,e',J,Z,I,z⟩:=EI k;have Y:=ut C m _ _ _ z i hc;have q2:=ut C m _ _ _ I i Y;have q1:=ut C m _ _ _ Z i q2;have r1:j.getD i false=false:=by
   grind
  exact EJ C n m _ _ _ _ _ O z i (EJ C n m _ _ _ _ _ U I i (EJ C n m _ _ _ _ _ V Z i r1 q2) Y) hc
def uu(C:List bG)(l:qD)(i:Nat):Prop:=∃m b b',fC C m l b=some b'/\b'.getD i false=false
def uu.cons{l:qD}(h:uu C (x::l) i):(x.am=1\/x.am=6->i≠bV C x.name)/\uu C x.bl i/\uu C x.bA i/\uu C l i:=by
 obtain⟨m,b,b',h,I⟩:=h;cases m with
 |zero=>simp[fC]at h
 |succ m=>
  obtain⟨M,J,z,e,hk,j,Z,V⟩:=EI h;have Y:=ut C m _ _ _ V i I;have q2:=ut C m _ _ _ Z i Y;have q1:=ut C m _ _ _ j i q2;refine⟨fun U O=>?_,⟨m,_,_,j,q2⟩,⟨m,_,_,Z,Y⟩,⟨m,_,_,V,I⟩⟩;simp_all
theorem PJ(base:Int):∀(M:qG) (j:Nat) (s:Bd) (i:Nat),i∉M->(ik base M j s).vars[i]?=s.vars[i]?
 |[],j,s,i,_=>rfl
 |w::M,j,s,i,h=>by
  rw[gH,not_or]at h;show(ik base M (j+1) { (ah ⟨3,base+j,[]⟩ s).2 with vars:=(ah ⟨3,base+j,[]⟩ s).2.vars.set w (ah ⟨3,base+j,[]⟩ s).1}).vars[i]?=_;rw[PJ base M (j+1) _ i h.2,sE,af (fun e=>h.1 e.symm)];rfl
theorem PK(lp c:Int)(old:qy):∀(M:qG) (j:Nat) (s:Bd) (i:Nat),i∉M->(fD lp c old M j s).vars[i]?=s.vars[i]?
 |[],j,s,i,_=>rfl
 |w::M,j,s,i,h=>by
  rw[gH,not_or]at h;show(fD lp c old M (j+1) { (bA c (ah ⟨25,j,[lp]⟩ s).1 (old.getD w 0) (ah ⟨25,j,[lp]⟩ s).2).2 with vars:=(bA c (ah ⟨25,j,[lp]⟩ s).1 (old.getD w 0) (ah ⟨25,j,[lp]⟩ s).2).2.vars.set w (bA c (ah ⟨25,j,[lp]⟩ s).1 (old.getD w 0) (ah ⟨25,j,[lp]⟩ s).2).1}).vars[i]?=_;rw[PK lp c old M (j+1) _ i h.2,sE,af (fun e=>h.1 e.symm),(eZ _ _ _ _).v];rfl
theorem PL(c:Int)(a:qy):∀(k j:Nat) (s r:Bd),lC c a k j s=some r->∀(i:Nat),a[i]?=s.vars[i]?->r.vars[i]?=s.vars[i]?
 |0,j,s,r,h,i,_=>by cases h;rfl
 |k+1,j,s,r,h,i,e=>by
  unfold lC at h;simp only[gG]at h;obtain⟨x,hx,y,hy,h⟩:=h;have z:((bA c x y s).2.vars.set j (bA c x y s).1)[i]?=s.vars[i]?:=by
   rw[(eZ c x y s).v,sE];split
   .rename_i I;subst I;rw[hx,hy]at e;simp only[aQ]at e;subst e;have O:j<s.vars.length:=by
     by_cases q:j<s.vars.length
     .exact q
     .rw[sH ac]at hy;cases hy
    rw[ai O,hy,bA,ai rfl]
   .rfl
  have:=PL c a k (j+1) _ _ h i (by rw[e];exact z.symm);simp_all
def zcL{b:qM}(h:b.getD i false=false):i∉eS b:=fun Y=>by
 unfold eS at Y;simp_all
theorem zcM{b:qM}(h:i∉eS b):b.getD i false=false:=by
 by_cases c:i<b.length
 .cases hb:b.getD i false with
  |false=>rfl
  |true=>exact absurd (He.2 ⟨rI.2 c,hb⟩) h
 simp_all
theorem PM(c:Cx):∀n:Nat,(∀x s r,lU c n x s=some r->∀i,(x.am=1\/x.am=6->i≠bV c.aF x.name)->uu c.aF x.bl i->uu c.aF x.bA i->r.vars[i]?=s.vars[i]?) /\
 (∀l s r,eY c n l s=some r->∀i,uu c.aF l i->r.vars[i]?=s.vars[i]?)/\(∀x s r,nD c n x s=some r->∀i,uu c.aF x.bl i->r.vars[i]?=s.vars[i]?)
 |0=>⟨fun _ _ _ h=>by simp[lU]at h,fun _ _ _ h=>by simp[eY]at h,fun _ _ _ h=>by simp[nD]at h⟩
 |n+1=>by
  obtain⟨I1,V,I3⟩:=PM c n;refine⟨fun x s r h i z Y O=>?_,fun l s r h i M=>?_,fun x s r h i Y=>?_⟩
  .unfold lU at h;split at h
   .rename_i Z;simp only[gG]at h;obtain⟨v,hv,h⟩:=h;split at h
    .cases h;show(v.2.vars.set _ _)[i]?=_;rw[sE,af (fun e=>z (.inl Z) e.symm),(dr c n _ _ _ hv).v]
    .cases h
   split at h
   .simp only[iD]at h;obtain⟨q,Z,v,j,a,_,rfl⟩:=h;have a:=(dr c n _ _ _ Z).trans ((dr c n _ _ _ j).trans ((r0 a.len q.1 v.2).trans (cC ⟨28,bV (c.aa.map (·.name)) x.name,[(eO a.len q.1 v.2).ab,q.1,v.1]⟩ _)));show(Bd.vars _)[i]?=_;rw[a.v]
   split at h
   .simp only[iD]at h;obtain⟨q,Z,a,j,b,C,m,h4,rfl⟩:=h;have e1:=(dr c n _ _ _ Z).v;have e2:=V _ _ _ j i Y;have U:b.vars[i]?=q.2.vars[i]?:=V _ _ _ C i O;have e4:=PL _ _ _ _ _ _ h4 i (by rw[e2,U]);show(bA q.1 a.ab m.ab m).2.vars[i]?=_;rw[(eZ _ _ _ _).v,e4,U,e1]
   split at h
   .grind
   split at h
   .simp only[iD]at h;obtain⟨v,Z,rfl⟩:=h;have a:=(dr c n _ _ _ Z).trans (cC ⟨29,0,[v.2.ab,v.1]⟩ v.2);show(Bd.vars _)[i]?=_;rw[a.v]
   split at h
   .rename_i I;simp only[gG]at h;obtain⟨av,Z,h⟩:=h;split at h
    .cases h;show(List.set _ _ _)[i]?=_;rw[sE,af (fun e=>z (.inr I) e.symm)];exact lN (·[i]?) (sc c n _ _ _ Z).1.v
    .cases h
   split at h
   .cases h;have a:=(cC ⟨1,0,[]⟩ s).trans (rj (bB (16+x.n)) (ah ⟨1,0,[]⟩ s).1 _);rw[a.v]
   .cases h;rfl
  .unfold eY at h;cases l with
   |nil=>cases h;rfl
   |cons x l=>
    simp only[gG]at h;obtain⟨q,Z,j⟩:=h;obtain⟨a1,a2,a3,a4⟩:=M.cons
    grind
  .unfold nD at h;simp only[iD]at h;obtain⟨q,Z,b,hb,t,j,d,C,rfl⟩:=h;obtain⟨m,b0,b1,k1,k2⟩:=Y;have J:=EJ c.aF n m _ _ _ _ _ hb k1 i aX k2;rw[PK _ _ _ _ _ _ i (zcL J)];show(bA _ _ _ _).2.vars[i]?=_;rw[(eZ _ _ _ _).v];show q.2.vars[i]?=_;rw[(dr c n _ _ _ Z).v]
def zcN{c:Cx}{n:Nat}{b:qM}{base:Int}{s t:Bd}{v:qy}{d:Int×Bd}{k:Nat}(U:s.vars=v)(h2:fC c.aF n x.bl (List.replicate k false)=some b)(C:eY c n x.bl (ik base (eS b) 0 s)=some t)(V:ec c n x.value t=some d):∀i,i∉eS b->d.2.vars[i]?=v[i]?:=fun i I=>by
 rw[(dr c n _ _ _ V).v,(PM c n).2.1 _ _ _ C i ⟨n,_,_,h2,zcM I⟩,PJ _ _ _ _ i I,U]
def fL(l:qF)(n:Nd):Int:=match lT l.length (jB l l.length) n.ao with
 |none=>0
 |some s=>if iC n.op s&&gL l n then lA n s else 0
def zcO{op:Int}{s:qy}(h:iC op s=true)(e:op=25):s.length=1:=by
 subst e;unfold iC at h;have:jN 25=(1,true):=aH
 grind
theorem PN(l:qF)(n:Nd):jC (l++[n]) l.length=fL l n:=by
 rw[AR aw];have j:(l++[n]).take l.length=l:=List.take_left;have Y:jB (l++[n]) l.length=jB l l.length:=by
  have:=IU (l:=l++[n]) (m:=l.length) (i:=l.length) (ay _);simp_all
 have J:(l++[n])[l.length]?=some n:=bb;unfold sV fL;rw[Y,J];simp only;cases z:lT l.length (jB l l.length) n.ao with
 |none=>rfl
 |some s=>
  simp only;by_cases c:iC n.op s=true
  .have e:gL l n=gL (l++[n]) n:=by
    have:=NU (l:=l++[n]) (m:=l.length) (n:=n) fun U=>by
     have O:=IT z;have V:=zcO c U;cases Z:n.ao with
     |nil=>rw[Z,V]at O;simp at O
     |cons k C=>
      refine⟨k,C,rfl,?_⟩;have:=yo z k (by rw[Z];exact eg);omega
    rw[j]at this;exact this
   rw[e]
  simp_all
theorem PO{l:qF}:∀{C:qy},(∀k∈C,0<=k/\k<l.length/\jC l k≠0)->lT l.length (jB l l.length) C=some (C.map (jC l))
 |[],_=>rfl
 |k::C,h=>by
  obtain⟨m,Z,Y⟩:=h k eg;obtain⟨k,rfl⟩:=wG m;have e:=IV (l:=l) (i:=l.length) (j:=k) ac (ay _);rw[lT,tT,e,af ac,PO fun q U=>h q (en _ U)];rfl
def nE{l:qF}{n:Nd}(h:∀k∈n.ao,0<=k/\k<l.length/\jC l k≠0):fL l n=if iC n.op (n.ao.map (jC l))&&gL l n then lA n (n.ao.map (jC l))else 0:=by
 unfold fL;rw[PO h]
structure IsT (l:qF) (t:Int) (k:Int):Prop where
 lo:0<=k
 hi:k<l.length
 s:jC l k=t
def IsT.le{l O:qF}{t:Int}(h:IsT l t k)(Y:l<+:O):IsT O t k:=by
 obtain⟨m,rfl⟩:=Y;obtain⟨Z,j,C⟩:=h;obtain⟨k,rfl⟩:=wG Z;exact⟨Z,aX,by rw[NV ac];exact C⟩
section
variable {l:qF}
def PP(n:Int):fL l ⟨1,n,[]⟩=1:=by
 rw[nE aw];simp[iC,jN,ou,iW,gL,lA]
def PQ{n:Int}(m:0<=n)(h1:n<=5):fL l ⟨2,n,[]⟩=1:=by
 rw[nE aw];simp[iC,jN,ou,iW,gL,lS,lA,m,h1]
def EK{n:Int}(m:0<=n)(h1:n<=255):fL l ⟨3,n,[]⟩=if n.tmod 16=0 then 2 else 1:=by
 rw[nE aw];simp[iC,jN,ou,iW,gL,lS,lA,m,h1]
def PR:fL l ⟨26,0,[]⟩=2:=by
 rw[nE aw];simp[iC,jN,ou,iW,gL,lS,lA]
def PS{op a b:Int}(O:IsT l 1 a)(hb:IsT l 1 b)(m:4<=op)(h1:op<=19):fL l ⟨op,0,[a,b]⟩=1:=by
 have q:∀k:Int,(k<4\/19<k)->¬op=k:=fun k z e=>ac;have I:jN op=(2,true):=by
  unfold jN;rw[af ac,af ac,af ac,af ac,af ac,ai ⟨m,h1⟩]
 rw[nE (fun k z=>by
  simp only[jh]at z;rcases z with rfl|rfl
  .exact⟨O.lo,O.hi,by rw[O.s];decide⟩
  .exact⟨hb.lo,hb.hi,by rw[hb.s];decide⟩)]
 simp only[kF,O.s,hb.s];have v:iC op [1,1]=true:=by
  unfold iC;rw[I,af aw,af aw,af (q 31 ac),af (q 30 ac),af (fun h=>q 22 ac h.1)];unfold ou;rw[af (q 22 ac),af (by have:=q 23 ac;have:=q 27 ac;have:=q 29 ac;omega),af (q 28 ac),af (q 24 ac),af (q 25 ac)];rfl
 have i:gL l ⟨op,0,[a,b]⟩=true:=by
  unfold gL lS;simp only[];rw[af (q 1 ac),af (q 27 ac),af (q 2 ac),af (q 3 ac),af (by have:=q 23 ac;have:=q 28 ac;omega),af (q 30 ac),af (q 31 ac),af (q 25 ac)];rfl
 rw[v,i];simp only[ID,ft];unfold lA;simp_all
def PT{op a:Int}(O:IsT l 1 a)(m:op=20\/op=21):fL l ⟨op,0,[a]⟩=1:=by
 rw[nE (fun k z=>by
  simp only[jh]at z;subst z;exact⟨O.lo,O.hi,by rw[O.s];decide⟩)]
 simp only[kF,O.s];rcases m with rfl|rfl<;>simp[iC,jN,ou,iW,gL,lS,lA]
def PU{t c a b:Int}(M:IsT l 1 c)(O:IsT l t a)(hb:IsT l t b)(j:t=1\/t=2):fL l ⟨22,0,[c,a,b]⟩=t:=by
 rw[nE (fun k z=>by
  simp only[jh]at z;rcases z with rfl|rfl|rfl
  .exact⟨M.lo,M.hi,by rw[M.s];decide⟩
  .exact⟨O.lo,O.hi,by rw[O.s];omega⟩
  .exact⟨hb.lo,hb.hi,by rw[hb.s];omega⟩)]
 simp only[kF,O.s,hb.s,M.s];rcases j with rfl|rfl<;>simp[iC,jN,ou,iW,gL,lS,lA]
def JE{x y a b:Int}(C:x≠0)(U:y≠0)(O:IsT l x a)(hb:IsT l y b):∀k∈[a,b],0<=k/\k<l.length/\jC l k≠0:=fun k z=>by
 simp only[jh]at z;rcases z with rfl|rfl
 .exact⟨O.lo,O.hi,by rw[O.s];exact C⟩
 .exact⟨hb.lo,hb.hi,by rw[hb.s];exact U⟩
def PV{n s a:Int}(U:IsT l 2 s)(O:IsT l 1 a)(m:0<=n)(h1:n<=3):fL l ⟨23,n,[s,a]⟩=1:=by
 rw[nE (JE aH aH U O)];simp[U.s,O.s,iC,jN,ou,iW,gL,lS,lA,m,h1]
def PW{n s a:Int}(U:IsT l 2 s)(O:IsT l 1 a)(m:1<=n)(h1:n<=1000016):fL l ⟨27,n,[s,a]⟩=2:=by
 rw[nE (JE aH aH U O)];simp[U.s,O.s,iC,jN,ou,iW,gL,lA,m,h1]
def PX{s a:Int}(U:IsT l 2 s)(O:IsT l 1 a):fL l ⟨29,0,[s,a]⟩=2:=by
 rw[nE (JE aH aH U O)];simp[U.s,O.s,iC,jN,ou,iW,gL,lS,lA]
def PY{n s a b:Int}(U:IsT l 2 s)(O:IsT l 1 a)(hb:IsT l 1 b)(m:0<=n)(h1:n<=3):fL l ⟨28,n,[s,a,b]⟩=2:=by
 rw[nE (fun k z=>by
  simp only[jh]at z;rcases z with rfl|rfl|rfl
  .exact⟨U.lo,U.hi,ED⟩
  .exact⟨O.lo,O.hi,by rw[O.s];decide⟩
  .exact⟨hb.lo,hb.hi,by rw[hb.s];decide⟩)]
 simp[U.s,O.s,hb.s,iC,jN,ou,iW,gL,lS,lA,m,h1]
def PZ{s:Int}(U:IsT l 2 s):fL l ⟨24,0,[s]⟩=1:=by
 rw[nE (fun k z=>by
  simp only[jh]at z;subst z;exact⟨U.lo,U.hi,ED⟩)]
 simp[U.s,iC,jN,ou,iW,gL,lS,lA]
theorem EL:∀{Z:qy},(∀a∈Z,IsT l 1 a)->Z.map (jC l)=List.replicate Z.length 1
 |[],_=>rfl
 |a::Z,h=>by
  rw[eK,(h a eg).s,EL fun x hx=>h x (en _ hx)];rfl
def P1{n s:Int}(U:IsT l 2 s)(O:∀a∈Z,IsT l 1 a)(Y:Z.length<=6)(m:0<=n)(h1:n<=7):fL l ⟨30,n,s::Z⟩=2:=by
 rw[nE (fun k z=>by
  rcases gH.1 z with rfl|z
  .exact⟨U.lo,U.hi,ED⟩
  .exact⟨(O k z).lo,(O k z).hi,by rw[(O k z).s];decide⟩)]
 simp only[eK,U.s,EL O];have v:iC 30 (2::List.replicate Z.length 1)=true:=by
  have a:jN 30=(-1,true):=aH;unfold iC;simp_all
 have i:gL l ⟨30,n,s::Z⟩=true:=by simp[gL,lS,m,h1]
 rw[v,i];simp[lA]
def P2{n s d st:Int}{bs:qy}(U:IsT l 2 s)(O:∀a∈Z,IsT l 1 a)(hd:IsT l 1 d)(j:IsT l 2 st)(hb:∀a∈bs,IsT l 1 a)(V:Z.length=bs.length)(C:Z.length<=15)(I:0<=n)(h1:n<=15):fL l ⟨31,n,s::Z++[d,st]++bs⟩=3:=by
 rw[nE (fun k z=>by
  simp only[nT,jh]at z;rcases z with((rfl|z)|rfl|rfl)|z
  .exact⟨U.lo,U.hi,ED⟩
  .exact⟨(O k z).lo,(O k z).hi,by rw[(O k z).s];decide⟩
  .exact⟨hd.lo,hd.hi,by rw[hd.s];decide⟩
  .exact⟨j.lo,j.hi,by rw[j.s];decide⟩
  .exact⟨(hb k z).lo,(hb k z).hi,by rw[(hb k z).s];decide⟩)]
 have hm:(s::Z++[d,st]++bs).map (jC l)=2::(List.replicate Z.length 1++1::2::List.replicate Z.length 1):=by
  simp only[oP,kF,U.s,hd.s,j.s,EL O,EL hb,V];simp
 simp only[];rw[hm];generalize hn:Z.length=m at *;have Y:(2::(List.replicate m (1:Int)++1::2::List.replicate m 1)).length=2*m+3:=cb;have v:iC 31 (2::(List.replicate m 1++1::2::List.replicate m 1))=true:=by
  have a:jN 31=(-1,true):=aH;unfold iC;rw[a];simp only[zP,fG];rw[af ac,ai trivial];have M:=zbm (2::(List.replicate m (1:Int)++1::2::List.replicate m 1)) ac ac;have e1:(2*m+3)/2=m+1:=ac;rw[Y]at M⊢;rw[M,e1];have J:∀k,w6 (List.replicate k (1:Int))=true:=fun k=>by
   rw[w6,jX];intro x hx;rw[DZ hx];rfl
  have h1:((2::(List.replicate m (1:Int)++1::2::List.replicate m 1)).drop 1).take (m+1)=List.replicate (m+1) 1:=by
   rw[DL,hY,List.take_append,xm,gQ aw,show m+1-m=1 by omega];rw[List.replicate_succ'];rfl
  have h2:(2::(List.replicate m (1:Int)++1::2::List.replicate m 1)).getD (m+1+1) 0=2:=by
   rw[List.getD_cons_succ,gU,uW aw,xm,show m+1-m=1 by omega];rfl
  have h3:(2::(List.replicate m (1:Int)++1::2::List.replicate m 1)).drop (m+1+2)=List.replicate m 1:=by
   rw[DL,List.drop_append,xm,CH aw,lL,show m+1+1-m=2 by omega];rfl
  rw[h1,h2,h3,J,J];have e4:jo (((2*m+3:Nat):Nat):Int)<=16:=DW;simp_all
 have i:gL l ⟨31,n,s::Z++[d,st]++bs⟩=true:=by simp[gL,lS,I,h1]
 rw[v,i];simp[lA]
def EM{n:Int}{q:Nd}(z:IsT l 3 k)(U:l[k.toNat]?=some q)(m:0<=n)(h1:n<jo q.ao.length):fL l ⟨25,n,[k]⟩=if n=0 then 2 else 1:=by
 rw[nE (fun j Y=>by
  simp only[jh]at Y;subst Y;exact⟨z.lo,z.hi,by rw[z.s];decide⟩)]
 have i:gL l ⟨25,n,[k]⟩=true:=by
  have:D6 l k=q.ao.length:=by rw[D6,U]
  simp[gL,lS,this,m];omega
 simp only[kF,z.s];rw[i];by_cases c:n=0<;>simp[iC,jN,ou,iW,lA,c]
end
def Bl(l:qF):Prop:=∀i:Nat,i<l.length->jC l i≠0
theorem P3{l:qF}{i:Nat}(I:i<=l.length):∀{C s:qy},lT i (jB l i) C=some s->lT l.length (jB l l.length) C=some s
 |[],s,h=>by cases h;rfl
 |k::C,s,h=>by
  rw[lT]at h;split at h
  .cases h
  .rename_i c;obtain⟨t,Z,rfl⟩:=sC.1 h;obtain⟨k,rfl⟩:=wG (by omega:0<=k);rw[tT]at c;have m:=IV (l:=l) (i:=i) (j:=k) ac I;have M:=IV (l:=l) (i:=l.length) (j:=k) ac (ay _);rw[lT,tT,M,af (by rw[m]at c;omega),P3 I Z];simp_all
def zcP{l:qF}{n:Nd}(J:l[i]?=some n)(h:jC l i≠0):jC l i=fL l n:=by
 have I:i<l.length:=by
  grind
 rw[AR I]at h⊢;unfold sV at h⊢;unfold fL;rw[J]at h⊢;simp only at h⊢;cases z:lT i (jB l i) n.ao with
 |none=>simp_all
 |some s=>rw[P3 ac z]
def JF{l:qF}{n:Nd}{t:Int}(M:Bl l)(h:fL l n=t)(j:t≠0):IsT (i7 l n) t (fK l n)/\Bl (i7 l n):=by
 unfold i7;split
 .rename_i c;have hg:=PD c;refine⟨⟨ac,ac,?_⟩,M⟩;rw[zcP hg (M _ c)];exact h
 .rename_i c;have:=EC l n;have e:fK l n=l.length:=ac;rw[e];refine⟨⟨ac,aX,?_⟩,fun i I=>?_⟩
  .rw[PN];exact h
  .rw[iR,List.length_singleton]at I;by_cases q:i<l.length
   .rw[NV q];exact M i q
   .obtain rfl:i=l.length:=by omega
    rw[PN,h];exact j
def gV(n:Int):Prop:=-9223372036854775808<=n/\n<9223372036854775808
mutual
def dA:Ex->Prop
 | .mk _ n _ _ C=>gV n/\dt C
def dt:qI->Prop
 |[]=>True
 |e::es=>dA e/\dt es
end
theorem JG(x:Ex):dA x↔gV x.n/\dt x.ao:=by cases x;rw[dA];rfl
mutual
def ey:St->Prop
 | .mk _ _ _ _ a v V M O=>dA a/\dA v/\dt V/\cz M/\cz O
def cz:qD->Prop
 |[]=>True
 |x::l=>ey x/\cz l
end
theorem EN(x:St):ey x↔dA x.a8/\dA x.value/\dt x.args/\cz x.bl/\cz x.bA:=by cases x;rw[ey];rfl
def tyG1.tyF:=ad @cr (ad @dQ (ad @Zw (ad @cK (ad @et (ad @ya (@u7))))))
open tyG1
noncomputable def P4:{c:SC // aE 14 (f12.body.getD .skip)=c}:=by
 refine⟨?_,?_⟩;rotate_left
 .simp only[f12,bN,aE,bH,bw,bM,bJ,Nat.blt,Nat.ble];rfl
noncomputable def P5:{c:SC // aE 25 (f37.body.getD .skip)=c}:=by
 refine⟨?_,?_⟩;rotate_left
 .simp only[f37,bN,aE,bH,bw,bM,bJ,Nat.blt,Nat.ble];rfl
noncomputable def P6:{c:SC // aE 7 (f85.body.getD .skip)=c}:=by
 refine⟨?_,?_⟩;rotate_left
 .simp only[f85,bN,aE,bH,bw,bM,bJ,Nat.blt,Nat.ble];rfl
def bc(n m:Int):Int:=if n.tmod m<0 then bB (n.tmod m+m)else n.tmod m
def fE{n m:Int}(h:0<m)(h2:m<2^62):0<=bc n m/\bc n m<m:=by
 unfold bc;have C:=xn n h;have V:-m<n.tmod m:=by
  have:=xn (-n) h;rw[Int.neg_tmod]at this;omega
 split
 .unfold bB;rw[zZ _ ac];omega
 .omega
def po(x:Int×Int):qu:=[.int .i64 x.1,.int .i64 x.2]
def EO(x y:Int×Int)(h:po x=po y):x=y:=by
 simp only[po,eJ,AV.int.injEq,aW,kN]at h;exact ub h.1 h.2
def zcQ(x:Int×Int)(C:x.2≠0):bX prog ρ 12 (po x) (.int .i64 (bc x.1 x.2)):=fB fit (pls:=pls) (l:=[]) trivial (.cons (.int _ _) (.cons (.int _ _) .nil)) (.int _ _) (by
 have Z:=iB 12;obtain⟨n,m⟩:=x;rw[po];simp only[]at C⊢;refine bp (M:=14) (rs:=[.tmp 4]) (Z.call _) Z.aG Z.aB func12 rfl rfl P4.2 rfl ?_;dsimp only[P4,bm,Nat.reduceAdd];refine xH (fun hb hbp=>?_) (fun hb hbp=>?_);all_goals refine qq ?_
 all_goals (simp_all[bc];try omega))
noncomputable def vH:En:=⟨12,false,co (fun x=>x.2≠0) po fun x=>.int .i64 (bc x.1 x.2)⟩
def EP:dI prog ρ vH:=dT fun x hx=>zcQ ρ x hx
def jE{l:qC}(O:∀J,dE l 12 J=vH.sp J)(n m:Int)(Y:m≠0)(H:Hp):aR prog (au pls l) 12 [.int .i64 n,.int .i64 m] H fun v H'=>v=.int .i64 (bc n m)/\H'=H:=
 cV (enc:=po) (ok:=fun x=>x.2≠0) (out:=fun x=>.int .i64 (bc x.1 x.2)) EO (x:=(n,m)) (O _) Y
def vI:qy:=[0,1,-1,2,-9223372036854775808,9223372036854775807,4294967296,-2147483648,63,64]
def td(n U:Int):Int:=if bc n 24<10 then vI.getD (bc n 24).toNat 0 else if bc n 24<22 then bB (bc (bB (n.tdiv 24)) 17-6)else U
def zcR(H:Hp):de prog H 71 10 [(0,.int .i64 0),(1,.int .i64 1),(2,.int .i64 (-1)),(3,.int .i64 2),(4,.int .i64 (-9223372036854775808)),(5,.int .i64 9223372036854775807),(6,.int .i64 4294967296),(7,.int .i64 (-2147483648)),(8,.int .i64 63),(9,.int .i64 64)]=some (.sl H.next 0 10 1,H.alloc (.cells (vI.map fun n=>.int .i64 n) 0 true)):=ax
def zcS(x:Int×Int):bX prog ρ 37 (po x) (.int .i64 (td x.1 x.2)):=fB fit (pls:=pls) (l:=[vH]) ⟨EP ρ,trivial⟩ (.cons (.int _ _) (.cons (.int _ _) .nil)) (.int _ _) (by
 have Z:zd0 (au pls [vH]) 37:=ei (fun _=>rfl) rfl;obtain⟨n,m⟩:=x;have hr:=fE (n:=n) (m:=24) ac ac;have hp:0<=bc n 24:=hr.1;rw[po];simp only[];have U:(24:Int)≠0:=aH;refine bp (M:=25) (rs:=[.tmp 4]) (Z.call _) Z.aG Z.aB func37 rfl rfl P5.2 rfl ?_;dsimp only[P5,bm,Nat.reduceAdd];have O:=@zcR;repeat' (first
  |(apply aj ?_;clear hK K)|apply aV ?_|(apply eu ?_;first|refine bK (jE (fun _=>rfl) _ _ aH _) ?_)|(apply bz ?_ ?_<;>(intro hb hbp;try(cases hb;done)))|(apply am fun K hK=>?_)|fail)
 .have J:(bc n 24).toNat<10:=by omega
  have hg:vI[(bc n 24).toNat]?=some (vI.getD (bc n 24).toNat 0):=by
   rw[gU,bj (by simpa [vI]using J)];rfl
  refine GC ?_;all_goals refine qq ?_
  rw[td,ai lZ]
 .all_goals refine qq ?_
  rw[td,af lZ,ai lZ]
 .all_goals refine qq ?_
  rw[td,af lZ,af lZ])
noncomputable def EQ:En:=⟨37,false,co (fun _=>True) po fun x=>.int .i64 (td x.1 x.2)⟩
def zcT:dI prog ρ EQ:=dT fun x hx=>zcS ρ x
def zcU{l:qC}(O:∀J,dE l 37 J=EQ.sp J)(n m:Int)(H:Hp):aR prog (au pls l) 37 [.int .i64 n,.int .i64 m] H fun v H'=>v=.int .i64 (td n m)/\H'=H:=
 cV (enc:=po) (ok:=fun _=>True) (out:=fun x=>.int .i64 (td x.1 x.2)) EO (x:=(n,m)) (O _) trivial
def ct(f:Int):qx:=if f=0 then [[120],[121],[105],[106]]else [[110],[105]]
def uw(f:Int):(ct f).length=4\/(ct f).length=2:=by unfold ct;split<;>simp
def zcV(H:Hp)(a b c d:qA):de prog H 59 4 [(0,.aj a),(1,.aj b),(2,.aj c),(3,.aj d)]=some (.sl H.next 0 4 1,H.alloc (.cells [.aj a,.aj b,.aj c,.aj d] 0 true)):=ax
def Bm(H:Hp)(a b:qA):de prog H 59 2 [(0,.aj a),(1,.aj b)]=some (.sl H.next 0 2 1,H.alloc (.cells [.aj a,.aj b] 0 true)):=ax
theorem zcW(f:Int):bX prog ρ 85 [.int .i64 f] (cH (ct f)):=Iv (m:=3) (cfg:=au pls []) fit (u5 ρ) (fun f V r h=>by simp[au,dE]at h) (.cons (.int _ _) .nil) (by
 have Z:=iB 85;refine bp (M:=7) (rs:=[.tmp 2]) (Z.call _) Z.aG Z.aB func85 rfl rfl P6.2 rfl ?_;dsimp only[P6,bm,Nat.reduceAdd];have O:=@zcV;have z:=@Bm;refine xH (fun hb hbp=>?_) (fun hb hbp=>?_)
 .all_goals refine qq ?_
  rw[ct,ai lZ];rfl
 .all_goals refine qq ?_
  rw[ct,af lZ];rfl)
noncomputable def ER:En:=⟨85,false,co (fun _=>True) (fun n:Int=>[.int .i64 n]) fun f=>cH (ct f)⟩
def zcX:dI prog ρ ER:=dT fun x hx=>zcW ρ x
def P7{l:qC}(O:∀J,dE l 85 J=ER.sp J)(f:Int)(H:Hp):aR prog (au pls l) 85 [.int .i64 f] H fun v H'=>v=cH (ct f)/\H'=H:=
 cV (enc:=fun n:Int=>[.int .i64 n]) (ok:=fun _=>True) (out:=fun f=>cH (ct f)) I9 (x:=f) (O _) trivial
end
variable{v:AV}{r lo:Nat}
section
def tyG2.tyF:=ad @cr (ad @fP (@yc))
open tyG2
def fb(S:Nat->Prop)(n:Nat)(H:Hp)(v w:AV):Prop:=∃u,dq S n H v u/\∀m,n<=m->bY m u=w
def b9(S:Nat->Prop)(n:Nat)(H:Hp)(cs ws:qu):Prop:=∃Y,cp (dq S n H) cs Y/\∀m,n<=m->Y.map (bY m)=ws
def b9.frame(hS:∀k,S k->S' k){n:Nat}{v:qu}(h:b9 S n H v w)(J:H.next<=H'.next)(j:∀k,S k->k<H.next->rQ (H.get k) (H'.get k)):b9 S' n H' v w:=by
 obtain⟨u,m,Z⟩:=h;exact⟨u,m.mono fun a b k=>k.frame hS J j,Z⟩
def b9.keep(hS:∀k,S k->S' k){n:Nat}{v:qu}(h:b9 S n H v w)(J:H.next<=H'.next)(j:∀k,S k->k<H.next->H'.get k=H.get k):b9 S' n H' v w:=h.frame hS J fun k m Z=>.inl (j k m Z).symm
def fb.up{n m:Nat}{w:AV}(h:fb S n H v w)(Y:n<=m):fb S m H v w:=by
 obtain⟨u,Z,j⟩:=h;exact⟨u,Z.up Y,fun k z=>j k ac⟩
def b9.up{n m:Nat}{v:qu}(h:b9 S n H v w)(Y:n<=m):b9 S m H v w:=by
 obtain⟨u,Z,j⟩:=h;exact⟨u,Z.mono fun a b k=>k.up Y,fun k z=>j k ac⟩
def b9.nil{n:Nat}:b9 S n H [] []:=⟨[],trivial,fun _ _=>rfl⟩
def b9.cons{n:Nat}{w:AV}{ws:qu}(h:fb S n H v w)(k:b9 S n H cs ws):b9 S n H (v::cs) (w::ws):=by
 obtain⟨u,Z,j⟩:=h;obtain⟨V,C,U⟩:=k;exact⟨u::V,⟨Z,C⟩,fun m Y=>by rw[eK,j m Y,U m Y]⟩
def b9.append{S:Nat->Prop}{n:Nat}{H:Hp}:∀{a b c d:qu},b9 S n H a b->b9 S n H c d->b9 S n H (a++c) (b++d)
 |a,b,c,d,⟨u,Z,j⟩,⟨v,C,V⟩=>⟨u++v,Z.append C,fun m Y=>by rw[oP,j m Y,V m Y]⟩
def fb.cu{n:Nat}(h:NN v)(z:∀m,bY m v=v):fb S (n+1) H v v:=⟨v,vp h,fun m _=>z m⟩
def fb.int{n:Nat}(k:IntKind)(x:Int):fb S (n+1) H (.int k x) (.int k x):=.cu ⟨.int _ _,trivial⟩ fun m=>Bg
def fb.aj{n:Nat}(s:qA):fb S (n+1) H (.aj s) (.aj s):=.cu ⟨.aj _,trivial⟩ fun m=>Bg
def fb.ag{n:Nat}:fb S (n+1) H .ag (.az []):=⟨.ag,vp ⟨.ag,trivial⟩,fun m Y=>by
 obtain⟨m,rfl⟩:∃k,m=k+1:=⟨m-1,ac⟩;rfl⟩
def di(S:Nat->Prop)(n:Nat)(H:Hp)(z:Nat):List qu->List qu->Prop:=cp fun a b=>a.length=z/\b9 S n H a b
theorem P8{S:Nat->Prop}{n z:Nat}{H:Hp}:∀{a b:List qu},di S n H z a b->∃u,cp (cp (dq S n H)) a u/\(∀m,n<=m->u.map (List.map (bY m))=b)/\∀x∈a,x.length=z
 |[],[],_=>⟨[],trivial,fun _ _=>rfl,aw⟩
 |x::a,y::b,⟨⟨hz,v,h1,h2⟩,h⟩=>by
  obtain⟨u,C,V,Z⟩:=P8 (a:=a) (b:=b) h;exact⟨v::u,⟨h1,C⟩,fun m Y=>by rw[eK,h2 m Y,V m Y],fun q U=>by
   rcases gH.1 U with rfl|U
   .exact hz
   .exact Z q U⟩
def fb.rows{n:Nat}{imm:Nat}{tip:Bool}{a b:List qu}(hS:S r)(hr:r<H.next)(hg:H.get r=some (.cells a.flatten imm tip))(Z:imm<=a.flatten.length)(h:di S n H z a b):fb S (n+1) H (.sl r 0 a.length z) (.az b):=by
 obtain⟨u,Y,j,C⟩:=P8 h;refine⟨.az u,dq.rows hS hr hg Z C Y,fun m V=>?_⟩;obtain⟨m,rfl⟩:∃k,m=k+1:=⟨m-1,ac⟩;show AV.az (u.map fun I=>I.map (bY m))=_;rw[<-j m ac]
def se:=@fb.rows
def di.frame(hS:∀k,S k->S' k){n:Nat}{a b:List qu}(h:di S n H z a b)(J:H.next<=H'.next)(j:∀k,S k->k<H.next->H'.get k=H.get k):di S' n H' z a b:=cp.mono (fun x y k=>⟨k.1,k.2.keep hS J j⟩) h
def di.up{n m:Nat}{a b:List qu}(h:di S n H z a b)(Y:n<=m):di S m H z a b:=cp.mono (fun x y k=>⟨k.1,k.2.up Y⟩) h
def b9.d0{n:Nat}(s:qA):b9 S (n+1) H [.aj s] [.aj s]:=.cons (.aj s) .nil
theorem di.d0{S:Nat->Prop}{n:Nat}{H:Hp}:∀l:qx,di S (n+1) H 1 (l.map fun s=>[AV.aj s]) (l.map fun s=>[AV.aj s])
 |[]=>trivial
 |a::l=>⟨⟨rfl,b9.d0 a⟩,di.d0 l⟩
def vJ{n:Nat}(k O o:Int)(s:qA){kv:AV}{I:qI}(h:fb S (n+1) H kv (.az (I.map Ex.cells))):b9 S (n+1) H [.int .i64 k,.int .i64 O,.aj s,.int .i64 o,kv] (Ex.mk k O s o I).cells:=by
 rw[j0];exact .cons (.int _ _) (.cons (.int _ _) (.cons (.aj _) (.cons (.int _ _) (.cons h .nil))))
def pp{n:Nat}(k O o:Int)(s:qA):b9 S (n+1) H [.int .i64 k,.int .i64 O,.aj s,.int .i64 o,.ag] (Ex.mk k O s o []).cells:=vJ k O o s .ag
def cj:qy->Int×qy
 |[]=>(0,[])
 |a::l=>(a,l)
def zcY(lo:Nat)(H:Hp)(r:Nat)(v:AV)(L:qy):Prop:=(v=.az []/\L=[])\/∃b Y I z,v=.sl b Y L.length 1/\H.get b=some (.cells I z true)/\I.drop Y=L.map (fun n=>AV.int .i64 n)/\b≠r/\b<lo
def i8(lo:Nat)(H:Hp)(r:Nat)(L:qy)(c:Int):Prop:=r<lo/\lo<=H.next/\∃v,H.get r=some (.cells [v,.int .i64 c] 0 true)/\zcY lo H r v L
def i8.keep{c:Int}(h:i8 lo H r L c)(hn:H.next<=H'.next)(hg:∀k,k<lo->H'.get k=H.get k):i8 lo H' r L c:=by
 obtain⟨m,U,v,Z,j⟩:=h;refine⟨m,ac,v,by rw[hg _ m];exact Z,?_⟩;rcases j with j|⟨b,Y,I,z,V,O,J,C,M⟩
 .exact .inl j
 .exact .inr ⟨b,Y,I,z,V,by rw[hg _ M];exact O,J,C,M⟩
noncomputable def yF:{c:SC // aE 25 (f40.body.getD .skip)=c}:=by
 refine⟨?_,?_⟩;rotate_left
 .simp only[f40,bN,aE,bH,bw,bM,bJ,Nat.blt,Nat.ble];rfl
def ES(Z:zd0 cfg 40){c:Int}(h:i8 lo H r L c)(hL:L.length<2^60):
 aR prog cfg 40 [.ptr r 0] H fun v H'=>v=.int .i64 (cj L).1/\i8 lo H' r (cj L).2 c/\H'.next=H.next/\∀k,k≠r->H'.get k=H.get k:=by
 obtain⟨m,U,v,h1,h2⟩:=h;rcases h2 with⟨rfl,rfl⟩|⟨b,Y,V,z,rfl,e2,e3,C,e5⟩
 .refine bp (M:=25) (rs:=[.tmp 2]) (Z.call _) Z.aG Z.aB func40 rfl rfl yF.2 rfl ?_;dsimp only[yF,bm,Nat.reduceAdd];refine Cd (fun hb hbp=>?_);all_goals refine qq ?_
  exact⟨il,⟨m,U,_,h1,.inl ⟨rfl,rfl⟩⟩,il,fun _ _=>il⟩
 .cases L with
  |nil=>
   refine bp (M:=25) (rs:=[.tmp 2]) (Z.call _) Z.aG Z.aB func40 rfl rfl yF.2 rfl ?_;dsimp only[yF,bm,Nat.reduceAdd];refine Cd (fun hb hbp=>?_);all_goals refine qq ?_
   exact⟨il,⟨m,U,_,h1,.inr ⟨b,Y,V,z,rfl,e2,e3,C,e5⟩⟩,il,fun _ _=>il⟩
  |cons a L=>
   have hg:V[Y]?=some (.int .i64 a):=by
    have:=lN (fun l=>l[0]?) e3;simpa using this
   have hd:V.drop (Y+1)=L.map (fun n=>AV.int .i64 n):=by
    have:=lN (List.drop 1) e3;rw[CI]at this;simpa using this
   have I:0<L.length+1:=ac;have O:kW prog 23 (.sl b Y (L.length+1) 1) (some (.int .i64 1)) none=if L=[]then some (.az [])else some (.sl b (Y+1) L.length 1):=by
    simp only[kW,underlying23,j5,iQ];by_cases J:L=[]
    .subst J;rfl
    .have:0<L.length:=vo.2 J;rw[af J,ai ⟨ac,ay _,trivial⟩,af ac];rfl
   have hne:¬(((L.length+1:Nat):Int)=0):=ac;have hrb:(b == r)=false:=ak C;refine bp (M:=25) (rs:=[.tmp 2]) (Z.call _) Z.aG Z.aB func40 rfl rfl yF.2 rfl ?_;dsimp only[yF,bm,Nat.reduceAdd];by_cases J:L=[]
   .subst J;have hsl':kW prog 23 (.sl b Y 1 1) (some (.int .i64 1)) none=some (.az []):=O;have hne':¬(((1:Nat):Int)=0):=aH;have hp':0<1:=aH;clear O hne I;refine K0 (fun hb hbp=>?_);all_goals refine qq ?_
    refine⟨il,⟨m,U,_,fO,.inl ⟨rfl,rfl⟩⟩,il,fun k j=>by rw[aM,af j]⟩
   .rw[af J]at O;refine K0 (fun hb hbp=>?_);all_goals refine qq ?_
    refine⟨il,⟨m,U,_,Bh,.inr ⟨b,Y+1,V,z,rfl,by rw[aM,af C];exact e2,hd,C,e5⟩⟩,il,fun k j=>by rw[aM,af j]⟩
end
variable{rows:List qu}
section
def b9.aO{n:Nat}{v:qu}(h:b9 S n H v w)(hS:∀k,k<H.next->S k->S' k)(J:H.next<=H'.next)(j:∀k,S k->k<H.next->H'.get k=H.get k):b9 S' n H' v w:=by
 obtain⟨u,m,Z⟩:=h;exact⟨u,m.mono fun a b k=>k.cR hS J fun q C V=>.inl (j q C V).symm,Z⟩
def fb.aO{n:Nat}{w:AV}(h:fb S n H v w)(hS:∀k,k<H.next->S k->S' k)(J:H.next<=H'.next)(j:∀k,S k->k<H.next->H'.get k=H.get k):fb S' n H' v w:=by
 obtain⟨u,m,Z⟩:=h;exact⟨u,m.cR hS J fun q C V=>.inl (j q C V).symm,Z⟩
def di.aO{n:Nat}{a b:List qu}(h:di S n H z a b)(hS:∀k,k<H.next->S k->S' k)(J:H.next<=H'.next)(j:∀k,S k->k<H.next->H'.get k=H.get k):di S' n H' z a b:=cp.mono (fun x y k=>⟨k.1,k.2.aO hS J j⟩) h
theorem di.len{S:Nat->Prop}{n z:Nat}{H:Hp}:∀{a b:List qu},di S n H z a b->∀x∈a,x.length=z
 |[],[],_,x,hx=>by simp at hx
 |y::a,w::b,h,x,hx=>by
  rcases gH.1 hx with rfl|hx
  .exact h.1.1
  .exact di.len h.2 x hx
def cU(S:Nat->Prop)(n:Nat)(H:Hp)(z:Nat)(v:AV)(ws:List qu):Prop:=
 (v=.ag/\ws=[])\/∃q Z rows,v=.sl q 0 rows.length z/\S q/\q<H.next/\H.get q=some (.cells rows.flatten Z true)/\Z<=rows.flatten.length/\di (fun k=>S k/\k≠q) n H z rows ws
theorem cU.rd{n:Nat}{ws:List qu}(h:cU S n H z v ws):fb S (n+1) H v (.az ws):=by
 rcases h with⟨rfl,rfl⟩|⟨q,Y,rows,rfl,m,j,C,V,U⟩
 .exact .ag
 .exact .rows m j C V (U.frame (fun k Z=>Z.1) (ay _) fun _ _ _=>rfl)
def cU.up{n m:Nat}{ws:List qu}(h:cU S n H z v ws)(Y:n<=m):cU S m H z v ws:=by
 rcases h with h|⟨q,Z,rows,e,V,j,C,U,O⟩
 .exact .inl h
 .exact .inr ⟨q,Z,rows,e,V,j,C,U,di.up O Y⟩
def cU.keep{n:Nat}{ws:List qu}(h:cU S n H z v ws)(hS:∀k,k<H.next->S k->S' k)(J:H.next<=H'.next)(j:∀k,S k->k<H.next->H'.get k=H.get k):cU S' n H' z v ws:=by
 rcases h with h|⟨q,Z,rows,e,m,Y,C,I,h5⟩
 .exact .inl h
 .exact .inr ⟨q,Z,rows,e,hS q Y m,ac,by rw[j q m Y];exact C,I,h5.aO (fun k V U=>⟨hS k V U.1,U.2⟩) J fun k O M=>j k O.1 M⟩
def cU.one{S:Nat->Prop}{n:Nat}{H:Hp}{z:Nat}{v:AV}{ws:List qu}(h:cU S n H z v ws):AV.one v=true/\v.cells=[v]:=by
 rcases h with⟨rfl,rfl⟩|⟨q,Z,rows,rfl,_⟩<;>exact⟨rfl,rfl⟩
def cU.len{t:TypeId}(j:P.underlying t=some (.slice e)){n:Nat}{ws:List qu}(h:cU S n H z v ws):gO P H' t v=some (.int .i64 ws.length):=by
 rcases h with⟨rfl,rfl⟩|⟨q,Z,rows,rfl,m,V,C,U,Y⟩
 .exact Do j
 .rw[As j,show rows.length=ws.length from cp.len Y]
theorem cU.push{t:TypeId}{b:Nat}{zz:qu}(ht:P.underlying t=some (.slice e))(hs:bL P e=some z)(hb:dF P e=some b)(hz:cQ P e=some zz)(M:zz.length=z)(V:gN P t=true)
 {n:Nat}{ws:List qu} (h:cU (fun k=>lo<=k) n H z v ws) (I:lo<=H.next) {imm:Nat}{row:qu} (hg:H.get r=some (.cells row imm true)) (j:row.length=z) (Z:row.all AV.one=true)
 (hw:b9 (fun k=>lo<=k/\∀o m C,v≠.sl k o m C) n H row w) (hb1:(ws.length+1)*b<=ee) (hb2:ws.length+1<=ee) :
 ∃v' H',cD P false H t t v (.sl r 0 1 z)=some (v',H')/\cU (fun k=>lo<=k) n H' z v' (ws++[w])/\H'.next=H.next+1/\(∀k,k<H.next->(∀o m C,v≠.sl k o m C)->H'.get k=H.get k)/\∀k o m C,v'=.sl k o m C->k=H.next:=by
 have hx:fk H z (.sl r 0 1 z)=some (1,row):=by
  have:=tR (H:=H) (r:=r) (o:=0) (n:=1) (z:=z) (s:=z) hg PG;rw[this,hY,gQ ac]
 rcases h with⟨rfl,rfl⟩|⟨q,U,rows,rfl,h1,h2,h3,h4,h5⟩
 .refine⟨.sl H.next 0 1 z,H.alloc (.cells row 0 true),append_nil ht hs hb hz V hx Z M (by simpa using hb1) (by simpa using hb2),.inr ⟨H.next,0,[row],rfl,I,bT _,by rw[aD,ai rfl];simp,aw,⟨⟨j,hw.aO (fun k h1 h2=>⟨h2.1,ac⟩) (cG _) fun k h1 h2=>em⟩,trivial⟩⟩,rfl,fun k hk _=>em,fun k o m C e=>?_⟩;simp only[AV.sl.injEq]at e;exact e.1.symm
 .have hrl:=w5 (di.len h5);have hwl:rows.length=ws.length:=cp.len h5;have htr:gY false H z (.sl q 0 rows.length z)=H:=by
   unfold gY;simp only[h3,bR];have:Nat.blt (rows.length*z) rows.flatten.length=false:=by
    cases hb:Nat.blt (rows.length*z) rows.flatten.length with
    |false=>rfl
    |true=>rw[sI]at hb;omega
   simp only[ll,ja,this,mB]
  refine⟨.sl H.next 0 (rows.length+1) z,(H.a0 q).alloc (.cells (rows.flatten++row) (U-0) true),?_,.inr ⟨H.next,U-0,rows++[row],aw,I,bT _,?_,PH,?_⟩,rfl,fun k hk hno=>?_,fun k o m C e=>?_⟩
  .simp only[cD,ht,hs,hb,hz,V,hx,Z,htr,M,nV,ft,nL,h3,bR,hY,dM,fG];rw[ai ⟨by rw[hwl];exact hb1,by rw[hwl];exact hb2,ac,trivial,h4⟩]
  .show((H.a0 q).alloc _).get (H.a0 q).next=_
   rw[aD,ai rfl];simp
  .have Y:∀k,k<H.next->k≠q->((H.a0 q).alloc (.cells (rows.flatten++row) (U-0) true)).get k=H.get k:=fun k O J=>by rw[aD,af nh,iy,af J]
   refine cp.append (h5.aO (fun k O J=>⟨J.1,ac⟩) (cG _) fun k O J=>Y k J O.2) ⟨⟨j,hw.aO (fun k O J=>⟨J.1,ac⟩) (cG _) fun k O J=>Y k J fun e=>O.2 0 rows.length z oO⟩,trivial⟩
  .rw[aD,af nh,iy,af (fun e=>hno 0 rows.length z oO)]
  .simp only[AV.sl.injEq]at e;exact e.1.symm
def yG:=@cU.push
def JH(h:∀r∈rows,r.length=z):fk H z (.az rows)=some (rows.length,rows.flatten):=by
 simp only[fk];rw[ai (by rw[jX];intro r hr;simp[h r hr])]
theorem Ex.wk:∀(m:Nat) (x:Ex),x.cells.map (bY m)=x.cells
 |0,x=>by rw[show bY 0=id from rfl,AL]
 |m+1,x=>by
  rw[j0];simp only[kF,bY,uZ];have:(fun I=>List.map (bY m) I) ∘ Ex.cells=Ex.cells:=funext fun y=>Ex.wk m y;rw[this]
theorem P9(l:qI)(m:Nat):bY m (.az (l.map Ex.cells))=.az (l.map Ex.cells):=by
 cases m with
 |zero=>rfl
 |succ m=>
  simp only[bY,uZ];have:(fun I=>List.map (bY m) I) ∘ Ex.cells=Ex.cells:=funext fun y=>Ex.wk m y;rw[this]
theorem St.wk:∀(m:Nat) (x:St),x.cells.map (bY m)=x.cells
 |0,x=>by rw[show bY 0=id from rfl,AL]
 |m+1,x=>by
  rw[nX];simp only[kF,bY,uZ];have Z:(fun I=>List.map (bY m) I) ∘ Ex.cells=Ex.cells:=funext fun y=>Ex.wk m y;have j:(fun I=>List.map (bY m) I) ∘ St.cells=St.cells:=funext fun y=>St.wk m y;rw[Z,j]
theorem Qa(l:qD)(m:Nat):bY m (.az (l.map St.cells))=.az (l.map St.cells):=by
 cases m with
 |zero=>rfl
 |succ m=>
  simp only[bY,uZ];have:(fun I=>List.map (bY m) I) ∘ St.cells=St.cells:=funext fun y=>St.wk m y;rw[this]
def fb.eT{n:Nat}(l:qI):fb S (n+1) H (.az (l.map Ex.cells)) (.az (l.map Ex.cells)):=.cu ⟨AI l,trivial⟩ (P9 l)
def lD:=@fb.eT
def fb.eV{n:Nat}(l:qD):fb S (n+1) H (.az (l.map St.cells)) (.az (l.map St.cells)):=.cu ⟨yh l,trivial⟩ (Qa l)
def jr:=@fb.eV
def b9.ex{n:Nat}(x:Ex):b9 S (n+1) H x.cells x.cells:=by
 rw[j0];exact .cons (.int _ _) (.cons (.int _ _) (.cons (.aj _) (.cons (.int _ _) (.cons (.eT _) .nil))))
def b9.st{n:Nat}(x:St):b9 S (n+1) H x.cells x.cells:=by
 rw[nX];exact .cons (.int _ _) (.cons (.aj _) (.cons (.aj _) (.cons (.int _ _) (.cons (.int _ _) (.cons (.int _ _) (.cons (.aj _) (.cons (.int _ _) (.cons (.eT _) (.cons (.int _ _) (.cons (.int _ _) (.cons (.aj _) (.cons (.int _ _) (.cons (.eT _) (.cons (.eT _) (.cons (.eV _) (.cons (.eV _) .nil))))))))))))))))
def b9.ar{n:Nat}(x:Ar):b9 S (n+1) H x.cells x.cells:=.cons (.aj _) (.cons (.int _ _) .nil)
theorem di.fy{S:Nat->Prop}{n:Nat}{H:Hp}:∀l:List Ar,di S (n+1) H 2 (l.map Ar.cells) (l.map Ar.cells)
 |[]=>trivial
 |a::l=>⟨⟨rfl,b9.ar a⟩,di.fy l⟩
theorem JI:∀l:List Ar,(l.map Ar.cells).flatten.all AV.one=true
 |[]=>rfl
 |a::l=>by rw[eK,jl,xo,a.one,JI l];rfl
theorem zcZ(l:qx)(m:Nat):bY m (cH l)=cH l:=by
 cases m with
 |zero=>rfl
 |succ m=>
  show AV.az ((l.map fun s=>[AV.aj s]).map fun I=>I.map (bY m))=_;rw[uZ]
  congr 1
  exact List.map_congr_left fun s _=>Bg
def Qb(m:Nat)(k:IntKind)(n:Int):bY m (.int k n)=.int k n:=Bg
def Qc(m:Nat)(s:qA):bY m (.aj s)=.aj s:=Bg
def Fu.wk(m:Nat)(x:Fu):x.cells.map (bY m)=x.cells:=by
 rw[wO];simp only[kF,Qc,Qb,zcZ,Qa,P9]
def Ar.wk(m:Nat)(x:Ar):x.cells.map (bY m)=x.cells:=by
 rw[HW];simp only[kF,Qc,Qb]
theorem Qd{Z:Type}{f:Z->qu}(h:∀m x,(f x).map (bY m)=f x)(l:List Z)(m:Nat):bY m (.az (l.map f))=.az (l.map f):=by
 cases m with
 |zero=>rfl
 |succ m=>
  simp only[bY,uZ];have:(fun I=>List.map (bY m) I) ∘ f=f:=funext fun y=>h m y;rw[this]
def zc0{n:Nat}(x:Pr):b9 S (n+1) H x.cells x.cells:=
 .cons (.cu ⟨.map fun x _=>x.pure,trivial⟩ (Qd Ar.wk _)) (.cons (.cu ⟨.map fun x _=>x.pure,trivial⟩ (Qd Fu.wk _)) .nil)
def fb.agg{n:Nat}{ws:qu}(h:b9 S n H cs ws):fb S (n+1) H (.agg cs) (.agg ws):=by
 obtain⟨Y,Z,j⟩:=h;refine⟨.agg Y,⟨Y,Z,rfl⟩,fun m V=>?_⟩;obtain⟨m,rfl⟩:∃k,m=k+1:=⟨m-1,ac⟩;show AV.agg (Y.map (bY m))=_;rw[j m ac]
theorem zc1{n:Nat}{imm:Nat}{tip:Bool}(l:qy)(hS:S q)(U:q<H.next)(hg:H.get q=some (.cells (l.map fun n=>.int .i64 n) imm tip))(I:imm<=l.length):fb S (n+2) H (.sl q 0 l.length 1) (.az (l.map fun n=>[.int .i64 n])):=by
 have j:(l.map fun n=>[AV.int .i64 n]).flatten=l.map fun n=>AV.int .i64 n:=by
  clear hg I;induction l with
  |nil=>rfl
  |cons a l ih=>rw[eK,jl,ih];rfl
 have hr:∀l:qy,di S (n+1) H 1 (l.map fun n=>[AV.int .i64 n]) (l.map fun n=>[AV.int .i64 n]):=fun l=>by
  induction l with
  |nil=>trivial
  |cons a l ih=>exact⟨⟨rfl,.cons (.int _ _) .nil⟩,ih⟩
 have:=se (n:=n+1) (a:=l.map fun n=>[AV.int .i64 n]) (imm:=imm) (tip:=tip) hS U (by rw[j];exact hg) (by rw[j,dx];exact I) (hr l);rw[dx]at this;exact this
def JJ(fit:Fit prog){ρ:Nat->Int}(Z:pO cfg.dI ρ)(M:∀f V r,cfg.call f V=some r->bX prog ρ f V r){g:FuncId}{V:qu}{r:AV}{n:Nat}
 (Y:gl V) (h:aR prog cfg g V bt fun v H'=>∃m u,iceV H' m v=some u/\bY n u=r):bX prog ρ g V r:=by
 unfold aR at h;obtain⟨v,H',U,m,u,j,C⟩:=h;refine NM n (Iv (m:=m) fit Z M Y ?_) C;unfold aR;exact⟨v,H',U,j⟩
theorem Qe{t:TypeId}{b:Nat}{zz:qu}(ht:P.underlying t=some (.slice e))(hs:bL P e=some z)(hb:dF P e=some b)(hz:cQ P e=some zz)(Y:zz.length=z)(V:gN P t=true)
 {n:Nat}{ws:List qu} (h:cU S n H z v ws) (M:∀k,k<H.next->S k->S' k) (hN:S' H.next) {imm:Nat}{row:qu} (hg:H.get r=some (.cells row imm true)) (hrow:row.length=z) (Z:row.all AV.one=true)
 (I:(ws.length+1)*b<=ee) (C:ws.length+1<=ee) :
 ∃H' rows U,cD P false H t t v (.sl r 0 1 z)=some (.sl H.next 0 (ws.length+1) z,H')/\rows.length=ws.length/\(∀x∈rows,x.length=z)/\H'.get H.next=some (.cells (rows.flatten++row) U true)/\U<=rows.flatten.length/\H'.next=H.next+1/\(∀k,k<H.next->(∀o m z',v≠.sl k o m z')->H'.get k=H.get k) /\
  di (fun k=>S' k/\k≠H.next) n H' z rows ws:=by
 have hx:fk H z (.sl r 0 1 z)=some (1,row):=by
  have:=tR (H:=H) (r:=r) (o:=0) (n:=1) (z:=z) (s:=z) hg PG;rw[this,hY,gQ ac]
 rcases h with⟨rfl,rfl⟩|⟨q,U,rows,rfl,h1,h2,h3,h4,O⟩
 .exact⟨H.alloc (.cells row 0 true),[],0,append_nil ht hs hb hz V hx Z Y (by simpa using I) (by simpa using C),rfl,aw,by rw[aD,ai rfl];simp,cZ _,rfl,fun k hk _=>em,trivial⟩
 .have hrl:=w5 (di.len O);have J:rows.length=ws.length:=cp.len O;have htr:gY false H z (.sl q 0 rows.length z)=H:=by
   unfold gY;simp only[h3,bR];have:Nat.blt (rows.length*z) rows.flatten.length=false:=by
    cases hb:Nat.blt (rows.length*z) rows.flatten.length with
    |false=>rfl
    |true=>rw[sI]at hb;omega
   simp only[ll,ja,this,mB]
  refine⟨(H.a0 q).alloc (.cells (rows.flatten++row) (U-0) true),rows,U-0,?_,J,di.len O,?_,ac,rfl,fun k hk j=>?_,?_⟩
  .simp only[cD,ht,hs,hb,hz,V,hx,Z,htr,Y,nV,ft,nL,h3,bR,hY,dM,fG];rw[ai ⟨by rw[J];exact I,by rw[J];exact C,ac,trivial,h4⟩,J]
  .show((H.a0 q).alloc _).get (H.a0 q).next=_
   rw[aD,ai rfl]
  .rw[aD,af nh,iy,af (fun e=>j 0 rows.length z oO)]
  .exact O.aO (fun k h6 h7=>⟨M k h6 h7.1,ac⟩) (cG _) fun k h6 h7=>by rw[aD,af nh,iy,af h6.2]
def cU.of{n imm:Nat}{ws:List qu}{row:qu}(hS:S q)(U:q<H.next)(C:∀x∈rows,x.length=z)(j:row.length=z)(hg:H.get q=some (.cells (rows.flatten++row) imm true))(I:imm<=rows.flatten.length)(hr:di (fun k=>S k/\k≠q) n H z rows ws)(M:b9 (fun k=>S k/\k≠q) n H row w):cU S n H z (.sl q 0 (ws.length+1) z) (ws++[w]):=by
 have O:rows.length=ws.length:=cp.len hr;exact .inr ⟨q,imm,rows++[row],by rw[iR,O];rfl,hS,U,by rw[hg];simp,PH,hr.append ⟨⟨j,M⟩,trivial⟩⟩
def ET{n:Nat}(l:qx)(hS:S r)(hr:r<H.next)(hg:H.get r=some (.cells (l.map .aj) 0 true)):cU S (n+1) H 1 (.sl r 0 l.length 1) (l.map fun s=>[AV.aj s]):=
 .inr ⟨r,0,l.map fun s=>[AV.aj s],Bi,hS,hr,by rw[D0];exact hg,cZ _,di.d0 l⟩
structure FnL (pt:Nat->Nat) (b n:Nat) (H:Hp) (f:Fu) (p l bo:AV) (v:qu):Prop where
 len:v.length=5
 one:v.all AV.one=true
 ps:cU (fun q=>pt q=b) n H 1 p (f.params.map fun s=>[AV.aj s])
 ls:cU (fun q=>pt q=b+1) n H 1 l (f.ak.map fun s=>[AV.aj s])
 bo:cU (fun q=>pt q=b+2) n H 17 bo (f.body.map St.cells)
 vw:b9 (fun q=>pt q=b+3) n H v f.value.cells
def gM(nm:qA)(p l M:AV)(v:qu):qu:=[.aj nm,p,l,M]++v
structure zio (pt:Nat->Nat) (n:Nat) (H:Hp) (ra rf:Nat) (x y:Int) (f g:Fu) (pf lf bf:AV) (vf:qu) (pg lg bg:AV) (vg:qu):Prop where
 ga:H.get ra=some (.cells [.aj [97],.int .i64 x,.aj [98],.int .i64 y] 0 true)
 gf:H.get rf=some (.cells (gM f.name pf lf bf vf++gM g.name pg lg bg vg) 0 true)
 dc:ra<H.next
 cw:rf<H.next
 cI:pt ra=1
 bP:pt rf=2
 F:FnL pt 3 n H f pf lf bf vf
 G:FnL pt 7 n H g pg lg bg vg
def vK(M a b c q:Nat):Nat:=if q<=M then 0 else if q=M+1 then 1 else if q=M+7 then 2 else if q=M+3 then 3 else if q=M+4 then 4 else if q=M+5 then 7 else if q=M+6 then 8 else if q<a then 5 else if q<b then 6 else if q<c then 9 else 10
def zc2{a b:Nat}(h:M+8<=q)(h1:q<a):vK M a b c q=5:=EE
def zc3{a b:Nat}(h:M+8<=q)(h1:a<=q)(h2:q<b):vK M a b c q=6:=EE
def zc4{a b:Nat}(h:M+8<=q)(m:a<=q)(h1:b<=q)(h2:q<c):vK M a b c q=9:=EE
def zc5{a b:Nat}(h:M+8<=q)(m:a<=q)(h1:b<=q)(h2:c<=q):vK M a b c q=10:=EE
def EU{t:TypeId}{b:Nat}{J:qu}(ht:P.underlying t=some (.slice e))(hs:bL P e=some z)(hb:dF P e=some b)(hz:cQ P e=some J)(Z:J.length=z)(V:gN P t=true)
 {n:Nat}{ws:List qu} (h:cU S n H z v ws) (C:∀k,k<H.next->S k->S' k) (hN:S' H.next) {imm:Nat}{row:qu} (hg:H.get r=some (.cells row imm true)) (j:row.length=z) (U:row.all AV.one=true)
 (hw:b9 (fun k=>S' k/\∀o m M,v≠.sl k o m M) n H row w) (I:(ws.length+1)*b<=ee) (Y:ws.length+1<=ee) :
 ∃H',cD P false H t t v (.sl r 0 1 z)=some (.sl H.next 0 (ws.length+1) z,H')/\cU S' n H' z (.sl H.next 0 (ws.length+1) z) (ws++[w])/\H'.next=H.next+1/\(∀k,k<H.next->(∀o m M,v≠.sl k o m M)->H'.get k=H.get k):=by
 obtain⟨H',rows,imm',a1,a2,a3,a4,a5,a6,a7,a8⟩:=Qe (P:=P) ht hs hb hz Z V h C hN hg j U I Y;refine⟨H',a1,?_,a6,a7⟩;exact cU.of hN ac a3 j a4 a5 a8 (hw.aO (fun k h1 O=>⟨O.1,ac⟩) ac fun k h1 O=>a7 k O h1.2)
def zc6{I:Type}{s:List I}(h:s.length=3):∃a b c,s=[a,b,c]:=by
 match s,h with
 |[a,b,c],_=>exact⟨a,b,c,rfl⟩
def Qf(H:Hp)(O:cs.length=3)(M:cs.all AV.one=true):de prog H 22 1 [(0,.agg cs)]=some (.sl H.next 0 1 3,H.alloc (.cells cs 0 true)):=by
 obtain⟨a,b,c,rfl⟩:=zc6 O;kernel_rfl
theorem zc7(a b c:AV):cq 3 [a,b,c]=some (.agg [a,b,c]):=rfl
def di.fv{n:Nat}{a b:List qu}(h:di S n H z a b)(J:H.next<=H'.next)(j:∀k,S k->k<H.next->rQ (H.get k) (H'.get k)):di S n H' z a b:=cp.mono (fun x y k=>⟨k.1,k.2.frame (fun _ q=>q) J j⟩) h
def cU.fv{n:Nat}{ws:List qu}(h:cU S n H z v ws)(J:H.next<=H'.next)(V:∀k,S k->k<H.next->rQ (H.get k) (H'.get k)):cU S n H' z v ws:=by
 rcases h with h|⟨q,Z,rows,e,Y,h2,C,U,h5⟩
 .exact .inl h
 .have M:=h5.fv J fun k O I=>V k O.1 I;rcases V q Y h2 with m|⟨cs,i,j,tip,m,e2,e3⟩
  .exact .inr ⟨q,Z,rows,e,Y,ac,by rw[<-m];exact C,U,M⟩
  .rw[C]at m;simp only[aQ,HB.cells.injEq]at m;obtain⟨rfl,rfl,rfl⟩:=m;exact .inr ⟨q,j,rows,e,Y,ac,e2,e3 U,M⟩
structure Lx where
 p:Pr
 b:Nat
 ra:Nat
 rf:Nat
 rt:Nat
 rn:Nat
 ae:List (bG×Int)
 fe:List (bG×Int)
 ne:List (bG×Int)
def bU(X:Lx)(s:Bd)(M vv:AV):qu:=[.az (X.p.aa.map Ar.cells),.az (X.p.funcs.map Fu.cells),.map X.ra,.map X.rf,M,.map X.rt,.map X.rn,vv,.int .i64 s.ab,.int .i64 s.loops]
structure zd1 (X:Lx) (H:Hp) (S:Nat->Prop) (s:Bd) (lv vv:AV):Prop where
 m:H.get X.b=some (.cells (bU X s lv vv) 0 true)
 a:H.get X.ra=some (.map (dz X.ae))
 f:H.get X.rf=some (.map (dz X.fe))
 t:H.get X.rt=some (.map (dz (atV s.l 0)))
 n:H.get X.rn=some (.map (dz X.ne))
 aL:cU S 2 H 3 lv (s.l.map Nd.cells)
 vars:gK H vv s.vars 0
 o1:X.ra<X.rf
 o2:X.rf<X.rt
 o3:X.rt<X.rn
 o4:X.rn<X.b
 o5:X.b<H.next
 sS:∀k,S k->X.b<k/\k<H.next/\¬aN vv k
 vS:∀k,aN vv k->X.b<k/\k<H.next
structure Sm (n:Nat) (H H':Hp):Prop where
 get:∀k,k<n->H'.get k=H.get k
structure FrL (X:Lx) (S:Nat->Prop) (vv:AV) (H:Hp) (S':Nat->Prop) (vv':AV) (H':Hp):Prop where
 next:H.next<=H'.next
 get:∀k,k<H.next->k≠X.b->k≠X.rt->¬S k->¬aN vv k->H'.get k=H.get k
 sub:∀k,S' k->S k\/H.next<=k
 own:∀k,aN vv' k->aN vv k\/H.next<=k
def FrL.refl(X:Lx)(S:Nat->Prop)(vv:AV)(H:Hp):FrL X S vv H S vv H:=⟨ay _,fun _ _ _ _ _ _=>rfl,fun _ h=>.inl h,fun _ h=>.inl h⟩
def cX:=@FrL.refl
def FrL.trans{X:Lx}{I:Nat->Prop}{j J:AV}{m:Hp}(h:FrL X S v H S' j H')(k:FrL X S' j H' I J m):FrL X S v H I J m where
 next:=dw h.next k.next
 get r h1 h2 h3 h4 h5:=by
  rw[k.get r (lh h1 h.next) h2 h3 (fun e=>?_) (fun e=>?_)]
  .exact h.get r h1 h2 h3 h4 h5
  .rcases h.sub r e with e|e
   .exact h4 e
   .omega
  .rcases h.own r e with e|e
   .exact h5 e
   .omega
 sub r e:=by
  rcases k.sub r e with e|e
  .exact h.sub r e
  .exact .inr (dw h.next e)
 own r e:=by
  rcases k.own r e with e|e
  .exact h.own r e
  .exact .inr (dw h.next e)
section
variable {X:Lx} {H H':Hp} {S:Nat -> Prop} {s:Bd} {lv vv:AV}
def zd1.keep(h:zd1 X H S s lv vv)(J:H.next<=H'.next)(hg:∀k,k<H.next->(k<=X.b\/S k\/aN vv k)->H'.get k=H.get k):zd1 X H' S s lv vv:=by
 have I:=h.o1;have Y:=h.o2;have V:=h.o3;have O:=h.o4;have U:=h.o5;refine⟨PI,by rw[hg _ ac (.inl ac)];exact h.a,by rw[hg _ ac (.inl ac)];exact h.f,by rw[hg _ ac (.inl ac)];exact h.t,by rw[hg _ ac (.inl ac)];exact h.n,h.aL.keep (fun _ _ h=>h) J fun k z Z=>hg k Z (.inr (.inl z)),h.vars.keep J fun k z=>hg k (h.vS k z).2 (.inr (.inr z)),I,Y,V,O,ac,fun k z=>?_,fun k z=>?_⟩
 .have:=h.sS k z;exact⟨this.1,ac,this.2.2⟩
 .have:=h.vS k z;omega
def zd1.alloc(h:zd1 X H S s lv vv)(b:HB):zd1 X (H.alloc b) S s lv vv:=h.keep (cG _) fun k z _=>em
def zd1.cl(h:zd1 X H S s lv vv)(b c:HB):zd1 X ((H.alloc b).set H.next c) S s lv vv:=h.keep (cG _) fun k z _=>oB
def FrL.alloc{z:Nat->Prop}{bt:Hp}(h:FrL X z U bt S vv H)(b:HB):FrL X z U bt S vv (H.alloc b):=h.trans ⟨cG _,fun k Z _ _ _ _=>em,fun _ h=>.inl h,fun _ h=>.inl h⟩
def FrL.cl{z:Nat->Prop}{bt:Hp}(h:FrL X z U bt S vv H)(b c:HB):FrL X z U bt S vv ((H.alloc b).set H.next c):=h.trans ⟨cG _,fun k Z _ _ _ _=>oB,fun _ h=>.inl h,fun _ h=>.inl h⟩
def zd1.setS(h:zd1 X H S s lv vv)(x:Int):zd1 X (H.set X.b (.cells (bU X {s with ab:=x} lv vv) 0 true)) S {s with ab:=x} lv vv/\FrL X S vv H S vv (H.set X.b (.cells (bU X {s with ab:=x} lv vv) 0 true)):=by
 have I:=h.o1;have J:=h.o2;have Z:=h.o3;have O:=h.o4;have U:=h.o5;have hg:∀k,k≠X.b->(H.set X.b (.cells (bU X {s with ab:=x} lv vv) 0 true)).get k=H.get k:=fun k z=>ju;refine⟨⟨fO,JA,JB,JC,JD,h.aL.keep (fun _ _ h=>h) (ay _) fun k z Y=>hg k yE,h.vars.keep (ay _) fun k z=>hg k EF,I,J,Z,O,U,h.sS,h.vS⟩,⟨ay _,fun k _ j _ _ _=>hg k j,fun _ h=>.inl h,fun _ h=>.inl h⟩⟩
def zd1.dP(h:zd1 X H S s lv vv)(x:Nat):zd1 X (H.set X.b (.cells (bU X {s with loops:=x} lv vv) 0 true)) S {s with loops:=x} lv vv/\FrL X S vv H S vv (H.set X.b (.cells (bU X {s with loops:=x} lv vv) 0 true)):=by
 have I:=h.o1;have J:=h.o2;have Z:=h.o3;have O:=h.o4;have U:=h.o5;have hg:∀k,k≠X.b->(H.set X.b (.cells (bU X {s with loops:=x} lv vv) 0 true)).get k=H.get k:=fun k z=>ju;refine⟨⟨fO,JA,JB,JC,JD,h.aL.keep (fun _ _ h=>h) (ay _) fun k z Y=>hg k yE,h.vars.keep (ay _) fun k z=>hg k EF,I,J,Z,O,U,h.sS,h.vS⟩,⟨ay _,fun k _ j _ _ _=>hg k j,fun _ h=>.inl h,fun _ h=>.inl h⟩⟩
def zd1.setV(h:zd1 X H S s lv vv)(I:i<s.vars.length)(x:Int):∃r,el prog 23 vv (.int .i64 (i:Int))=some (.ptr r i)/\gX prog H 3 (.ptr r i)=some (.int .i64 (s.vars.getD i 0)) /\
 ∃H',lW prog H 3 (.ptr r i) (.int .i64 x)=some H'/\X.b<r/\r<H.next/\aN vv r/\zd1 X H' S {s with vars:=s.vars.set i x} lv vv/\FrL X S vv H S vv H'/\(∀k,k≠r->H'.get k=H.get k)/\H'.next=H.next:=by
 rcases h.vars with⟨_,j⟩|⟨r,Z,hg,Y,hr⟩
 .rw[j]at I;simp at I
 .have V:aN vv r:=⟨_,Z⟩;have M:=(h.vS r V).1;refine⟨r,?_,?_,H.set r (.cells ((s.vars.set i x).map (.int .i64)) 0 true),?_,M,hr,V,?_,⟨ay _,fun k _ _ _ _ U=>?_,fun _ h=>.inl h,fun _ h=>.inl h⟩,fun k z=>ju,rfl⟩
  .rw[Z,wI underlying23 j5 I];simp
  .rw[Au underlying3 rfl hg,eI,gU,bj I];rfl
  .rw[NQ hg (by rw[dx];exact I),wN]
  .have O:=h.o1;have J:=h.o2;have C:=h.o3;have m:=h.o4;have o5:=h.o5;have z:∀k,k≠r->(H.set r (.cells ((s.vars.set i x).map (.int .i64)) 0 true)).get k=H.get k:=fun k z=>ju;refine⟨by rw[z _ ac];exact h.m,by rw[z _ ac];exact h.a,by rw[z _ ac];exact h.f,by rw[z _ ac];exact h.t,by rw[z _ ac];exact h.n,h.aL.keep (fun _ _ h=>h) (ay _) fun k hS _=>z k fun e=>(h.sS k hS).2.2 Bj,.inr ⟨r,by rw[Z,jQ],fO,Y,hr⟩,O,J,C,m,o5,h.sS,h.vS⟩
  .rw[aM,af (fun e=>U Bj)]
def zd1.swapV(h:zd1 X H S s lv vv){vw:AV}{l:qy}(M:gK H vw l 0)(h1:∀k,aN vw k->X.b<k/\k<H.next/\¬S k):zd1 X (H.set X.b (.cells (bU X {s with vars:=l} lv vw) 0 true)) S {s with vars:=l} lv vw:=by
 have I:=h.o1;have J:=h.o2;have Z:=h.o3;have O:=h.o4;have U:=h.o5;have hg:∀k,k≠X.b->(H.set X.b (.cells (bU X {s with vars:=l} lv vw) 0 true)).get k=H.get k:=fun k z=>ju;exact⟨fO,JA,JB,JC,JD,h.aL.keep (fun _ _ h=>h) (ay _) fun k z Y=>hg k yE,M.keep (ay _) fun k z=>hg k (by have:=h1 k z;omega),I,J,Z,O,U,fun k z=>⟨(h.sS k z).1,(h.sS k z).2.1,fun e=>(h1 k e).2.2 z⟩,fun k z=>⟨(h1 k z).1,(h1 k z).2.1⟩⟩
end
end
end Go.Proofs.YtpbcimfiofmoeaaGreat
