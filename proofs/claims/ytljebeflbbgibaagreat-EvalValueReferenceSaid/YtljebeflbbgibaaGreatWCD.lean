/- Parts: AbDraw, AbPlan, AbCon, AbSound, AbLaw. -/
import Derived.Below
import Derived.ChangeSame
import Derived.Orders
import Derived.Test.YtljebeflbbgibaaGreatWCC
set_option linter.unusedSimpArgs false
set_option linter.unusedVariables false
set_option linter.unusedSectionVars false
set_option linter.defProp false
set_option maxHeartbeats 32000000
namespace Go.Ab
set_option maxRecDepth 20000
open Go
theorem iE{P:Prop}(h:P:=by simpa using h):P:=h
theorem i6{P:Prop}(h:P:=by rw[e]):P:=h
theorem ko{P:Prop}(h:P:=by simp at h):P:=h
theorem w1{P:Prop}(h:P:=by rw[V.size];exact(List.getElem?_eq_some_iff.1 K).1):P:=h
theorem w6{P:Prop}(h:P:=by rw[hs];have:=(List.getElem?_eq_some_iff.1 U).1;simpa using this):P:=h
theorem tX{P:Prop}(h:P:=by rw[List.length_drop];omega):P:=h
def gJ:=@List.mem_cons
def lb:=@List.mem_append
def tY:=@List.mem_flatMap
def jy:=@List.mem_range
def gK:=@Bool.not_true
def iF:=@Bool.false_or
def mb:=@List.mem_filter
def jz:=@Array.getElem?_eq_getElem
def fI:=@Bool.not_eq_true'
def tZ:=@Array.all_eq_true_iff_forall_mem
def lc:=@Bool.or_eq_true
def jA:=@List.mem_map
def pj:=@Nat.lt_or_ge
def t0:=@Array.getElem?_eq_none
def rh:=@Nat.lt_trichotomy
def pm:=@List.eq_nil_iff_forall_not_mem
def lf:=@List.getElem?_eq_none
def w7:=@Array.getElem?_replicate
def kp:=@Bool.true_or
def et:=@List.mem_cons_self
def ft:=@List.mem_cons_of_mem
def pn:=@List.map_append
def t3:=@List.mem_iff_getElem?
def nt:=@List.map_map
def t4:=@Bool.and_self
def ri:=@Nat.one_mul
def fJ:=@true_and
end Go.Ab
namespace Go.Ab
set_option maxRecDepth 20000
open Go Go.RowKit
theorem t6{i:Nat}:∀{l Z:List Nat},i∈m7 Z l↔i∈Z\/i∈l
 |[],Z=>by simp[m7]
 |x::xs,Z=>by
  simp only[m7];split
  .rename_i h;have C:x∈Z:=iE;rw[t6,gJ];exact⟨fun h=>h.elim .inl (fun h=>.inr (.inr h)),fun h=>h.elim .inl (fun h=>h.elim (fun e=>.inl (by subst e;exact C)) .inr)⟩
  .rw[t6,gJ,gJ];exact⟨fun h=>h.elim (fun h=>h.elim (fun e=>.inr (.inl e)) .inl) (fun h=>.inr (.inr h)),fun h=>h.elim (fun h=>.inl (.inr h)) (fun h=>h.elim (fun e=>.inl (.inl e)) .inr)⟩
theorem C5{i:Nat}{l:List Nat}:i∈oP l↔i∈l:=by unfold oP;rw[t6];simp
theorem t7:∀(l:List Oper) (Z:List (List Nat)) (i:Nat),i<Z.length->(dX l Z).getD i []=Z.getD i []
 |[],Z,i,_=>rfl
 |o::l,Z,i,h=>by
  simp only[dX];rw[t7 l _ i cQ];simp[List.getD,iy h]
theorem w8:∀(l:List Oper) (Z:List (List Nat)) (j:Nat) (o:Oper),l[j]?=some o ->
 ∃Y:List (List Nat),Y.length=Z.length+j/\(∀i,i<Y.length->(dX l Z).getD i []=Y.getD i [])/\(dX l Z).getD (Z.length+j) []=oP (preds o++(preds o).flatMap fun i=>Y.getD i [])
 |[],_,_,_,h=>by simp at h
 |o::l,Z,0,o',h=>by
  simp at h;subst h;refine⟨Z,rfl,fun i F=>t7 _ _ i F,?_⟩;simp only[dX,np];rw[t7 l _ Z.length aA];simp[List.getD]
 |o::l,Z,j+1,o',h=>by
  obtain⟨Y,U,g,V⟩:=w8 l (Z++[oP (preds o++(preds o).flatMap fun i=>Z.getD i [])]) j o' iE;simp only[eh,em,iX]at U V;refine⟨Y,aa,g,?_⟩;simp only[dX];rw[show Z.length+(j+1)=Z.length+(0+1)+j by omega];exact V
theorem C6{l:List Oper}{j:Nat}{o:Oper}(M:l[j]?=some o)(m:∀p∈preds o,p<j){i:Nat}:
 i∈(dX l []).getD j []↔i∈preds o\/∃p∈preds o,i∈(dX l []).getD p []:=by
 obtain⟨V,Y,U,O⟩:=w8 l [] j o M;simp only[iX,bZ]at Y O;rw[O,C5,lb,tY];constructor
 .rintro(h|⟨p,g,Z⟩)
  .exact .inl h
  .exact .inr ⟨p,g,by rw[U p (by rw[Y];exact m p g)];exact Z⟩
 .rintro(h|⟨p,g,Z⟩)
  .exact .inl h
  .exact .inr ⟨p,g,by rw[<-U p (by rw[Y];exact m p g)];exact Z⟩
structure CalmD (l:List Oper):Prop where
 lt:∀j o,l[j]?=some o->∀p∈preds o,p<j
 guard:∀j o g b,l[j]?=some o->o.guard=some (g,b)->g∈(dX l []).getD j []
 clash:∀i j p q,i<j->l[i]?=some p->l[j]?=some q->Ab.clash l p q=true->i∈(dX l []).getD j []
theorem C7{l:List Oper}(h:kS l=true):CalmD l:=by
 unfold kS at h;simp only[iB,jy]at h;have z:∀j o,l[j]?=some o->(∀p∈preds o,p<j)/\(∀g b,o.guard=some (g,b)->g∈(dX l []).getD j [])/\∀i p,i<j->l[i]?=some p->Ab.clash l p o=true->i∈(dX l []).getD j []:=fun j o U=>by
  have:=h j (cG.1 U).1;rw[U]at this;simp only[dn,iB,i4,jy]at this;obtain⟨⟨V,Y⟩,M⟩:=this;refine⟨V,fun g b A=>?_,fun i p F hp hc=>?_⟩
  .rw[A]at Y;simpa using Y
  .have:=M i F;rw[hp]at this;simp only[hc,gK,iF]at this;simpa using this
 exact⟨fun j o U=>(z j o U).1,fun j o g b U=>(z j o U).2.1 g b,fun i j p q Z F O=>(z j q O).2.2 i p Z F⟩
theorem t8{l:List Oper}(V:CalmD l){D:Nat->Prop}(F:∀j,D j->∀o,l[j]?=some o->∀p∈preds o,D p):
 ∀(j:Nat) o,l[j]?=some o->(∀p∈preds o,D p)->∀i∈(dX l []).getD j [],D i:=by
 intro j;induction j using Nat.strongRecOn with
 |_ j ih=>
  intro o U hp i Y;rcases(C6 U (V.lt j o U)).1 Y with h|⟨p,g,Z⟩
  .exact hp i h
  .have M:=V.lt j o U p g;have C:=(cG.1 U).1;have J:l[p]?=some (l[p]' aa):=a1 aa;exact ih p M _ J (fun q I=>F p (hp p g) _ J q I) i Z
theorem iG{l:List Oper}{i:Nat}:i∈RM l↔∃o,l[i]?=some o/\gG o=true:=by
 unfold RM;rw[mb,jy];constructor
 .rintro⟨Z,g⟩;rw[a1 Z]at g;exact⟨_,a1 Z,g⟩
 .rintro⟨o,Z,g⟩;exact⟨(cG.1 Z).1,by rw[Z];exact g⟩
theorem fY{ops:Array Oper}{Y:Array Bool}{i:Nat}:i∈Region.ready .any ops Y↔∃o,ops.toList[i]?=some o/\Y.getD i true=false/\∀p∈preds o,Y.getD p false=true:=by
 unfold Region.ready preds;rw[mb,jy,pe];constructor
 .rintro⟨Z,g⟩;rw[jz Z]at g;simp only[dn,fI,fW,bh,tZ,lc]at g;refine⟨_,jz Z,g.1,fun p hp=>?_⟩;simp only[jA,mb]at hp;obtain⟨e,⟨m,V⟩,rfl⟩:=hp;rcases g.2 e (by simpa using m)with h|h
  .rw[V]at h;simp at h
  .exact h
 .rintro⟨o,Z,g,U⟩;have O:i<ops.size:=by
   rcases pj i ops.size with h|h
   .exact h
   .rw[t0 h]at Z;simp at Z
  refine⟨O,?_⟩;rw[Z];simp only[dn,fI,fW,bh,tZ,lc];refine⟨g,fun e F=>?_⟩;cases z:Region.binds .any e with
  |false=>exact .inl rfl
  |true=>exact .inr (U e.on (by simp only[jA,mb];exact⟨e,⟨l5,z⟩,rfl⟩))
theorem t9{l:List Oper}:∀(k s:Nat),s+k=l.length->∃m,s<=m/\m<=l.length/\(m=l.length\/m∈RM l)/\∀j,s<=j->j<m->j∉RM l
 |0,s,hs=>⟨s,aC _,aa,.inl aa,fun j i g=>aa⟩
 |k+1,s,hs=>by
  by_cases h:s∈RM l
  .exact⟨s,aC _,aa,.inr h,fun j i g=>aa⟩
  .obtain⟨m,i,g,o,U⟩:=t9 (l:=l) k (s+1) aa;refine⟨m,aa,g,o,fun j O Z=>?_⟩;by_cases e:j=s
   .subst e;exact h
   .exact U j aa Z
section
variable {P:Program} {B:Bs} {cfg:Cfg}
structure Ctx (P:Program) (cfg:Cfg) (ih:Task->Res) (f N:Nat) (l:List Oper) (E0:ai) (Qv:Hp) (E':ai) (H':Hp) (rs:List Rec):Prop where
 calm:CalmD l
 len:rs.length=l.length
 at':∀(i:Nat) (r:Rec),rs[i]?=some r->∃o,l[i]?=some o/\AtD P cfg ih f N l o r (Rm rs E' i) (Rm rs E' (i+1)) (Ql rs H' i) (Ql rs H' (i+1))
 zeroE:Rm rs E' 0=E0
 zeroH:Ql rs H' 0=Qv
 next:∀i,i<l.length->(Ql rs H' i).next<=(Ql rs H' (i+1)).next
 look:∀(i:Nat) (r:Rec),rs[i]?=some r->r.did=true->∀m,(m∈RM l\/m=l.length)->(∀e∈RM l,e∈(dX l []).getD i []->e<m)->(∀e∈RM l,i∈(dX l []).getD e []->m<=e) ->
  zbz P cfg r (Ql rs H' m)=true
theorem C8{ih:Task->Res}{f N:Nat}{l:List Oper}{E0 E':ai}{Qv H':Hp}{rs:List Rec}(hc:kS l=true)(hr:eJ P cfg ih f N l l E0 Qv=.done E' H' rs)(I:lU P cfg (jr l) rs H'=true):
 Ctx P cfg ih f N l E0 Qv E' H' rs:=by
 have z:=pi hr;obtain⟨z1,z2⟩:=tU z;have Y:=tT z;unfold lU at I;simp only[dn,iB]at I;refine⟨C7 hc,Y,fun i r F=>l8 z F,z1,z2,fun i F=>?_,fun i r F hd m hm h1 h2=>?_⟩
 .have hi':i<rs.length:=by omega
  have V:=a1 hi';obtain⟨o,_,K⟩:=l8 z V;have h3:=pd (I.1 _ (jv V));rw[K.eH,K.eH']at h3;exact h3
 .obtain⟨o,ho,K⟩:=l8 z F;have A:qH (dX l []) (RM l) i m=true:=by
   unfold qH;simp only[fI,qM,List.any_eq_false,dn,not_and];refine⟨fun e M L J=>?_,fun e M L g=>?_⟩
   .have:=h1 e M (by simpa using L);have:=pd J;omega
   .have:=h2 e M (by simpa using L);have:e<m:=by simpa [eZ]using g
    omega
  have U:∀k,Ro o.op=k->(k=.read\/k=.make)->(i,m)∈jr l:=fun k j hor=>by
   unfold jr;rw[tY];refine⟨i,jy.2 (cG.1 ho).1,?_⟩;rw[ho];have C:(i,m)∈((RM l++[l.length]).filter (qH (dX l []) (RM l) i)).map fun m=>(i,m):=
    jA.2 ⟨m,mb.2 ⟨by simpa using hm,A⟩,rfl⟩
   rcases hor with rfl|rfl<;>simp only[j]<;>exact C
  have Z:(i,m)∈jr l->zbz P cfg r (Ql rs H' m)=true:=fun h=>by
   have:=I.2 _ h;simp only[F,hd,gK,iF]at this;exact this
  have O:r.o=o:=K.eo;cases j:Ro o.op with
  |read=>exact Z (U _ j (.inl rfl))
  |make=>exact Z (U _ j (.inr rfl))
  |calm=>unfold zbz;rw[O,j]
  |act=>unfold zbz;rw[O,j]
section
variable {ih:Task -> Res} {f N:Nat} {ops:Array Oper} {E0 E':ai} {Qv H':Hp} {rs:List Rec} (cx:Ctx P cfg ih f N ops.toList E0 Qv E' H' rs)
include cx
theorem Ctx.record{i:Nat}{o:Oper}(U:ops.toList[i]?=some o):∃r,rs[i]?=some r/\AtD P cfg ih f N ops.toList o r (Rm rs E' i) (Rm rs E' (i+1)) (Ql rs H' i) (Ql rs H' (i+1)):=by
 have F:i<rs.length:=by rw[cx.len];exact(cG.1 U).1
 obtain⟨J,Z,g⟩:=cx.at' i _ (a1 F);rw[U]at Z;simp only[au]at Z;subst Z;exact⟨_,a1 F,g⟩
theorem Ctx.gap:∀(d s:Nat),s+d<=ops.toList.length->(∀j,s<=j->j<s+d->j∉RM ops.toList) ->
 (Ql rs H' s).next<=(Ql rs H' (s+d)).next/\∀r,r<(Ql rs H' s).next->(Ql rs H' (s+d)).get r=(Ql rs H' s).get r
 |0,s,_,_=>⟨aC _,fun _ _=>rfl⟩
 |d+1,s,hs,hn=>by
  obtain⟨i,g⟩:=Ctx.gap d s aa (fun j O Y=>hn j O aa);have M:s+d<ops.toList.length:=aa;obtain⟨r,hr,K⟩:=cx.record (a1 M);have Z:gG (ops.toList[s+d])=false:=by
   cases C:gG (ops.toList[s+d])with
   |false=>rfl
   |true=>exact(hn (s+d) aa aa (iG.2 ⟨_,a1 M,C⟩)).elim
  have U:Ql rs H' (s+d+1)=Ql rs H' (s+d)\/∃z,Ql rs H' (s+d+1)=(Ql rs H' (s+d)).alloc z:=by
   cases hd:r.did with
   |true=>exact C4 Z (K.yes hd)
   |false=>exact .inl (K.no hd).2
  rw[show s+(d+1)=s+d+1 by omega];rcases U with e|⟨z,e⟩
  .rw[e];exact⟨i,g⟩
  .rw[e];refine⟨cQ,fun k V=>?_⟩;rw[P8,af aa];exact g k V
theorem Ctx.nextMono:∀(d s:Nat),s+d<=ops.toList.length->(Ql rs H' s).next<=(Ql rs H' (s+d)).next
 |0,_,_=>aC _
 |d+1,s,hs=>ea (Ctx.nextMono d s aa) (by rw[show s+(d+1)=s+d+1 by omega];exact cx.next _ aa)
theorem Ctx.slotAt(t:Nat):∀s,s<=ops.toList.length ->
 (∃(i:Nat) (r:Rec) (o:Oper),i<s/\rs[i]?=some r/\ops.toList[i]?=some o/\o.dst=some t/\(∀(j:Nat) (J:Oper),j<s->ops.toList[j]?=some J->J.dst=some t->j<=i)/\(Rm rs E' s).at t=r.val) \/
 ((∀(j:Nat) (J:Oper),j<s->ops.toList[j]?=some J->J.dst≠some t)/\(Rm rs E' s).at t=E0.at t)
 |0,_=>.inr ⟨fun j J M=>aa,by rw[cx.zeroE]⟩
 |s+1,hs=>by
  have O:ops.toList[s]?=some (ops.toList[s]' aa):=a1 aa;obtain⟨r,hr,K⟩:=cx.record O;have I:=K.put;have V:=Ctx.slotAt t s aa;by_cases hd:(ops.toList[s]' aa).dst=some t
  .refine .inl ⟨s,r,_,aa,hr,O,hd,fun j J M _ _=>aa,?_⟩;rw[hd]at I;simp only[Q9]at I;split at I
   .simp only[au]at I;rw[<-I,nh,az rfl]
   .simp at I
  .have m:(Rm rs E' (s+1)).at t=(Rm rs E' s).at t:=by
    cases Y:(ops.toList[s]' aa).dst with
    |none=>
     rw[Y]at I;simp only[Q9,au]at I;rw[<-I]
    |some d=>
     rw[Y]at I hd;simp only[Q9]at I;split at I
     .simp only[au]at I;rw[<-I,nh,af (fun e=>hd i6)]
     .simp at I
   rw[m];rcases V with⟨i,C,J,L,g,A,z,h5,h6⟩|⟨L,g⟩
   .refine .inl ⟨i,C,J,aa,g,A,z,fun j F M Z U=>?_,h6⟩;by_cases e:j=s
    .subst e;rw[O]at Z;simp only[au]at Z;subst Z;exact(hd U).elim
    .exact h5 j F aa Z U
   .refine .inr ⟨fun j J M Z=>?_,g⟩;by_cases e:j=s
    .subst e;rw[O]at Z;simp only[au]at Z;subst Z;exact hd
    .exact L j J aa Z
end
def dv(Y:Array Bool)(j:Nat):Prop:=Y.getD j false=true
def nu(rs:List Rec)(l:List Oper)(O:ai)(D:Nat->Prop)(G:Gh)(a:Act):Prop:=∀t,
 (∃(i:Nat) (r:Rec) (o:Oper),D i/\rs[i]?=some r/\l[i]?=some o/\o.dst=some t/\(∀(j:Nat) (J:Oper),D j->l[j]?=some J->J.dst=some t->j<=i)/\VR G r.val (a.tmps.getD t undef)) \/
 ((∀(j:Nat) (J:Oper),D j->l[j]?=some J->J.dst≠some t)/\VR G (O.at t) (a.tmps.getD t undef))
theorem nu.agree{ih:Task->Res}{f N:Nat}{ops:Array Oper}{A z:ai}{Qv H':Hp}{rs:List Rec}(cx:Ctx P cfg ih f N ops.toList A Qv z H' rs){D:Nat->Prop}{G:Gh}{a:Act}(m:nu rs ops.toList A D G a){t s:Nat}
 (O:s<=ops.toList.length) (K:∀(j:Nat) (o:Oper),ops.toList[j]?=some o->o.dst=some t->(D j↔j<s)):VR G ((Rm rs z s).at t) (a.tmps.getD t undef):=by
 rcases cx.slotAt t s O with⟨i,r,o,M,g,I,C,h5,h6⟩|⟨M,g⟩
 .rw[h6];have L:=(K i o I C).2 M;rcases m t with⟨F,r',J,Y,Z,V,U,g5,g6⟩|⟨Y,_⟩
  .have e1:=h5 F J ((K F J V U).1 Y) V U;have e2:=g5 i o L I C;have:F=i:=aa;subst this;rw[g]at Z;simp only[au]at Z;subst Z;exact g6
  .exact(Y i o L I C).elim
 .rw[g];rcases m t with⟨F,r',J,Y,Z,V,U,g5,g6⟩|⟨_,Z⟩
  .exact(M F J ((K F J V U).1 Y) V U).elim
  .exact Z
structure InvD (rs:List Rec) (l:List Oper) (N:Nat) (B:Bs) (nx0:Nat) (E0:ai) (H':Hp) (G0:Gh) (w0:World) (listed:Array Bool) (a:Act) (w:World) (m:Nat) (G:Gh):Prop where
 size:listed.size=l.length
 closed:∀j,dv listed j->∀o,l[j]?=some o->∀p∈preds o,dv listed p
 le:m<=l.length
 act:m=l.length\/m∈RM l
 notyet:¬dv listed m
 acts:∀e∈RM l,e<m->dv listed e
 step:Step B nx0 G0 w0 (Ql rs H' m) w G
 low:∀r p,G.β r=some p->r<nx0\/∃j,dv listed j/\j<l.length/\(Ql rs H' j).next<=r/\r<(Ql rs H' (j+1)).next
 slots:nu rs l E0 (dv listed) G a
 frame:a.tmps.size=N
 defers:a.defers=[]
theorem dv.set{Y:Array Bool}{i:Nat}(F:i<Y.size)(j:Nat):dv (Y.setIfInBounds i true) j↔j=i\/dv Y j:=by
 unfold dv;rw[eM,eM,l1];by_cases e:i=j
 .subst e;simp[F]
 .rw[af e];constructor
  .exact fun h=>.inr h
  .rintro(h|h)
   .exact(e h.symm).elim
   .exact h
def gk:=@dv.set
theorem nu.put{rs:List Rec}{l:List Oper}{g:ai}{Y:Array Bool}{G L:Gh}{a:Act}(hs:nu rs l g (dv Y) G a)(he:Ext G L){i:Nat}(F:i<Y.size){o:Oper}(K:l[i]?=some o){r:Rec}(hr:rs[i]?=some r)
 {v:Value} (hv:VR L r.val v) (hd:∀d,o.dst=some d->d<a.tmps.size/\∀(j:Nat) (J:Oper),dv Y j->l[j]?=some J->J.dst=some d->j<=i):nu rs l g (dv (Y.setIfInBounds i true)) L (a.put o.dst v):=by
 intro t;by_cases V:o.dst=some t
 .obtain⟨h1,h2⟩:=hd t V;refine .inl ⟨i,r,o,(gk F i).2 (.inl rfl),hr,K,V,fun j J O Z m=>?_,?_⟩
  .rcases(gk F j).1 O with e|O
   .omega
   .exact h2 j J O Z m
  .rw[V];simp only[Act.put];simpa [Array.getD,h1]using hv
 .have U:(a.put o.dst v).tmps.getD t undef=a.tmps.getD t undef:=by
   cases M:o.dst with
   |none=>rfl
   |some d=>
    rw[M]at V;have z:d≠t:=fun e=>V i6;simp only[Act.put,eM,l1];rw[af z]
  rw[U];rcases hs t with⟨i',r',J,C,A,g3,g4,g5,g6⟩|⟨C,A⟩
  .refine .inl ⟨i',r',J,(gk F i').2 (.inr C),A,g3,g4,fun j I O Z m=>?_,g6.mono he⟩;rcases(gk F j).1 O with e|O
   .subst e;rw[K]at Z;simp only[au]at Z;subst Z;exact(V m).elim
   .exact g5 j I O Z m
  .refine .inr ⟨fun j J O Z m=>?_,A.mono he⟩;rcases(gk F j).1 O with e|O
   .subst e;rw[K]at Z;simp only[au]at Z;subst Z;exact(V m).elim
   .exact C j J O Z m
theorem ua{U:List Oper}{o:Oper}{t:Nat}:t∈kQ U o↔o.dst=some t\/(Operand.tmp t)∈o.op.operands.toList\/∃g b J,o.guard=some (g,b)/\U[g]?=some J/\J.dst=some t:=by
 unfold kQ wm;simp only[lb,Option.mem_toList,List.mem_filterMap];constructor
 .rintro((h|⟨x,C,h⟩)|h)
  .exact .inl h
  .cases x<;>simp at h;subst h;exact .inr (.inl C)
  .cases A:o.guard with
   |none=>rw[A]at h;simp at h
   |some p=>
    obtain⟨g,b⟩:=p;rw[A]at h;simp only[Option.mem_toList,iY]at h;obtain⟨J,i,Z⟩:=h;exact .inr (.inr ⟨g,b,J,rfl,i,Z⟩)
 .rintro(h|h|⟨g,b,J,i,Z,Y⟩)
  .exact .inl (.inl h)
  .exact .inl (.inr ⟨_,h,rfl⟩)
  .refine .inr ?_;rw[i];simp[Z,Y]
theorem w9{U:List Oper}{p q:Oper}{d:Nat}(h:(p.dst=some d/\d∈kQ U q)\/(q.dst=some d/\d∈kQ U p)):Ab.clash U p q=true:=by
 unfold Ab.clash;rcases h with⟨i,g⟩|⟨i,g⟩
 .rw[i];simp[g]
 .rw[i];simp[g]
theorem Step.trans'{U:Nat}{H' Y:Hp}{G Z K:Gh}{w w' L:World}(h:Step B U G w H' w' Z)(k:Step B U Z w' Y L K):Step B U G w Y L K:=
 ⟨k.r,h.ext.trans k.ext,h.fr.trans k.fr h.new,h.new.trans k.new h.fr.size,fun r p hr=>by
  rcases k.low r p hr with i|i
  .exact h.low r p i
  .exact .inr i,k.mono,fun b o v J=>by
  rcases k.icy b o v J with i|i
  .exact h.icy b o v i
  .exact .inr i⟩
theorem Step.weaken{U M:Nat}{H':Hp}{G L:Gh}{w w':World}(h:Step B U G w H' w' L)(m:M<=U):Step B M G w H' w' L:=
 ⟨h.r,h.ext,h.fr,h.new,fun r p hr=>(h.low r p hr).imp id (fun e=>ea m e),ea m h.mono,h.icy⟩
theorem Snd.fail(P:Program)(B:Bs):Snd P B 0 (fun _=>.fail):=
 ⟨fun _ _ _ _ _ h=>ko,fun _ _ _ _ _ _ _ _ h=>ko,fun _ _ _ _ _ _ _ _ h=>ko⟩
theorem C9(fit:Fit P){n:Nat}{ih:Task->Res}(hih:Snd P B n ih){f N nx0:Nat}{ops:Array Oper}{E0 E':ai}{Qv H':Hp}{rs:List Rec}(cx:Ctx P B.cfg ih f N ops.toList E0 Qv E' H' rs)(hnx:Qv.next=nx0){G0 G:Gh}{w0 w:World}
 {Y:Array Bool}{a:Act}{m:Nat} (Z:InvD rs ops.toList N B nx0 E0 H' G0 w0 Y a w m G) {i:Nat} (hi:i∈Region.ready .any ops Y) {K:Act->World->Prop}{Q:Exit->Act->World->Prop}
 (hK:∀a' w' m' G',InvD rs ops.toList N B nx0 E0 H' G0 w0 (Y.setIfInBounds i true) a' w' m' G'->K a' w'):wpOp P ops Q i K a w:=by
 obtain⟨o,ho,hun,hpr⟩:=fY.1 hi;obtain⟨r,hr,ha⟩:=cx.record ho;have hil:i<ops.toList.length:=(cG.1 ho).1;have A:i<Y.size:=by rw[Z.size];exact hil
 have hnot:¬dv Y i:=fun hd=>by
  unfold dv at hd;rw[eM,jz A]at hd;rw[eM,jz A]at hun;simp only[bh]at hd hun;rw[hd]at hun;simp at hun
 -- what comes before i is done;what comes behind it is not
 have O:∀j∈(dX ops.toList []).getD i [],dv Y j:=t8 cx.calm Z.closed i o ho hpr;have C:∀j,dv Y j->∀oj,ops.toList[j]?=some oj->i∉(dX ops.toList []).getD j []:=fun j hj oj J hm=>
  hnot (t8 cx.calm Z.closed j oj J (Z.closed j hj oj J) i hm)
 -- the writers of the slots that i names
 have hagree:∀t∈kQ ops.toList o,∀(j:Nat) (oj:Oper),ops.toList[j]?=some oj->oj.dst=some t->(dv Y j↔j<i):=fun t ht j oj J hjd=>by
  constructor
  .intro hj;rcases rh j i with h|h|h
   .exact h
   .subst h;exact(hnot hj).elim
   .exact(C j hj oj J (cx.calm.clash i j o oj h ho J (w9 (.inr ⟨hjd,ht⟩)))).elim
  .intro hj;exact O j (cx.calm.clash j i oj o hj J ho (w9 (.inl ⟨hjd,ht⟩)))
 have hslot:∀t∈kQ ops.toList o,VR G ((Rm rs E' i).at t) (a.tmps.getD t undef):=fun t ht=>Z.slots.agree cx (Nat.le_of_lt hil) (hagree t ht);have L:l7 G (Rm rs E' i) a o.op.operands:=fun x hx c hc=>by
  cases x with
  |tmp t=>simp only[PS,au]at hc;subst hc;exact hslot t (ua.2 (.inr (.inl (by simpa using hx))))
  |const v=>exact ni hc
  |global g=>simp[PS]at hc
  |func f=>simp only[PS,au]at hc;subst hc;exact .clo (vs:=[]) rfl aA
 have hwant:=wX (G:=G) (E:=Rm rs E' i) (a:=a) (ops:=ops) (o:=o) (fun g b d hg hd=>by
  simp only[iY]at hd;obtain⟨o',h1,h2⟩:=hd;exact hslot d (ua.2 (.inr (.inr ⟨g,b,o',hg,by rw[pe];exact h1,h2⟩))))
 have hdst:∀d,o.dst=some d->d<a.tmps.size/\∀(j:Nat) (o':Oper),dv Y j->ops.toList[j]?=some o'->o'.dst=some d->j<=i:=fun d hd=>by
  refine⟨?_,fun j o' hj hjo hjd=>Nat.le_of_lt ((hagree d (ua.2 (.inl hd)) j o' hjo hjd).1 hj)⟩;have hp:=ha.put;rw[hd]at hp;simp only[Q9]at hp;split at hp
  .rename_i hb;rw[Z.frame];simpa [eZ]using hb
  .simp at hp
 have hclosed':∀j,dv (Y.setIfInBounds i true) j->∀oj,ops.toList[j]?=some oj->∀p∈preds oj,dv (Y.setIfInBounds i true) p:=fun j hj oj J p hp=>by
  rcases(gk A j).1 hj with rfl|hj
  .rw[ho]at J;simp only[au]at J;subst J;exact(gk A p).2 (.inr (hpr p hp))
  .exact(gk A p).2 (.inr (Z.closed j hj oj J p hp))
 -- an act comes up in its turn
 have hturn:gG o=true->i=m:=fun hact=>by
  have U:i∈RM ops.toList:=iG.2 ⟨o,ho,hact⟩;rcases rh i m with h|h|h
  .exact(hnot (Z.acts i U h)).elim
  .exact h
  .rcases Z.act with e|e
   .omega
   .obtain⟨om,M,V⟩:=iG.1 e;exact(Z.notyet (O m (cx.calm.clash m i om o h M ho (by unfold Ab.clash;simp[hact,V])))).elim
 -- how the invariant goes on
 have hfin:∀(v:Value) (w':World) (G':Gh) (X:Hp),VR G' r.val v->Step B nx0 G w X w' G' ->
  (∀k p,G'.β k=some p->G.β k=some p\/((Ql rs H' i).next<=k/\k<(Ql rs H' (i+1)).next)) ->
  ((i≠m/\X=Ql rs H' m)\/(i=m/\X=Ql rs H' (i+1)))->K (a.put o.dst v) w':=fun v w' G' X hv I hlow hX=>by
  have hslots':=Z.slots.put I.ext A ho hr hv hdst;have hlow':∀k p,G'.β k=some p->k<nx0\/∃j,dv (Y.setIfInBounds i true) j/\j<ops.toList.length/\(Ql rs H' j).next<=k/\k<(Ql rs H' (j+1)).next:=fun k p hk=>by
   rcases hlow k p hk with h|h
   .rcases Z.low k p h with h|⟨j,h1,h2⟩
    .exact .inl h
    .exact .inr ⟨j,(gk A j).2 (.inr h1),h2⟩
   .exact .inr ⟨i,(gk A i).2 (.inl rfl),hil,h⟩
  have hframe':(a.put o.dst v).tmps.size=N:=by rw[<-Z.frame];cases o.dst<;>simp[Act.put]
  have hdef':(a.put o.dst v).defers=[]:=by have:=Z.defers;cases o.dst<;>exact this
  rcases hX with⟨hne,rfl⟩|⟨rfl,rfl⟩
  .refine hK _ _ m G' ⟨by simpa using Z.size,hclosed',Z.le,Z.act,fun hd=>?_,fun e he hlt=>(gk A e).2 (.inr (Z.acts e he hlt)),Z.step.trans' I,hlow',hslots',hframe',hdef'⟩;rcases(gk A m).1 hd with h|h
   .exact hne h.symm
   .exact Z.notyet h
  ·-- the next act
   obtain⟨m',q1,q2,q3,q4⟩:=t9 (l:=ops.toList) (ops.toList.length-(i+1)) (i+1) aa;obtain⟨g1,g2⟩:=cx.gap (m'-(i+1)) (i+1) aa (fun j h1 h2=>q4 j h1 aa);rw[show i+1+(m'-(i+1))=m' by omega]at g1 g2;have hst2:Step B nx0 G0 w0 (Ql rs H' m') w' G':=by
    have:=Z.step.trans' I;exact⟨this.r.more g1 g2,this.ext,this.fr,this.new,this.low,ea this.mono g1,this.icy⟩
   have hact:∀e∈RM ops.toList,e<m'->dv (Y.setIfInBounds i true) e:=fun e he hlt=>by
    by_cases h:e<i
    .exact(gk A e).2 (.inr (Z.acts e he h))
    .by_cases h2:e=i
     .exact(gk A e).2 (.inl h2)
     .exact(q4 e aa hlt he).elim
   refine hK _ _ m' G' ⟨by simpa using Z.size,hclosed',q2,q3,fun hd=>?_,hact,hst2,hlow',hslots',hframe',hdef'⟩;rcases(gk A m').1 hd with h|h
   .omega
   ·-- m' is done though i,an act before it,was not
    have hm'l:m'<ops.toList.length:=by
     rcases pj m' ops.toList.length with h3|h3
     .exact h3
     .unfold dv at h;rw[eM,t0 (by rw[Z.size];exact h3)]at h;simp at h
    rcases q3 with e|e
    .omega
    .obtain⟨om,M,V⟩:=iG.1 e;rcases Z.act with e2|e2
     .omega
     .obtain⟨oi,hoi,hacti⟩:=iG.1 e2;rw[ho]at hoi;simp only[au]at hoi;subst hoi;exact C m' h om M (cx.calm.clash i m' o om aa ho M (by unfold Ab.clash;simp[hacti,V]))
 -- the range of m for the looks
 have hlo:∀e∈RM ops.toList,e∈(dX ops.toList []).getD i []->e<m:=fun e he hA=>by
  have hd:=O e hA;rcases pj e m with h|h
  .exact h
  .exfalso;rcases Z.act with e2|e2
   .have:=(iG.1 he);obtain⟨oe,hoe,_⟩:=this;have:=(cG.1 hoe).1;omega
   .by_cases e3:e=m
    .subst e3;exact Z.notyet hd
    .obtain⟨om,M,V⟩:=iG.1 e2;obtain⟨oe,hoe,hacte⟩:=iG.1 he;exact Z.notyet (t8 cx.calm Z.closed e oe hoe (Z.closed e hd oe hoe) m (cx.calm.clash m e om oe aa M hoe (by unfold Ab.clash;simp[V,hacte])))
 have hhi:∀e∈RM ops.toList,i∈(dX ops.toList []).getD e []->m<=e:=fun e he hA=>by
  rcases pj e m with h|h
  .obtain⟨oe,hoe,_⟩:=iG.1 he;exact(C e (Z.acts e he h) oe hoe hA).elim
  .exact h
 unfold wpOp;rw[show ops[i]?=some o by rw[<-pe];exact ho];simp only[];have hnxm:nx0<=(Ql rs H' m).next:=Z.step.mono
 have hsame:Step B nx0 G w (Ql rs H' m) w G:=(fU Z.step.r).weaken hnxm;have hstill:∀(v:Value) (w':World) (G':Gh),i≠m->VR G' r.val v->Step B (Ql rs H' m).next G w (Ql rs H' m) w' G'->K (a.put o.dst v) w':=fun v w' G' U hv I=>
  hfin v w' G' _ hv (I.weaken hnxm) (fun k p hk=>by
   rcases I.low k p hk with h|h
   .exact .inl h
   .have:=I.r.dom k p hk;omega) (.inl ⟨U,rfl⟩)
 have hnotact:gG o=false->i≠m:=fun hna e=>by
  rcases Z.act with e2|e2
  .omega
  .obtain⟨om,M,V⟩:=iG.1 e2;rw[<-e,ho]at M;simp only[au]at M;subst M;rw[hna]at V;simp at V
 cases hd:r.did with
 |false=>
  have hw:Region.wanted o (yielded ops a.tmps)=false:=by rw[<-hwant,ha.want];exact hd
  rw[hw];simp only[b9,cC];obtain⟨hval,hheap⟩:=ha.no hd;by_cases U:i=m
  .subst U;exact hfin undef w G (Ql rs H' (i+1)) (by rw[hval];exact oY G) (by rw[hheap];exact hsame) (fun k p hk=>.inl hk) (.inr ⟨rfl,rfl⟩)
  .exact hfin undef w G _ (by rw[hval];exact oY G) hsame (fun k p hk=>.inl hk) (.inl ⟨U,rfl⟩)
 |true=>
  have hw:Region.wanted o (yielded ops a.tmps)=true:=by rw[<-hwant,ha.want];exact hd
  rw[hw];simp only[cr];have hop:=ha.yes hd;refine .inl ?_;cases z:Ro o.op with
  |act=>
   have U:=hturn (by simp[gG,z]);subst U;refine rg fit hih Z.step.r L hop fun v w' G' hv I=>?_;refine hfin v w' G' _ hv (I.weaken hnxm) (fun k p hk=>?_) (.inr ⟨rfl,rfl⟩);rcases I.low k p hk with h|h
   .exact .inl h
   .exact .inr ⟨h,I.r.dom k p hk⟩
  |calm=>
   have hnc:∀c,o.op≠.call c:=fun c e=>by
    rw[e]at z;simp only[Ro]at z;split at z<;>simp at z
   have U:=hnotact (by simp[gG,z]);have hX:=(tV (P:=P) (by simp[kj,z]) ((l9 hnc).1 hop)).2 (Ql rs H' m);have hop':QU P B.cfg ih f (Rm rs E' i) (Ql rs H' m) o.op=.val r.val (Ql rs H' m):=(l9 hnc).2 hX;exact rg fit hih Z.step.r L hop' fun v w' G' hv I=>hstill v w' G' U hv I
  |read=>
   have U:=hnotact (by simp[gG,z]);have F:=cx.look i r hr hd m Z.act.symm hlo hhi;unfold zbz at F;rw[ha.eo,z,ha.eE]at F;simp only[]at F;split at F
   .rename_i v1 H1 hop';have hv1:=AV.beq_eq F;subst hv1;have hH1:=tW (by simp[jx,z]) hop';subst hH1;exact rg fit (Snd.fail P B) Z.step.r L hop' fun v w' G' hv I=>hstill v w' G' U hv I
   .simp at F
  |make=>
   have U:=hnotact (by simp[gG,z]);have hnc:∀c,o.op≠.call c:=fun c e=>by
    rw[e]at z;simp only[Ro]at z;split at z<;>simp at z
   have hopA:=(l9 hnc).1 hop;obtain⟨blk,obj,ext,v,hH1,hrun,hmade,hv⟩:=CX (P:=P) (w:=w) (by simp[kR,z]) L hopA;have F:=cx.look i r hr hd m Z.act.symm hlo hhi;unfold zbz at F;rw[ha.eo,z,ha.eH,ha.eH']at F;simp only[]at F;have hnext1:(Ql rs H' (i+1)).next=(Ql rs H' i).next+1:=by rw[hH1];rfl
   have hgetm:(Ql rs H' m).get (Ql rs H' i).next=some blk:=by
    split at F
    .rename_i b b' h1 h2;rw[HB.beq_eq F]at h1;rw[hH1,P8,az rfl]at h2;simp only[au]at h2;subst h2;exact h1
    .simp at F
   have hlt:i<m:=by
    rcases rh i m with h|h|h
    .exact h
    .exact(U h).elim
    .exfalso;rcases Z.act with e2|e2
     .omega
     .obtain⟨om,M,V⟩:=iG.1 e2;exact Z.notyet (O m (cx.calm.clash m i om o h M ho (by unfold Ab.clash;simp[V,kR,z])))
   have hr0:(Ql rs H' i).next<(Ql rs H' m).next:=by
    have:=cx.nextMono (m-(i+1)) (i+1) (by have:=Z.le;omega);rw[show i+1+(m-(i+1))=m by omega]at this;omega
   have hnx0:nx0<=(Ql rs H' i).next:=by
    have:=cx.nextMono i 0 aa;rw[bZ,cx.zeroH,hnx]at this;exact this
   have hno:∀q,G.β (Ql rs H' i).next=some q->False:=fun q hq=>by
    rcases Z.low _ q hq with h|⟨j,h1,h2,h3,h4⟩
    .omega
    .rcases rh j i with h|h|h
     .have:=cx.nextMono (i-(j+1)) (j+1) aa;rw[show j+1+(i-(j+1))=i by omega]at this;omega
     .subst h;exact hnot h1
     .have:=cx.nextMono (j-(i+1)) (i+1) aa;rw[show i+1+(j-(i+1))=j by omega]at this;omega
   have I:=wt Z.step.r hno hr0 hgetm hnx0 hmade;unfold Oper.wp;rw[hrun];refine hfin v _ _ _ (hv _ (SU _ _ _)) I (fun k p hk=>?_) (.inl ⟨U,rfl⟩);simp only[Gh.add]at hk;split at hk
   .rename_i e;exact .inr ⟨aa,aa⟩
   .exact .inl hk
theorem countP_set{Y:Array Bool}{i:Nat}(F:i<Y.size)(g:Y[i]=false):(Y.setIfInBounds i true).toList.countP (·=false)+1=Y.toList.countP (·=false):=by
 rw[wH,List.countP_set l5];have Z:Y.toList[i]' l5=false:=by simpa using g
 have I:0<Y.toList.countP (·=false):=List.countP_pos_iff.2 ⟨false,by rw[<-Z];exact e9 _,aA⟩;rw[Z];simp only[iW,cr,kW,fE,b9,cC];omega
theorem Da(fit:Fit P){n:Nat}{ih:Task->Res}(g:Snd P B n ih){f N O:Nat}{ops:Array Oper}{E0 C:ai}{Qv H':Hp}{rs:List Rec}(cx:Ctx P B.cfg ih f N ops.toList E0 Qv C H' rs)(hnx:Qv.next=O){G0:Gh}{w0:World}
 (hE':Rm rs C ops.toList.length=C) (hH':Ql rs H' ops.toList.length=H') {Q:Exit->Act->World->Prop} (hQ:∀e a w,fH B N O G0 w0 .normal C H' e a w->Q e a w) :
 ∀(Z:Nat) (Y:Array Bool) (a:Act) (w:World) (m:Nat) (G:Gh),InvD rs ops.toList N B O E0 H' G0 w0 Y a w m G->Y.toList.countP (·=false)<=Z->wpAny P .any ops Q Z Y a w:=by
 -- at the end all is done
 have M:∀(Y:Array Bool) (a:Act) (w:World) (m:Nat) (G:Gh),InvD rs ops.toList N B O E0 H' G0 w0 Y a w m G->Region.ready .any ops Y=[]->Q .normal a w:=fun Y a w m G V I=>by
  have L:∀j,j<ops.toList.length->dv Y j:=fun j=>by
   induction j using Nat.strongRecOn with
   |_ j ihj=>
    intro hj;have K:=a1 hj;have J:j<Y.size:=by rw[V.size];exact hj
    cases hl:Y[j]with
    |true=>
     unfold dv;rw[eM,jz J,hl];rfl
    |false=>
     exfalso;have:j∈Region.ready .any ops Y:=fY.2 ⟨_,K,by rw[eM,jz J,hl];rfl,fun p hp=>by
      have hlt:=cx.calm.lt j _ K p hp;exact ihj p hlt aa⟩
     rw[I]at this;simp at this
  have hm:m=ops.toList.length:=by
   rcases V.act with e|e
   .exact e
   .obtain⟨om,hom,_⟩:=iG.1 e;exact(V.notyet (L m (cG.1 hom).1)).elim
  subst hm;have F:=V.step;rw[hH']at F;refine hQ _ _ _ ⟨rfl,G,⟨V.frame,fun t=>?_⟩,F,V.defers⟩;have:=V.slots.agree cx (t:=t) (aC _) (fun j oj hoj _=>⟨fun _=>(cG.1 hoj).1,fun h=>L j h⟩);rw[hE']at this;exact this
 intro Z;induction Z with
 |zero=>
  intro Y a w m G V hc;have I:Region.ready .any ops Y=[]:=by
   apply pm.2;intro i z;obtain⟨o,K,A,_⟩:=fY.1 z;have U:i<Y.size:=w1;rw[eM,jz U]at A;have:=countP_set U kY;omega
  exact⟨I,M Y a w m G V I⟩
 |succ Z ihf=>
  intro Y a w m G V hc;refine⟨fun I=>M Y a w m G V I,fun i z=>?_⟩;obtain⟨o,K,A,_⟩:=fY.1 z;have U:i<Y.size:=w1;rw[eM,jz U]at A;have hcs:=countP_set U kY;exact C9 fit g cx hnx V z (fun a' w' m' G' hI'=>ihf _ a' w' m' G' hI' aa)
theorem xa(fit:Fit P){n:Nat}{ih:Task->Res}(z:Snd P B n ih){f N:Nat}{ops:Array Oper}{E I:ai}{H H':Hp}{G:Gh}{w:World}{x:AX}{a:Act}(hr:Sn P B.cfg ih f N ops.toList E H=.done x I H')
 (h:R B H w G) (o:TR N G E a) (hd:a.defers=[]) {Q:Exit->Act->World->Prop} (hQ:∀e C A,fH B N H.next G w x I H' e C A->Q e C A):wpAny P .any ops Q ops.size (Array.replicate ops.size false) a {w with drawn:=w.drawn+1}:=by
 unfold Sn at hr;split at hr
 .rename_i i;split at hr
  .rename_i E1 H1 rs Z;split at hr
   .rename_i F;simp only[Res.done.injEq]at hr;obtain⟨rfl,rfl,rfl⟩:=hr;have cx:=C8 i Z F;have hlen:=cx.len;have L:Rm rs E1 ops.toList.length=E1:=by unfold Rm;rw[lf aa]
    have K:Ql rs H1 ops.toList.length=H1:=by unfold Ql;rw[lf aa]
    obtain⟨m,q1,q2,q3,g⟩:=t9 (l:=ops.toList) ops.toList.length 0 aa;obtain⟨V,g2⟩:=cx.gap m 0 aa (fun j _ O=>g j aa aa);rw[bZ,cx.zeroH]at V g2;have J:R B H {w with drawn:=w.drawn+1} G:=h.heap rfl;have Y:Step B H.next G w (Ql rs H1 m) {w with drawn:=w.drawn+1} G:=
     ⟨J.more V g2,ng _,⟨rfl,rfl,rfl,aC _,fun _ _ _=>rfl⟩,l2 _ _,fun _ _ h=>.inl h,V,fun _ _ _ h=>.inl h⟩
    have U:∀j,¬dv (Array.replicate ops.size false) j:=fun j O=>by
     unfold dv at O;rw[eM,w7]at O;split at O<;>simp at O
    refine Da fit z cx rfl L K hQ ops.size _ a _ m G
     ⟨aA,fun j O=>(U j O).elim,q2,q3,U m,fun e he M=>(g e (ca _) M he).elim,Y,fun r p hr=>.inl (h.dom r p hr),fun t=>.inr ⟨fun j o' O=>(U j O).elim,o.slots t⟩,o.size,hd⟩ ?_
    exact ea List.countP_le_length aA
   .simp at hr
  .simp at hr
 .simp at hr
end
def Sf(ops:Array Oper):List Nat->Array Bool->Prop
 |[],listed=>Region.ready .any ops listed=[]
 |i::L,listed=>i∈Region.ready .any ops listed/\Sf ops L (listed.setIfInBounds i true)
theorem xb{ops:Array Oper}:∀(m t:Nat) (Y:Array Bool),Y.size=ops.size->Y.toList.countP (·=false)<=m->Sf ops (Region.linearise.go .any ops m t Y []) Y
 |0,t,Y,hs,hc=>by
  show Region.ready .any ops Y=[];apply pm.2;intro i F;obtain⟨o,U,A,_⟩:=fY.1 F;have Z:i<Y.size:=w6;rw[eM,jz Z]at A;have:=countP_set Z kY;omega
 |m+1,t,Y,hs,hc=>by
  simp only[Region.linearise.go];change Sf ops (match (Region.ready .any ops Y)[t%(Region.ready .any ops Y).length]? with
   |some i=>Region.linearise.go .any ops m (t/(Region.ready .any ops Y).length) (Y.setIfInBounds i true) [i]
   |none=>[].reverse) Y
  cases F:(Region.ready .any ops Y)[t%(Region.ready .any ops Y).length]? with
  |none=>
   show Region.ready .any ops Y=[];cases hr:Region.ready .any ops Y with
   |nil=>rfl
   |cons x K=>
    rw[hr]at F;have M:t%(x::K).length<(x::K).length:=Nat.mod_lt _ aA;simp at F;simp at M;omega
  |some i=>
   simp only[];rw[linearise_go_acc,List.reverse_singleton,List.singleton_append];have V:=jv F;refine⟨V,xb m _ _ (by simpa using hs) ?_⟩;obtain⟨o,U,A,_⟩:=fY.1 V;have Z:i<Y.size:=w6;rw[eM,jz Z]at A;have:=countP_set Z kY;omega
section
variable {P:Program} {Q:Exit -> Act -> World -> Prop}
theorem ub{ops:Array Oper}:∀(L:List Nat) (m:Nat) (Y:Array Bool) (a:Act) (w:World),wpAny P .any ops Q m Y a w->Sf ops L Y->wpOps P ops Q L a w
 |[],0,Y,a,w,h,_=>h.2
 |[],m+1,Y,a,w,h,hv=>h.1 hv
 |i::L,0,Y,a,w,h,hv=>by
  have Z:=hv.1;rw[h.1]at Z;simp at Z
 |i::L,m+1,Y,a,w,h,hv=>by
  rw[wpOps_cons];exact wpOp_mono (fun a w K=>ub L m _ a w K hv.2) (h.2 i hv.1)
theorem Db{ops:Array Oper}{id:Nat}{a:Act}{w:World}(V:P.follows .mixedOrders=true)
 (h:∀L,Sf ops L (Array.replicate ops.size false)->wpOps P ops Q L a {w with drawn:=w.drawn+1}):(Code.region id ops true).wp P Q a w:=
 wp_region_draw fun t=>by
  simp only[Region.schedule,V,kp,cr];exact h _ (xb ops.size t _ aA (ea List.countP_le_length aA))
theorem uc{ops ops':Array Oper}{φ:Nat->Nat}:∀(L:List Nat) (a:Act) (w:World),
 (∀i∈L,∃o J,ops[i]?=some o/\ops'[φ i]?=some J/\(∃m V,J={o with after:=m,guard:=V})/\∀a:Act,Region.wanted J (yielded ops' a.tmps)=Region.wanted o (yielded ops a.tmps)) ->
 wpOps P ops' Q (L.map φ) a w->wpOps P ops Q L a w
 |[],_,_,_,h=>h
 |i::L,a,w,hr,h=>by
  rw[dS,wpOps_cons]at h;rw[wpOps_cons];obtain⟨o,J,Z,g,⟨m,V,U⟩,M⟩:=hr i et;have Y:∀a w,wpOps P ops' Q (L.map φ) a w->wpOps P ops Q L a w:=fun a w=>uc L a w (fun j O=>hr j (ft _ O));have A:=wpOp_mono Y h;unfold wpOp at A⊢;rw[g]at A;rw[Z];simp only[]at A⊢;rw[M a]at A;subst U;exact A
end
theorem rj(q p:Nat)(l:List Oper):(eL q p l).length=l.length:=by
 unfold eL;split<;>simp
theorem po{q p:Nat}{l:List Oper}{i:Nat}{o:Oper}(h:l[i]?=some o):
 ∃J,(eL q p l)[i]?=some J/\(∃Z,J={o with after:=Z})/\(i≠q->J=o)/\∀j,j∈preds J↔j∈preds o\/(i=q/\j=p):=by
 unfold eL;have F:=(cG.1 h).1;by_cases e:i=q
 .subst e;rw[h];refine⟨_,List.getElem?_set_self F,⟨_,rfl⟩,fun m=>(m rfl).elim,fun j=>?_⟩;unfold preds;have:(o.after.push {on:=p,ground:=.data}).toList=o.after.toList++[{on:=p,ground:=.data}]:=aA;rw[this,List.filter_append,pn,lb];have g:(List.filter (Region.binds .any) [({on:=p,ground:=.data}:Edge)])=[{on:=p,ground:=.data}]:=rfl;rw[g];simp
 .have C:∀U,(l.set q U)[i]?=some o:=fun U=>by rw[List.getElem?_set_ne (fun h=>e h.symm)];exact h
  split
  .exact⟨o,C _,⟨o.after,rfl⟩,fun _=>rfl,fun j=>⟨.inl,fun h=>h.elim id (fun h=>(e h.1).elim)⟩⟩
  .exact⟨o,h,⟨o.after,rfl⟩,fun _=>rfl,fun j=>⟨.inl,fun h=>h.elim id (fun h=>(e h.1).elim)⟩⟩
theorem xc{q p:Nat}{l:List Oper}{i:Nat}{J:Oper}(h:(eL q p l)[i]?=some J):∃o,l[i]?=some o:=by
 have:=(cG.1 h).1;rw[rj]at this;exact⟨_,a1 this⟩
theorem Dc{q p:Nat}{l:List Oper}(j:Nat):((eL q p l)[j]?).bind (·.dst)=(l[j]?).bind (·.dst):=by
 cases h:l[j]? with
 |none=>
  rw[lf (by rw[rj];exact List.getElem?_eq_none_iff.1 h)]
 |some o=>
  obtain⟨J,i,⟨m,rfl⟩,_⟩:=po (q:=q) (p:=p) h;rw[i];rfl
theorem xd{q p:Nat}{l:List Oper}{Y:Array Bool}{i:Nat}(h:i∈Region.ready .any (eL q p l).toArray Y):i∈Region.ready .any l.toArray Y:=by
 obtain⟨J,Z,g,M⟩:=fY.1 h;simp only[]at Z;obtain⟨o,U⟩:=xc Z;obtain⟨K,V,_,_,L⟩:=po (q:=q) (p:=p) U;rw[Z]at V;simp only[au]at V;subst V;exact fY.2 ⟨o,U,g,fun j O=>M j ((L j).2 (.inl O))⟩
theorem pp{q p:Nat}{l:List Oper}{Y:Array Bool}{i:Nat}(h:i∈Region.ready .any l.toArray Y)(m:i=q->Y.getD p false=true):i∈Region.ready .any (eL q p l).toArray Y:=by
 obtain⟨o,Z,g,V⟩:=fY.1 h;simp only[]at Z;obtain⟨U,M,_,_,L⟩:=po (q:=q) (p:=p) Z;refine fY.2 ⟨U,M,g,fun j O=>?_⟩;rcases(L j).1 O with h|⟨K,rfl⟩
 .exact V j h
 .exact m K
theorem Dd{Y:Array Bool}{i p:Nat}(h:Y.getD p false=true):(Y.setIfInBounds i true).getD p false=true:=by
 simp only[eM,l1]at *;split
 .split
  .rfl
  .rename_i Z g;subst Z;rw[t0 aa]at h;simp at h
 .exact h
theorem ud{q p:Nat}{l:List Oper}:∀{L:List Nat}{Y:Array Bool},Y.getD p false=true->Sf l.toArray L Y->Sf (eL q p l).toArray L Y
 |[],Y,_,hv=>by
  show Region.ready .any (eL q p l).toArray Y=[];apply pm.2;intro i F;have:=xd F;rw[show Region.ready .any l.toArray Y=[]from hv]at this;simp at this
 |i::L,Y,hd,hv=>⟨pp hv.1 (fun _=>hd),ud (Dd hd) hv.2⟩
theorem xe{p q:Nat}(j:p≠q){l:List Oper}:∀{L:List Nat}{Y:Array Bool},Y.size=l.length->Sf l.toArray L Y->Sf (eL q p l).toArray L Y\/Sf (eL p q l).toArray L Y
 |[],Y,_,hv=>.inl <|by
  show Region.ready .any (eL q p l).toArray Y=[];apply pm.2;intro i F;have:=xd F;rw[show Region.ready .any l.toArray Y=[]from hv]at this;simp at this
 |i::L,Y,hs,hv=>by
  have A:i<Y.size:=by
   obtain⟨o,U,_⟩:=fY.1 hv.1;rw[hs];exact(cG.1 U).1
  have m:(Y.setIfInBounds i true).getD i false=true:=by
   simp[eM,l1,A]
  by_cases Z:i=q
  .subst Z;exact .inr ⟨pp hv.1 (fun e=>(j e.symm).elim),ud m hv.2⟩
  .by_cases z:i=p
   .subst z;exact .inl ⟨pp hv.1 (fun e=>(Z e).elim),ud m hv.2⟩
   .rcases xe j (by simpa using hs) hv.2 with h|h
    .exact .inl ⟨pp hv.1 (fun e=>(Z e).elim),h⟩
    .exact .inr ⟨pp hv.1 (fun e=>(z e).elim),h⟩
theorem ue{ops:Array Oper}:∀{L:List Nat}{Y:Array Bool},Sf ops L Y->∀i∈L,∃o,ops.toList[i]?=some o
 |[],_,_,i,F=>by simp at F
 |j::L,Y,hv,i,F=>by
  rcases gJ.1 F with rfl|F
  .obtain⟨o,U,_⟩:=fY.1 hv.1;exact⟨o,U⟩
  .exact ue hv.2 i F
theorem xf{P:Program}{Q:Exit->Act->World->Prop}{q p:Nat}{l:List Oper}{L:List Nat}{Y:Array Bool}{a:Act}{w:World}(J:Sf l.toArray L Y)
 (h:wpOps P (eL q p l).toArray Q L a w):wpOps P l.toArray Q L a w:=by
 refine uc (ops':=(eL q p l).toArray) (φ:=id) L a w (fun i F=>?_) iE;obtain⟨o,U⟩:=ue J i F;simp only[]at U;obtain⟨V,Z,⟨m,rfl⟩,_⟩:=po (q:=q) (p:=p) U;refine⟨o,_,by simpa using U,by simpa using Z,⟨m,o.guard,rfl⟩,fun a=>?_⟩;have A:yielded (eL q p l).toArray a.tmps=yielded l.toArray a.tmps:=funext fun j=>by
  unfold yielded;have:=Dc (q:=q) (p:=p) (l:=l) j;simp only[List.getElem?_toArray,this]
 rw[A];rfl
structure PermD (ord:List Nat) (l:List Oper):Prop where
 len:ord.length=l.length
 bk:∀k:Nat,k<l.length->∃i,ord[k]?=some i/\i<l.length/\RF ord i=k
 lt:∀i:Nat,i<l.length->RF ord i<l.length/\ord[RF ord i]?=some i
 pre:∀(i:Nat) o,l[i]?=some o->(∀p∈preds o,p<l.length)/\∀j b,o.guard=some (j,b)->j<l.length
theorem De{M:List Nat}{l:List Oper}(h:ti M l=true):PermD M l:=by
 unfold ti at h;simp only[dn,iB,jy]at h;obtain⟨⟨O,g⟩,L⟩:=h;refine⟨eY O,fun k Z=>?_,fun i F=>?_,fun i o U=>?_⟩
 .have:=(g k Z).1.1;split at this
  .rename_i i F;simp only[dn]at this;exact⟨i,F,by simpa [eZ]using this.1,eY this.2⟩
  .simp at this
 .have K:=(g i F).1.2;have A:=(g i F).2;refine⟨by simpa [eZ]using K,?_⟩;split at A
  .rename_i k Z;rw[Z,eY A]
  .simp at A
 .have:=L o (jv U);refine⟨fun p hp=>by simpa [eZ]using this.1 p hp,fun j b V=>?_⟩;have Y:=this.2;rw[V]at Y;simpa [eZ]using Y
theorem xg{O β:Type}{f:O->Option β}:∀{K:List O},(∀x∈K,(f x).isSome=true)->∀k:Nat,(K.filterMap f)[k]?=(K[k]?).bind f
 |[],_,k=>by simp
 |x::K,h,k=>by
  obtain⟨y,A⟩:=Option.isSome_iff_exists.1 (h x et);rw[List.filterMap_cons_some A];cases k with
  |zero=>simp[A]
  |succ k=>simp[xg (fun x C=>h x (ft _ C)) k]
section
variable {ord:List Nat} {l:List Oper} (hp:PermD ord l)
include hp
theorem PermD.at'{i:Nat}{o:Oper}(h:l[i]?=some o):(gj ord l)[RF ord i]?=some (lV ord o):=by
 have F:=(cG.1 h).1;unfold gj;rw[xg (fun x C=>?_)]
 .rw[(hp.lt i F).2];simp[h]
 .obtain⟨k,j⟩:=t3.1 C;have L:k<l.length:=by rw[<-hp.len];exact(cG.1 j).1
  obtain⟨Y,Z,g,_⟩:=hp.bk k L;rw[j]at Z;simp only[au]at Z;subst Z;rw[a1 g];rfl
theorem PermD.length:(gj ord l).length=l.length:=by
 have:∀k,k<l.length->((gj ord l)[k]?).isSome=true:=fun k j=>by
  obtain⟨i,Z,g,o⟩:=hp.bk k j;have:=hp.at' (a1 g);rw[o]at this;rw[this];rfl
 refine Nat.le_antisymm (ea (List.length_filterMap_le _ _) (by rw[hp.len];exact aC _)) ?_;rcases pj (gj ord l).length l.length with h|h
 .have:=this _ h;rw[lf (aC _)]at this;simp at this
 .exact h
theorem PermD.of{k:Nat}{J:Oper}(h:(gj ord l)[k]?=some J):∃i o,l[i]?=some o/\RF ord i=k/\J=lV ord o:=by
 have j:k<l.length:=by rw[<-hp.length];exact(cG.1 h).1
 obtain⟨i,Y,g,Z⟩:=hp.bk k j;have:=hp.at' (a1 g);rw[Z,h]at this;simp only[au]at this;exact⟨i,_,a1 g,Z,this⟩
theorem PermD.inj{i j:Nat}(F:i<l.length)(O:j<l.length)(h:RF ord i=RF ord j):i=j:=by
 have Z:=(hp.lt i F).2;rw[h,(hp.lt j O).2]at Z;simpa using Z.symm
theorem PermD.preds{o:Oper}:Ab.preds (lV ord o)=(Ab.preds o).map (RF ord):=by
 unfold Ab.preds lV;simp only[nt];rw[List.filter_map];have:(Region.binds .any ∘ fun e:Edge=>{e with on:=RF ord e.on})=Region.binds .any:=rfl;rw[this,List.filter_filter];simp only[t4,nt];rfl
def pq(M:List Nat)(l:List Oper)(x y:Array Bool):Prop:=x.size=l.length/\y.size=l.length/\∀i,i<l.length->y[RF M i]?=x[i]?
theorem pq.set{x y:Array Bool}(h:pq ord l x y){i:Nat}(F:i<l.length):pq ord l (x.setIfInBounds i true) (y.setIfInBounds (RF ord i) true):=by
 refine⟨by simpa using h.1,by simpa using h.2.1,fun j O=>?_⟩;simp only[l1];by_cases e:i=j
 .subst e;rw[az rfl,az rfl,az (by rw[h.2.1];exact(hp.lt i F).1),az (by rw[h.1];exact F)]
 .rw[af e,af (fun Z=>e (hp.inj F O Z))];exact h.2.2 j O
theorem xh{x y:Array Bool}(h:pq ord l x y){i:Nat}(F:i<l.length):RF ord i∈Region.ready .any (gj ord l).toArray y↔i∈Region.ready .any l.toArray x:=by
 have U:=a1 F;have o:=hp.at' U;rw[fY,fY];simp only[];have hd:∀(j:Nat) (b:Bool),j<l.length->y.getD (RF ord j) b=x.getD j b:=fun j b L=>by
  simp only[eM,h.2.2 j L]
 constructor
 .rintro⟨J,Y,V,O⟩;rw[o]at Y;simp only[au]at Y;subst Y;refine⟨_,U,by rw[<-hd i true F];exact V,fun p Z=>?_⟩;rw[<-hd p false ((hp.pre i _ U).1 p Z)];exact O _ (by rw[hp.preds];exact List.mem_map_of_mem Z)
 .rintro⟨J,Y,V,O⟩;rw[U]at Y;simp only[au]at Y;subst Y;refine⟨_,o,by rw[hd i true F];exact V,fun p Z=>?_⟩;rw[hp.preds]at Z;obtain⟨M,g,rfl⟩:=jA.1 Z;rw[hd M false ((hp.pre i _ U).1 M g)];exact O M g
theorem xi:∀{L:List Nat}{x y:Array Bool},pq ord l x y->Sf l.toArray L x->Sf (gj ord l).toArray (L.map (RF ord)) y
 |[],x,y,hs,hv=>by
  show Region.ready .any (gj ord l).toArray y=[];apply pm.2;intro k j;obtain⟨J,Y,_⟩:=fY.1 j;simp only[]at Y;obtain⟨i,o,Z,g,_⟩:=hp.of Y;have F:=(cG.1 Z).1;rw[<-g]at j;have:=(xh hp hs F).1 j;rw[show Region.ready .any l.toArray x=[]from hv]at this;simp at this
 |i::L,x,y,hs,hv=>by
  obtain⟨o,U,_⟩:=fY.1 hv.1;have F:i<l.length:=(cG.1 U).1;exact⟨(xh hp hs F).2 hv.1,xi (hs.set hp F) hv.2⟩
theorem Df{P:Program}{Q:Exit->Act->World->Prop}{L:List Nat}{Y:Array Bool}{a:Act}{w:World}(J:Sf l.toArray L Y)
 (h:wpOps P (gj ord l).toArray Q (L.map (RF ord)) a w):wpOps P l.toArray Q L a w:=by
 refine uc (ops':=(gj ord l).toArray) (φ:=RF ord) L a w (fun i F=>?_) h;obtain⟨o,U⟩:=ue J i F;simp only[]at U;have Z:=hp.at' U;refine⟨o,lV ord o,by simpa using U,by simpa using Z,⟨_,_,rfl⟩,fun a=>?_⟩;unfold Region.wanted lV;cases A:o.guard with
 |none=>rfl
 |some z=>
  obtain⟨j,b⟩:=z;have O:=(hp.pre i o U).2 j b A;have g:=hp.at' (a1 O);simp only[];unfold yielded;simp only[List.getElem?_toArray,g,a1 O];rfl
end
theorem T.beq_eq{O:Type}{I:O->O->Bool}(F:∀a b,I a b=true->a=b):∀{x y:T O},T.beq I x y=true->x=y
 | .e,.e,_=>rfl
 | .e,.n _ _ _,h=>by simp[T.beq]at h
 | .n _ _ _,.e,h=>by simp[T.beq]at h
 | .n v l r,.n A g Z,h=>by
   simp only[T.beq,dn]at h;rw[T.beq_eq F h.1.2,T.beq_eq F h.2];have i:=h.1.1;cases v<;>cases A <;>simp only[b9]at i
   .rfl
   .rw[F _ _ i]
theorem Dg{ops:List Oper}{V M:ai}{J m:Hp}(h:tj ops V M J m=true):(∀o∈ops,∀d,o.dst=some d->V.at d=M.at d)/\J=m:=by
 unfold tj at h;simp only[dn,iB]at h;refine⟨fun o U d hd=>?_,?_⟩
 .have:=h.1.1 o U;rw[hd]at this;exact AV.beq_eq this
 .have i:=eY h.1.2;have g:=T.beq_eq (fun a b=>HB.beq_eq) h.2;cases J;cases m;simp only[]at i g;rw[i,g]
section
variable {P:Program} {B:Bs} {cfg:Cfg}
theorem Dh{N t:Nat}{E V:ai}{Z:Option Tmp}{v:AV}(h:Q9 N E Z v=some V)(o:Z≠some t):V.at t=E.at t:=by
 unfold Q9 at h;split at h
 .rename_i d;split at h
  .simp only[au]at h;rw[<-h,nh,af (fun e=>o i6)]
  .simp at h
 .simp only[au]at h;rw[<-h]
theorem xj{ih:Task->Res}{f N t:Nat}{U:List Oper}:∀{rs:List Rec}{l:List Oper}{E E':ai}{H H':Hp},hP P cfg ih f N U rs l E H E' H'->(∀o∈l,o.dst≠some t)->E'.at t=E.at t
 |[],[],_,_,_,_,h,_=>by rw[h.1]
 |[],_::_,_,_,_,_,h,_=>by simp[hP]at h
 |_::_,[],_,_,_,_,h,_=>by simp[hP]at h
 |r::rs,o::l,E,E',H,H',h,ht=>by
  obtain⟨_,_,_,_,_,_,E1,hp,Y⟩:=h;rw[xj Y (fun o Z=>ht o (ft _ Z)),Dh hp (ht o et)]
theorem xl{ih:Task->Res}{f N t:Nat}{ops:List Oper}{E Z:ai}{H H':Hp}{x:AX}(h:Sn P cfg ih f N ops E H=.done x Z H')(Y:∀o∈ops,o.dst≠some t):x=.normal/\Z.at t=E.at t:=by
 unfold Sn at h;split at h
 .split at h
  .rename_i E1 H1 rs O;split at h
   .simp only[Res.done.injEq]at h;obtain⟨rfl,rfl,rfl⟩:=h;exact⟨rfl,xj (pi O) Y⟩
   .simp at h
  .simp at h
 .simp at h
theorem Di{M:List Nat}{l:List Oper}{o:Oper}(h:o∈gj M l):∃J∈l,o.dst=J.dst:=by
 unfold gj at h;rw[List.mem_filterMap]at h;obtain⟨i,_,g⟩:=h;split at g
 .rename_i J U;simp only[au]at g;subst g;exact⟨J,jv U,rfl⟩
 .simp at g
theorem xm{q p:Nat}{l:List Oper}{o:Oper}(h:o∈eL q p l):∃J∈l,o.dst=J.dst:=by
 obtain⟨i,F⟩:=t3.1 h;obtain⟨V,Z⟩:=xc F;obtain⟨O,Y,⟨m,U⟩,_⟩:=po (q:=q) (p:=p) Z;rw[F]at Y;simp only[au]at Y;exact⟨V,jv Z,by rw[Y,U]⟩
theorem xn{ops:List Oper}{PV Qq:Res}{x:AX}{O:ai}{H':Hp}(h:lW ops PV Qq=.done x O H'):
 x=.normal/\PV=.done .normal O H'/\∃M,Qq=.done .normal M H'/\∀o∈ops,∀d,o.dst=some d->O.at d=M.at d:=by
 unfold lW at h;split at h
 .split at h
  .rename_i K;simp only[Res.done.injEq]at h;obtain⟨rfl,rfl,rfl⟩:=h;obtain⟨i,g⟩:=Dg K;subst g;exact⟨rfl,rfl,_,rfl,i⟩
  .simp at h
 .simp at h
theorem uf{ih:Task->Res}{f N t:Nat}{E O:ai}{H H':Hp}{x:AX}:∀{z:Plan}{ops:List Oper},RW P cfg ih f N E H z ops=.done x O H'->(∀o∈ops,o.dst≠some t)->O.at t=E.at t
 | .text,ops,h,ht=>(xl h ht).2
 | .perm ord,ops,h,ht=>by
   simp only[RW]at h;split at h
   .exact(xl h (fun o U=>by obtain⟨J,i,g⟩:=Di U;rw[g];exact ht J i)).2
   .simp at h
 | .split p q a b,ops,h,ht=>by
   simp only[RW]at h;split at h
   .simp at h
   .obtain⟨_,i,_⟩:=xn h;exact uf i (fun o U=>by obtain⟨J,i,g⟩:=xm U;rw[g];exact ht J i)
theorem fH.same{N U:Nat}{G:Gh}{w:World}{x:AX}{V M:ai}{H':Hp}(o:∀t,V.at t=M.at t){e:Exit}{a:Act}{w':World}(h:fH B N U G w x M H' e a w'):fH B N U G w x V H' e a w':=by
 obtain⟨i,L,g,Z,Y⟩:=h;exact⟨i,L,⟨g.size,fun t=>by rw[o];exact g.slots t⟩,Z,Y⟩
theorem ug(fit:Fit P){n:Nat}{ih:Task->Res}(z:Snd P B n ih){f N:Nat}{E:ai}{H:Hp}{G:Gh}{w:World}{a:Act}(h:R B H w G)(Y:TR N G E a)(hd:a.defers=[]){Q:Exit->Act->World->Prop}:
 ∀(A:Plan) (l:List Oper) {E':ai}{H':Hp}{x:AX},RW P B.cfg ih f N E H A l=.done x E' H'->(∀e m V,fH B N H.next G w x E' H' e m V->Q e m V)->∀L,Sf l.toArray L (Array.replicate l.length false) ->
  wpOps P l.toArray Q L a {w with drawn:=w.drawn+1}
 | .text,l,E',H',x,hr,hQ,L,hv=>ub L _ _ a _ (by
  have:=xa (ops:=l.toArray) fit z hr h Y hd hQ;simpa using this) hv
 | .perm ord,l,E',H',x,hr,hQ,L,hv=>by
   simp only[RW]at hr;split at hr
   .rename_i hp;have hp:=De hp;refine Df hp hv (ub _ _ _ a _ (xa (ops:=(gj ord l).toArray) fit z hr h Y hd hQ) ?_);refine xi hp ⟨aA,by simp[hp.length],fun i F=>?_⟩ hv;have:=(hp.lt i F).1;simp[hp.length,F,this]
   .simp at hr
 | .split p q pa pb,l,E',H',x,hr,hQ,L,hv=>by
   simp only[RW]at hr;split at hr
   .simp at hr
   .rename_i j;have J:p≠q:=tp j;obtain⟨rfl,C,E2,g,h3⟩:=xn hr;rcases xe J aA hv with K|I
    .exact xf hv (ug fit z h Y hd pa _ C hQ L (by rw[rj];exact K))
    .have O:∀t,E'.at t=E2.at t:=fun t=>by
      by_cases Y:∃o∈l,o.dst=some t
      .obtain⟨o,U,hd⟩:=Y;exact h3 o U t hd
      .have M:∀o∈l,o.dst≠some t:=fun o U hd=>Y ⟨o,U,hd⟩;have Z:∀q p,∀o∈eL q p l,o.dst≠some t:=fun q p o U=>by obtain⟨o',g1,g2⟩:=xm U;rw[g2];exact M o' g1
       rw[uf C (Z _ _),uf g (Z _ _)]
     exact xf hv (ug fit z h Y hd pb _ g (fun e m V hp=>hQ _ _ _ (fH.same O hp)) L (by rw[rj];exact I))
theorem Dj(fit:Fit P){n:Nat}{ih:Task->Res}(z:Snd P B n ih){f N id:Nat}{ops:Array Oper}{E O:ai}{H H':Hp}{G:Gh}{w:World}{x:AX}{a:Act}{Z:Plan}(hr:RW P B.cfg ih f N E H Z ops.toList=.done x O H')
 (h:R B H w G) (o:TR N G E a) (hd:a.defers=[]):Code.wp P (.region id ops true) (fH B N H.next G w x O H') a w:=by
 refine Db fit.mixed fun L C=>?_;have:=ug fit z h o hd Z ops.toList hr (fun _ _ _ hp=>hp) L oV;simpa using this
end
structure Grow (w:World) (F:Nat->Nat->Option Value) (w':World) (F':Nat->Nat->Option Value):Prop where
 below:Below w.heap.size w w'
 more:∀b o v,F b o=some v->F' b o=some v
 icy:∀b o v,F' b o=some v->F b o=some v\/w.heap.size<=b
 frz:∀b o v,F' b o=some v->w'.cell? ⟨b,o,none⟩=some v
def aX(P:Program)(ρ:Nat->Int)(f:FuncId)(Y:List AV)(r:AV):Prop:=
 (∃L,P.funcs[f]?=some L/\L.body.isSome=true)/\∀(G:Gh) (w:World) (vs:List Value),G.ρ=ρ->(∀b o v,G.F b o=some v->w.cell? ⟨b,o,none⟩=some v)->bl G Y vs ->
   Calls P f vs.toArray w (fun e V=>∃v Z,e=.returned v/\VR {G with F:=Z} r v/\Grow w G.F V Z)
def Dk(P:Program)(B:Bs):Prop:=∀f Y r,B.cfg.call f Y=some r->aX P B.ρ f Y r
theorem uh{w w':World}(h:Below w.heap.size w w'){b o:Nat}(z:b<w.heap.size):w'.cell? ⟨b,o,none⟩=w.cell? ⟨b,o,none⟩/\w'.frozen? ⟨b,o,none⟩=w.frozen? ⟨b,o,none⟩:=
 ⟨by simp only[World.cell?,h.block b z],h.frozen (p:=⟨b,o,none⟩) z⟩
theorem R.grow{B:Bs}{H:Hp}{w w':World}{G:Gh}{V:Nat->Nat->Option Value}(h:R B H w G)(g:Grow w G.F w' V):Step B H.next G w H w' {G with F:=V}:=by
 have U:Ext G {G with F:=V}:=⟨fun _ _ h=>h,g.more,rfl⟩;have K:∀{b o:Nat}{v:Value},w.cell? ⟨b,o,none⟩=some v->w'.cell? ⟨b,o,none⟩=some v:=fun hc=>by rw[(uh g.below (jQ hc)).1];exact hc
 refine⟨?_,U,⟨g.below.os,g.below.tape,g.below.output,g.below.size,fun k A _=>g.below.block k A⟩,fun r b o x hr=>.inl hr,fun _ _ h=>.inl h,aC _,fun b o v J=>(g.icy b o v J).imp id fun z=>ea h.base z⟩;exact{
  base:=ea h.base g.below.size
  dom:=h.dom
  lt:=fun r b o x hr=>⟨(h.lt r b o x hr).1,oW (h.lt r b o x hr).2 g.below.size⟩
  cells:=fun r b o x M imm Z hr hc j c O=>by
   obtain⟨v,i,L⟩:=h.cells r b o x M imm Z hr hc j c O;exact⟨v,K i,L.mono U⟩
  imm:=fun r b o x M imm Z hr hc j O C=>let ⟨v,J⟩:=h.imm r b o x M imm Z hr hc j O C;⟨v,g.more _ _ _ J⟩
  ext:=h.ext
  fits:=h.fits
  room:=fun r b o x M imm Z hr hc j O C=>by
   obtain⟨⟨v,i⟩,L,h3⟩:=h.room r b o x M imm Z hr hc j O C;have z:=(h.lt r b o x hr).2;refine⟨⟨v,K i⟩,by rw[(uh g.below z).2];exact L,?_⟩;show V b (o+j)=none;cases hF:V b (o+j)with
   |none=>rfl
   |some u=>rcases g.icy _ _ _ hF with I|I
            ·rw[h3]at I;simp at I
            .omega
  apart:=h.apart
  map:=fun r b o x m hr hc=>by
   obtain⟨ms,Y,i,L⟩:=h.map r b o x m hr hc;exact⟨ms,Y,by rw[g.below.block b (h.lt r b o x hr).2];exact i,L.mono U⟩
  mapApart:=h.mapApart
  frz:=g.frz
  val:=h.val
  sym:=h.sym}
theorem ui(z:Nat):∀(n:Nat) (l:List AV),(Rv z n l).length=n
 |0,_=>rfl
 |n+1,l=>by simp[Rv,ui z n]
theorem pr(z:Nat):∀(n:Nat) (l:List AV) (i:Nat) (O:List AV),l.length=n*z->(Rv z n l)[i]?=some O->O.length=z/\∀(j:Nat) c,O[j]?=some c->l[i*z+j]?=some c
 |0,_,i,O,_,h=>by simp[Rv]at h
 |n+1,l,i,O,hl,h=>by
  rw[iD,ri]at hl;simp only[Rv]at h;cases i with
  |zero=>
   simp at h;subst h;refine⟨nl,fun j c Z=>?_⟩;rw[js]at Z;split at Z
   .rw[pc,bZ];exact Z
   .simp at Z
  |succ i=>
   obtain⟨Y,g⟩:=pr z n (l.drop z) i O tX iE;refine⟨Y,fun j c Z=>?_⟩;have:=g j c Z;rw[kV]at this;rw[iD,ri,show i*z+z+j=z+(i*z+j) by omega];exact this
theorem ro{B:Bs}{w:World}{g:AV->Hp->Option (AV×Hp)}
 (A:∀(v:AV) (H:Hp) (q:AV) (H':Hp) (G:Gh) (x:Value),R B H w G->VR G v x->g v H=some (q,H')->∃L,Step B H.next G w H' w L/\VR L q x) :
 ∀(M:List AV) (vs:List Value) (H:Hp) (j:List AV) (H':Hp) (G:Gh),R B H w G->bl G M vs->fR g M H=some (j,H')->∃L,Step B H.next G w H' w L/\bl L j vs
 |[],vs,H,j,H',G,h,hv,hi=>by
  simp only[fR,bI]at hi;obtain⟨rfl,rfl⟩:=hi;exact⟨G,fU h,hv⟩
 |c::M,[],H,j,H',G,h,hv,hi=>by have:=hv.1;simp at this
 |c::M,v::vs,H,j,H',G,h,hv,hi=>by
  simp only[fR]at hi;split at hi
  .rename_i d H1 i;split at hi
   .rename_i J m Z;simp only[bI]at hi;obtain⟨rfl,rfl⟩:=hi;obtain⟨Y,V⟩:=hv.of_cons;obtain⟨F,K,PV⟩:=A c H d H1 G v h Y i;obtain⟨O,z,Qq⟩:=ro A M vs H1 J m F K.r (V.mono K.ext) Z;exact⟨O,K.trans z,fq (PV.mono z.ext) Qq⟩
   .simp at hi
  .simp at hi
theorem rq{B:Bs}{w:World}:∀(n:Nat) (v:AV) (H:Hp) (q:AV) (H':Hp) (G:Gh) (x:Value),R B H w G->VR G v x->eg n v H=some (q,H')->∃G',Step B H.next G w H' w G'/\VR G' q x
 |0,_,_,_,_,_,_,_,_,h=>by simp[eg]at h
 |n+1,v,H,q,H',G,x,h,hv,F=>by
  unfold eg at F;split at F
  .rename_i r Z Y z;split at F
   .rename_i cs K tip O;split at F
    .rename_i I;simp only[dn]at I;have hle1:=pd I.1;have hle2:=pd I.2;split at F
     .rename_i l H1 J;simp only[bI]at F;obtain⟨rfl,rfl⟩:=F;cases hv with
      |sl hr hl hcx=>
       rename_i b o xx cap;have U:=h.cells r b o xx cs K tip hr O;have s1:=o0 h hr O (n:=max K (Z+Y*z)) aa aa tip id;obtain⟨V,g,ho2⟩:=U.list;have hlen:((cs.drop Z).take (Y*z)).length=Y*z:=by rw[kU,hI];omega
       obtain⟨G2,s2,Qq⟩:=ro (rq n) _ ((V.drop Z).take (Y*z)) _ l H1 _ s1.r (((g.drop Z).take (Y*z)).mono s1.ext) J;refine⟨G2,s1.trans s2,?_⟩;have hll:l.length=Y*z:=by
        have e1:=Qq.1;have e2:=((g.drop Z).take (Y*z)).1;rw[hlen]at e2;omega
       have hlc:=ui z Y l;have hovl:V.length=cs.length:=g.1.symm;have hat:∀m,m<Y*z->∃v,V[Z+m]?=some v/\G2.F b (o+Z+m)=some v/\∀c,l[m]?=some c->VR G2 c v:=fun m hm=>by
        have M:Z+m<V.length:=aa;refine⟨V[Z+m],a1 M,?_,fun c hc=>?_⟩
        .refine s2.ext.F _ _ _ ?_;have A:=ho2 (Z+m) V[Z+m] (a1 M);show(G.ice w b o (max K (Z+Y*z))).F b (o+Z+m)=some V[Z+m];simp only[Gh.ice];rw[<-fo]at A;split
         .rename_i v' hv';have:=h.frz _ _ _ hv';rw[A]at this;exact this.symm
         .rw[az ⟨by trivial,aa,aa⟩];exact A
        .refine Qq.2 m c _ hc ?_;rw[js,az hm,kV];exact a1 M
       have hin:∀i j,i<Y->j<z->i*z+j<Y*z:=fun i j F hj=>by
        calc i*z+j<i*z+z:=by omega
         _=(i+1)*z:=by rw[iD,ri]
         _<=Y*z:=nr _ F
       have key:VR G2 (.lst (Rv z Y l)) (.slice (some ⟨b,o+Z,none⟩) (Rv z Y l).length cap):=by
        refine .lst (fun i j=>(V[Z+(i*z+j)]?).getD undef) (z:=z) (fun i L C=>(pr z Y l i L hll C).1) (fun i j F hj=>?_) (fun i j L c C hcj=>?_) (by rw[hlc];exact hl)
        .rw[hlc]at F;obtain⟨v,e1,e2,_⟩:=hat _ (hin i j F hj);rw[e1,fo (o+Z)];exact e2
        .have hm:=(pr z Y l i L hll C).2 j c hcj;have M:=(cG.1 hm).1;obtain⟨v,e1,_,e3⟩:=hat (i*z+j) aa;rw[e1];exact e3 c hm
       rw[hlc]at key;exact key
     .simp at F
    .simp at F
   .simp at F
  .rename_i cs;split at F
   .rename_i ds H1 J;simp only[bI]at F;obtain⟨rfl,rfl⟩:=F;cases hv with
    |agg hl hvs=>
     obtain⟨G',s,r⟩:=ro (rq n) cs _ H ds H1 G h ⟨hl,hvs⟩ J;exact⟨G',s,.agg r.1 r.2⟩
   .simp at F
  .simp at F
  .simp at F
  .simp only[bI]at F;obtain⟨rfl,rfl⟩:=F;exact⟨G,fU h,hv⟩
section
variable {P:Program} {B:Bs} {G:Gh} {H H':Hp} {w:World}
theorem xo:∀(Y:List AV) (i:Nat) (E:ai) (t:Nat),(PZ i Y E).at t=if i<=t/\t<i+Y.length then Y.getD (t-i) QQ else E.at t
 |[],i,E,t=>by
  simp only[PZ,iX,np];rw[af aa]
 |v::vs,i,E,t=>by
  simp only[PZ,xo vs (i+1),em];by_cases Z:i+1<=t/\t<i+1+vs.length
  .rw[az Z,az aa,show t-i=(t-(i+1))+1 by omega];rfl
  .rw[af Z,nh];by_cases g:t=i
   .subst g;rw[az rfl,az aa];simp
   .rw[af g,af aa]
theorem uj:∀(d t:Nat),ai.at (oQ d) t=QQ
 |0,_=>rfl
 |d+1,t=>by
  unfold ai.at oQ;rw[l3];cases h:Nat.beq t 0 with
  |true=>rfl
  |false=>
   rw[So];cases g:Nat.beq (Nat.mod t 2) 1 with
   |true=>exact uj d _
   |false=>exact uj d _
theorem Dl(N t:Nat):ai.at (lX N) t=QQ:=uj _ _
theorem TR.start{Y:List AV}{vs:List Value}(h:bl G Y vs)(J:Nat):
 TR (max J Y.length) G (PZ 0 Y (lX (max J Y.length))) {tmps:=vs.toArray++Array.replicate (J-vs.toArray.size) undef,defers:=[] }:=by
 have I:=h.1;refine⟨cQ,fun t=>?_⟩;rw[xo];simp only[ca,fJ,bZ,qU];by_cases o:t<Y.length
 .rw[az o];have Z:Y.getD t QQ=Y[t]:=by simp[List.getD,o]
  rw[Z];have:(vs.toArray++Array.replicate (J-vs.toArray.size) undef).getD t undef=vs[t]' aa:=by
   rw[eM,Array.getElem?_append_left cQ];simp[show t<vs.length by omega]
  rw[this];exact h.2 t _ _ (a1 o) (a1 aa)
 .rw[af o,Dl];have:(vs.toArray++Array.replicate (J-vs.toArray.size) undef).getD t undef=undef:=by
   rw[eM,Array.getElem?_append_right cQ];simp only[w7];split<;>rfl
  rw[this];exact oY G
theorem Dm(h:R B H w G){N:Nat}{E:ai}{a:Act}(o:TR N G E a){r:ResultVar}{c:AV}(hr:m8 P E H r=some c):
 ∃v,(match r with
  | .tmp t=>pure (a.tmps.getD t undef)
  | .cell x t=>do loadVar t (<-asAddr (a.tmps.getD x undef)):Sem Value).run P w=.ok v w/\VR G c v:=by
 cases r with
 |tmp t=>
  simp only[m8,au]at hr;subst hr;exact⟨_,rfl,o.slots t⟩
 |cell x t=>
  simp only[m8]at hr;have C:=o.slots x;obtain⟨v,i,g⟩:=wC (P:=P) h C hr;refine⟨v,?_,g⟩;show(do loadVar t (<-asAddr (a.tmps.getD x undef)):Sem Value).run P w=.ok v w;generalize a.tmps.getD x undef=U at C i⊢;generalize E.at x=O at C hr;cases C<;>simp[Ru]at hr<;>simpa [Instr.loadAt,Instr.sureAddr,asAddr]using i
theorem xq(h:R B H w G){N:Nat}{E:ai}{a:Act}(o:TR N G E a):∀{rs:List ResultVar}{M:List AV},SP P E H rs=some M ->
 ∃vs,(rs.mapM (fun
  | .tmp t=>pure (a.tmps.getD t undef)
  | .cell x t=>do loadVar t (<-asAddr (a.tmps.getD x undef)):ResultVar->Sem Value)).run P w=.ok vs w/\bl G M vs
 |[],M,hr=>by
  simp only[SP,au]at hr;subst hr;exact⟨[],aA,iZ G⟩
 |r::rs,M,hr=>by
  simp only[SP]at hr;split at hr
  .rename_i c Z i g;simp only[au]at hr;subst hr;obtain⟨v,Y,V⟩:=Dm (P:=P) h o i;obtain⟨vs,k1,k2⟩:=xq h o g;refine⟨v::vs,?_,fq V k2⟩;rw[List.mapM_cons];simp only[cR,Y,cV,k1,fp]
  .simp at hr
theorem xr(h:R B H w G){N:Nat}{E:ai}{a:Act}(Z:TR N G E a){L:Func}{r:AV}(hr:m9 P L.results.toList E H=.val r H'):
 H'=H/\∃v,(results L a.tmps).run P w=.ok v w/\VR G r v:=by
 unfold m9 at hr;split at hr
 .rename_i M V;simp only[Res.val.injEq]at hr;obtain⟨rfl,rfl⟩:=hr;obtain⟨vs,i,g⟩:=xq (P:=P) h Z V;refine⟨rfl,?_⟩;have O:(results L a.tmps).run P w=.ok (if h:vs.toArray.size=1 then vs.toArray[0]else .tuple vs.toArray) w:=by
   unfold results;rw[Array.mapM_eq_mapM_toList];simp only[cR,Sem.run_map];exact ki (fun r:Result (List Value)=>(r.andThen fun a o=>Result.ok a.toArray o).andThen fun a o=>Sem.run P (pure (if h:a.size=1 then a[0]else Value.tuple a)) o) i
  refine⟨_,O,?_⟩
  match M,vs,g with
  |[],[],g=>exact .tup (vs:=[]) rfl aA
  |[c],[v],g=>exact g.of_cons.1
  |c::c'::M,v::v'::vs,g=>
   have:¬(v::v'::vs).toArray.size=1:=aA;rw[dif_neg this];exact .tup g.1 g.2
  |[],_::_,g=>have:=g.1;simp at this
  |[_],[],g=>have:=g.1;simp at this
  |[_],_::_::_,g=>have:=g.1;simp at this
  |_::_::_,[],g=>have:=g.1;simp at this
  |_::_::_,[_],g=>have:=g.1;simp at this
 .simp at hr
theorem uk(J:Fit P){n:Nat}{ih:Task->Res}(z:Snd P B n ih){f:FuncId}{Y:List AV}{r:AV}(Z:Sz P ih f Y H=.val r H'){vs:List Value}(h:R B H w G)(C:bl G Y vs):
 (∃U,P.funcs[f]?=some U/\U.body.isSome=true)/\Calls P f vs.toArray w (fun e M=>∃v L,e=.returned v/\VR L r v/\Step B H.next G w H' M L):=by
 unfold Sz at Z;split at Z
 .rename_i U O;split at Z
  .rename_i c hc;refine⟨⟨U,O,by rw[hc];rfl⟩,calls_of_wp O hc ?_⟩;have I:=TR.start C U.ntmps;split at Z
   .rename_i E1 H1 K;refine la (fun e m M F=>?_) (z.code _ _ _ _ _ _ _ _ K G w _ h I rfl);obtain⟨rfl,L,V,o,hd⟩:=F;obtain⟨rfl,v,i,g⟩:=xr (P:=P) o.r V Z;exact⟨hd,v,i,v,L,rfl,g,o⟩
   .rename_i E1 H1 K;refine la (fun e m M F=>?_) (z.code _ _ _ _ _ _ _ _ K G w _ h I rfl);obtain⟨rfl,L,V,o,hd⟩:=F;obtain⟨rfl,v,i,g⟩:=xr (P:=P) o.r V Z;exact⟨hd,v,i,v,L,rfl,g,o⟩
   .simp at Z
  .simp at Z
 .simp at Z
theorem ul{n:Nat}{ih:Task->Res}(L:Snd P B n ih){f N:Nat}{b:Code}{r:Res}{x:AX}{O:ai}(K:SA ih f N b r=.done x O H'):
 ∃o E1 H1,r=.done o E1 H1/\((o=.normal/\ih (.code f N b E1 H1)=.done x O H')\/(o≠.normal/\x=o/\O=E1/\H'=H1)):=by
 unfold SA at K;split at K
 .rename_i E1 H1;exact⟨.normal,E1,H1,rfl,.inl ⟨rfl,K⟩⟩
 .rename_i J;subst K;exact⟨x,O,H',rfl,.inr ⟨fun e=>by subst e;exact J _ _ rfl,rfl,rfl,rfl⟩⟩
theorem Dn(fit:Fit P){n:Nat}{ih:Task->Res}(z:Snd P B n ih){f N:Nat}{c:Code}{E:ai}{x:AX}{C:ai}(K:step P B.cfg ih (.code f N c E H)=.done x C H')
 {a:Act} (h:R B H w G) (Z:TR N G E a) (hd:a.defers=[]):Code.wp P c (fH B N H.next G w x C H') a w:=by
 cases c with
 |skip=>
  simp only[step,Res.done.injEq]at K;obtain⟨rfl,rfl,rfl⟩:=K;exact wp_skip ⟨rfl,G,Z,fU h,hd⟩
 |region id ops draw=>
  cases draw with
  |false=>
   exact wp_region_list (tS fit z ops.toList K h Z hd (fun _ _ _ hp=>hp))
  |true=>exact Dj fit z K h Z hd
 |seq p q=>
  obtain⟨O,E1,H1,i,g⟩:=ul z K;refine wp_seq (la (fun e m U F=>?_) (z.code _ _ _ _ _ _ _ _ i G w a h Z hd));obtain⟨rfl,L,V,o,M⟩:=F;rcases g with⟨rfl,g⟩|⟨J,rfl,rfl,rfl⟩
  .exact la (fun e a w F=>re o F) (z.code _ _ _ _ _ _ _ _ g L U m o.r V M)
  .cases x with
   |normal=>exact(J rfl).elim
   |exit id=>exact⟨rfl,L,V,o,M⟩
   |ret=>exact⟨rfl,L,V,o,M⟩
 |cond y p q=>
  simp only[step,lY]at K;split at K
  .rename_i A;have Y:=tR Z A;have:a.eval y=.bool true:=by generalize a.eval y=v at Y;cases Y;rfl
   exact wp_cond_true this (z.code _ _ _ _ _ _ _ _ K G w a h Z hd)
  .rename_i A;have Y:=tR Z A;have:a.eval y=.bool false:=by generalize a.eval y=v at Y;cases Y;rfl
   exact wp_cond_false this (z.code _ _ _ _ _ _ _ _ K G w a h Z hd)
  .simp at K
 |block id p=>
  simp only[step]at K;cases i:ih (.code f N p E H)with
  |done O E1 H1=>
   rw[i]at K;refine wp_block (la (fun e m U F=>?_) (z.code _ _ _ _ _ _ _ _ i G w a h Z hd));obtain⟨rfl,L,V,o,M⟩:=F;cases O with
   |normal=>
    simp only[Ss,Res.done.injEq]at K;obtain⟨rfl,rfl,rfl⟩:=K;exact⟨rfl,L,V,o,M⟩
   |ret=>
    simp only[Ss,Res.done.injEq]at K;obtain⟨rfl,rfl,rfl⟩:=K;exact⟨rfl,L,V,o,M⟩
   |exit I=>
    simp only[Ss]at K;cases Y:Nat.beq I id with
    |true=>
     rw[Y]at K;simp only[Res.done.injEq]at K;obtain⟨rfl,rfl,rfl⟩:=K;have:=eY Y;subst this;simp only[tP,Exit.inBlock,cr];exact⟨rfl,L,V,o,M⟩
    |false=>
     rw[Y]at K;simp only[Res.done.injEq]at K;obtain⟨rfl,rfl,rfl⟩:=K;have:=tp Y;simp only[tP,Exit.inBlock];rw[af this];exact⟨rfl,L,V,o,M⟩
  |val v H1=>rw[i]at K;simp[Ss]at K
  |fail=>rw[i]at K;simp[Ss]at K
 |loop p=>
  refine wp_loop_rounds (n+1) ?_;rw[rounds_succ];obtain⟨O,E1,H1,i,g⟩:=ul z K;refine la (fun e m U F=>?_) (z.code _ _ _ _ _ _ _ _ i G w a h Z hd);obtain⟨rfl,L,V,o,M⟩:=F;rcases g with⟨rfl,g⟩|⟨J,rfl,rfl,rfl⟩
  .exact tQ (fun e a w F=>re o F) (z.loop _ _ _ _ _ _ _ _ g L U m o.r V M)
  .cases x with
   |normal=>exact(J rfl).elim
   |exit id=>exact⟨rfl,L,V,o,M⟩
   |ret=>exact⟨rfl,L,V,o,M⟩
 |exit id=>
  simp only[step,Res.done.injEq]at K;obtain⟨rfl,rfl,rfl⟩:=K;exact wp_exit ⟨rfl,G,Z,fU h,hd⟩
 |ret=>
  simp only[step,Res.done.injEq]at K;obtain⟨rfl,rfl,rfl⟩:=K;exact wp_ret ⟨rfl,G,Z,fU h,hd⟩
 |rangeFunc _ _ _ _=>simp[step]at K
 |scope _=>simp[step]at K
 |label _=>simp[step]at K
 |goto _=>simp[step]at K
 |refuse _=>simp[step]at K
theorem Do(I:Fit P){n:Nat}{ih:Task->Res}(z:Snd P B n ih){f N:Nat}{c:Code}{E:ai}{x:AX}{O:ai}(K:step P B.cfg ih (.code f N (.loop c) E H)=.done x O H')
 {a:Act} (h:R B H w G) (Z:TR N G E a) (hd:a.defers=[]):Code.rounds P c (fH B N H.next G w x O H') (n+1) a w:=by
 rw[rounds_succ];obtain⟨U,E1,H1,i,g⟩:=ul z K;refine la (fun e m Y F=>?_) (z.code _ _ _ _ _ _ _ _ i G w a h Z hd);obtain⟨rfl,L,V,o,M⟩:=F;rcases g with⟨rfl,g⟩|⟨J,rfl,rfl,rfl⟩
 .exact tQ (fun e a w F=>re o F) (z.loop _ _ _ _ _ _ _ _ g L Y m o.r V M)
 .cases x with
  |normal=>exact(J rfl).elim
  |exit id=>exact⟨rfl,L,V,o,M⟩
  |ret=>exact⟨rfl,L,V,o,M⟩
theorem xt(fit:Fit P)(hc:Dk P B):∀n,Snd P B n (QJ P B.cfg n)
 |0=>⟨fun _ _ _ _ _ h=>by simp[QJ]at h,fun _ _ _ _ _ _ _ _ h=>by simp[QJ]at h,fun _ _ _ _ _ _ _ _ h=>by simp[QJ]at h⟩
 |n+1=>by
  have z:=xt fit hc n;have he:QJ P B.cfg (n+1)=step P B.cfg (QJ P B.cfg n):=rfl;rw[he];refine⟨fun f Y H r H' K G w vs h J=>?_,fun f N c E H x E' H' K G w a h I hd=>Dn fit z K h I hd,fun f N c E H x E' H' K G w a h I hd=>Do fit z K h I hd⟩;have M:∀{G:Gh}{Y:List AV}{vs:List Value}{H:Hp}{i:AV},B.cfg.call f Y=some i->R B H w G->bl G Y vs ->
   (∃V,P.funcs[f]?=some V/\V.body.isSome=true)/\Calls P f vs.toArray w (fun e Z=>∃v L,e=.returned v/\VR L i v/\Step B H.next G w H Z L):=fun{G Y vs H i} hr h J=>by
   obtain⟨A,j⟩:=hc f Y i hr;refine⟨A,(j G w vs h.val h.frz J).mono fun e Z g=>?_⟩;obtain⟨v,F',rfl,m,hg⟩:=g;exact⟨v,_,rfl,m,h.grow hg⟩
  have U:∀{G:Gh}{Y:List AV}{vs:List Value}{H H':Hp}{r:AV},SB P B.cfg (QJ P B.cfg n) f Y H=.val r H'->R B H w G->bl G Y vs ->
   (∃V,P.funcs[f]?=some V/\V.body.isSome=true)/\Calls P f vs.toArray w (fun e Z=>∃v L,e=.returned v/\VR L r v/\Step B H.next G w H' Z L):=fun{G Y vs H H' r} K h J=>by
   unfold SB at K;split at K
   .unfold oR at K;split at K
    .rename_i F H1 O;split at K
     .rename_i i hr;simp only[Res.val.injEq]at K;obtain⟨rfl,rfl⟩:=K;obtain⟨G1,s1,PV⟩:=ro (rq 100) Y vs H F H1 G h J O;obtain⟨A,j⟩:=M hr s1.r PV;refine⟨A,j.mono fun e Z g=>?_⟩;obtain⟨v,L,rfl,m,o⟩:=g;exact⟨v,L,rfl,m,s1.trans o⟩
     .exact uk fit z K h J
    .exact uk fit z K h J
   .exact uk fit z K h J
  simp only[step]at K;split at K
  .rename_i i hr;simp only[Res.val.injEq]at K;obtain⟨rfl,rfl⟩:=K;exact M hr h J
  .unfold na at K;split at K
   .rename_i v1 H1 hz C;obtain⟨g1,g2⟩:=U C h J;refine⟨g1,g2.mono fun e Z g=>?_⟩;obtain⟨v,L,rfl,m,o⟩:=g;cases hi:eg 100 v1 H1 with
    |none=>rw[hi]at K;simp[Rn]at K
    |some p=>
     obtain⟨q,H2⟩:=p;rw[hi]at K;simp only[Rn,Res.val.injEq]at K;obtain⟨rfl,rfl⟩:=K;obtain⟨G2,s2,Qq⟩:=rq 100 v1 H1 _ _ L v o.r m hi;exact⟨v,G2,rfl,Qq,o.trans s2⟩
   .exact U K h J
end
open Go Go.RowKit Go.WideShapes Go.ChangeShapes
theorem Dp(r:Nat):Qv.get r=none:=rfl
theorem R.start{w:World}{G:Gh}{cfg:Cfg}(g:∀b o v,G.F b o=some v->w.cell? ⟨b,o,none⟩=some v)(z:∀r,G.β r=none)(F:hM cfg.dec G.ρ):R ⟨w.heap.size,G.ρ,cfg⟩ Qv w G:=by
 refine⟨aC _,?_,?_,?_,?_,?_,?_,?_,?_,?_,g,rfl,F,?_⟩<;>intros<;>simp_all
theorem ny{g:AV->Option AV}:∀{M j:List AV},iceL g M=some j->j.length=M.length/\∀(i:Nat) d,j[i]?=some d->∃c,M[i]?=some c/\g c=some d
 |[],j,h=>by
  simp only[iceL,au]at h;subst h;exact⟨rfl,aA⟩
 |c::M,j,h=>by
  simp only[iceL]at h;split at h
  .rename_i d J Z Y;simp only[au]at h;subst h;obtain⟨o,U⟩:=ny Y;refine⟨by simp[o],fun i e F=>?_⟩;cases i with
   |zero=>simp at F;subst F;exact⟨c,rfl,Z⟩
   |succ i=>exact U i e l5
  .simp at h
theorem xu{g:AV->Option AV}:∀{M j:List (List AV)},kT g M=some j->j.length=M.length/\∀(i:Nat) d,j[i]?=some d->∃c,M[i]?=some c/\iceL g c=some d
 |[],j,h=>by
  simp only[kT,au]at h;subst h;exact⟨rfl,aA⟩
 |c::M,j,h=>by
  simp only[kT]at h;split at h
  .rename_i d J Z Y;simp only[au]at h;subst h;obtain⟨o,U⟩:=xu Y;refine⟨by simp[o],fun i e F=>?_⟩;cases i with
   |zero=>simp at F;subst F;exact⟨c,rfl,Z⟩
   |succ i=>exact U i e l5
  .simp at h
theorem pt{H:Hp}{G G2:Gh}{w:World}(M:G2.ρ=G.ρ)(hF:∀b o v,G.F b o=some v->G2.F b o=some v)
 (A:∀r b o x g imm tip,G.β r=some (b,o,x)->H.get r=some (.cells g imm tip)->en G w b o g/\∀j v,w.cell? ⟨b,o+j,none⟩=some v->G2.F b (o+j)=some v) :
 ∀(n:Nat) (v:AV) (x:Value) (q:AV),VR G v x->iceV H n v=some q->VR G2 q x
 |0,_,_,_,_,h=>by simp[iceV]at h
 |n+1,v,x,q,hv,h=>by
  have U:∀{g ds:List AV}{vs:List Value},bl G g vs->iceL (iceV H n) g=some ds->bl G2 ds vs:=fun{g ds vs} I hi=>by
   obtain⟨h1,h2⟩:=ny hi;refine⟨by rw[h1];exact I.1,fun i d u hd hu=>?_⟩;obtain⟨c,hc,hcd⟩:=h2 i d hd;exact pt M hF A n c u d (I.2 i c u hc hu) hcd
  cases hv with
  |int k a=>simp only[iceV,au]at h;subst h;exact .int _ _
  |sx k e=>simp only[iceV,au]at h;subst h;rw[<-M];exact .sx _ _
  |bool b=>simp only[iceV,au]at h;subst h;exact .bool _
  |str s l hs=>simp only[iceV,au]at h;subst h;exact .str _ _ hs
  |nilP=>simp only[iceV,au]at h;subst h;exact .nilP
  |nilM=>simp only[iceV,au]at h;subst h;exact .nilM
  |nilF=>simp only[iceV,au]at h;subst h;exact .nilF
  |nilS=>simp only[iceV,au]at h;subst h;exact .nilS
  |ptr _=>simp[iceV]at h
  |iptr _ _ _=>simp[iceV]at h
  |map _=>simp[iceV]at h
  |clo _ _=>simp[iceV]at h
  |agg hl I=>
   simp only[iceV]at h;split at h
   .rename_i ds hds;simp only[au]at h;subst h;have:=U ⟨hl,I⟩ hds;exact .agg this.1 this.2
   .simp at h
  |tup hl I=>
   simp only[iceV]at h;split at h
   .rename_i ds hds;simp only[au]at h;subst h;have:=U ⟨hl,I⟩ hds;exact .tup this.1 this.2
   .simp at h
  |lst0 a cap=>
   simp only[iceV,kT,au]at h;subst h;exact .lst0 _ _
  |lst vs hz hFx hvx hc=>
   rename_i xs b o cap z;simp only[iceV]at h;split at h
   .rename_i ys hys;simp only[au]at h;subst h;obtain⟨h1,h2⟩:=xu hys;rw[<-h1];refine .lst vs (z:=z) (fun i O hr=>?_) (fun i j hi hj=>hF _ _ _ (hFx i j (by rw[<-h1];exact hi) hj)) (fun i j O c hr hcj=>?_) (by rw[h1];exact hc)
    .obtain⟨c,L,hc2⟩:=h2 i O hr;rw[(ny hc2).1];exact hz i c L
    .obtain⟨c0,L,hc2⟩:=h2 i O hr;obtain⟨c1,hc3,hc4⟩:=(ny hc2).2 j c hcj;exact pt M hF A n c1 (vs i j) c (hvx i j c0 c1 L hc3) hc4
   .simp at h
  |sl hr hl hcx=>
   rename_i r V Y z b o xx cap;simp only[iceV]at h;split at h
   .rename_i g imm tip hg;split at h
    .rename_i l hil;split at h
     .rename_i F;simp only[au]at h;subst h;obtain⟨hh,hnew⟩:=A r b o xx g imm tip hr hg;obtain⟨h1,h2⟩:=ny hil;have Z:∀(m:Nat) c,l[m]?=some c->∃v,w.cell? ⟨b,o+V+m,none⟩=some v/\VR G2 c v:=fun m c hm=>by
       obtain⟨c0,J,L⟩:=h2 m c hm;rw[js]at J;split at J
       .rw[kV]at J;obtain⟨v,K,hv2⟩:=hh _ _ J;exact⟨v,by rw[fo];exact K,pt M hF A n c0 v c hv2 L⟩
       .simp at J
      have hlc:=ui z Y l;have hin:∀i j,i<Y->j<z->i*z+j<l.length:=fun i j hi hj=>by
       rw[F]
       calc i*z+j<i*z+z:=by omega
        _=(i+1)*z:=by rw[iD,ri]
        _<=Y*z:=nr _ hi
      have key:VR G2 (.lst (Rv z Y l)) (.slice (some ⟨b,o+V,none⟩) (Rv z Y l).length cap):=by
       refine .lst (fun i j=>(w.cell? ⟨b,o+V+(i*z+j),none⟩).getD undef) (z:=z) (fun i O C=>(pr z Y l i O F C).1) (fun i j hi hj=>?_) (fun i j O c C hcj=>?_) (by rw[hlc];exact hl)
       .rw[hlc]at hi;have hm:=hin i j hi hj;obtain⟨v,K,_⟩:=Z (i*z+j) _ (a1 hm);rw[K];have:=hnew (V+(i*z+j)) v (by rw[<-fo];exact K);rw[show o+V+i*z+j=o+(V+(i*z+j)) by omega];exact this
       .have hm:=(pr z Y l i O F C).2 j c hcj;obtain⟨v,K,hv2⟩:=Z (i*z+j) c hm;rw[K];exact hv2
      rw[hlc]at key;exact key
     .simp at h
    .simp at h
   .simp at h
theorem Dq(w:World){G G2:Gh}(V:G2.ρ=G.ρ)(O:∀b o v,G.F b o=some v->G2.F b o=some v){m:Nat}{Y:List AV}(h:SQ m Y=true){vs:List Value}(U:bl G Y vs):bl G2 Y vs:=by
 unfold SQ at h;split at h
 .rename_i K Z;have:=SE h;subst this;obtain⟨C,I⟩:=ny Z;refine⟨U.1,fun i c v hc j=>?_⟩;obtain⟨c0,J,L⟩:=I i c hc;rw[hc]at J;simp only[au]at J;subst J;exact pt (H:=Qv) (w:=w) V O (fun r b o x F M g _ A=>by simp[Dp]at A) m c v c (U.2 i c v hc j) L
 .simp at h
theorem um{P:Program}{ih:Task->Res}{f:FuncId}{Y:List AV}{H H':Hp}{r:AV}(h:Sz P ih f Y H=.val r H'):∃L,P.funcs[f]?=some L/\L.body.isSome=true:=by
 unfold Sz at h;split at h
 .rename_i L U;split at h
  .rename_i c z;exact⟨L,U,by simp[z]⟩
  .simp at h
 .simp at h
theorem Dr{P:Program}{cfg:Cfg}{ρ:Nat->Int}(V:∀f Y r,cfg.call f Y=some r->aX P ρ f Y r){n:Nat}{f:FuncId}{Y:List AV}{H H':Hp}{r:AV}(h:QJ P cfg n (.call f Y H)=.val r H'):
 ∃L,P.funcs[f]?=some L/\L.body.isSome=true:=by
 cases n with
 |zero=>simp[QJ]at h
 |succ n=>
  have F:QJ P cfg (n+1)=step P cfg (QJ P cfg n):=rfl;rw[F]at h;simp only[step]at h;split at h
  .rename_i i hr;exact(V f Y i hr).1
  .have U:∀{r:AV}{H':Hp},SB P cfg (QJ P cfg n) f Y H=.val r H'->∃L,P.funcs[f]?=some L/\L.body.isSome=true:=fun{r H'} h=>by
    unfold SB at h;split at h
    .unfold oR at h;split at h
     .split at h
      .rename_i hr;exact(V _ _ _ hr).1
      .exact um h
     .exact um h
    .exact um h
   unfold na at h;split at h
   .rename_i J;exact U J
   .exact U h
theorem uo{P:Program}(fit:Fit P){cfg:Cfg}{ρ:Nat->Int}(F:hM cfg.dec ρ)(I:∀f Y r,cfg.call f Y=some r->aX P ρ f Y r){n m k:Nat}{f:FuncId}{Y:List AV}{r:AV}
 (C:SQ k Y=true) (h:oS P cfg n m f Y=some r):aX P ρ f Y r:=by
 unfold oS at h;split at h
 .rename_i v0 H' V;refine⟨Dr I V,fun G w vs U g J=>?_⟩;subst U;have z:bl {G with β:=fun _=>none} Y vs:=Dq w (G:=G) (G2:={G with β:=fun _=>none}) rfl (fun _ _ _ h=>h) C J;have L:R ⟨w.heap.size,G.ρ,cfg⟩ Qv w {G with β:=fun _=>none}:=R.start (G:={G with β:=fun _=>none}) g (fun _=>rfl) F;refine((xt (B:=⟨w.heap.size,G.ρ,cfg⟩) fit I n).call f Y Qv _ H' V _ w vs L z).2.mono fun e Z hh=>?_;obtain⟨x,G',rfl,hx,K⟩:=hh;have A:Below w.heap.size w Z:=⟨K.fr.os,K.fr.tape,K.fr.output,K.fr.size,fun k hk=>K.fr.block k hk (fun r b o x hr=>by simp at hr)⟩;refine⟨x,fun b o=>if b<w.heap.size then G.F b o else Z.cell? ⟨b,o,none⟩,rfl,?_,A,fun b o v J=>?_,fun b o v J=>?_,fun b o v J=>?_⟩
  .refine pt (G:=G') (w:=Z) (H:=H') ?_ (fun b o v J=>?_) (fun r b o x cs O M hr hg=>?_) m v0 x r hx h
   .exact K.ext.ρ.symm
   .rcases K.icy b o v J with i|i
    .show(if b<w.heap.size then G.F b o else Z.cell? ⟨b,o,none⟩)=some v;rw[az (jQ (g b o v i))];exact i
    .show(if b<w.heap.size then G.F b o else Z.cell? ⟨b,o,none⟩)=some v;rw[af (by have:w.heap.size<=b:=i;omega)];exact K.r.frz b o v J
   .refine⟨K.r.cells r b o x cs O M hr hg,fun j v hj=>?_⟩;have i:w.heap.size<=b:=(K.r.lt r b o x hr).1;show(if b<w.heap.size then G.F b (o+j)else Z.cell? ⟨b,o+j,none⟩)=some v;rw[af aa];exact hj
  .rw[az (jQ (g b o v J))];exact J
  .split at J
   .exact .inl J
   .exact .inr aa
  .split at J
   .rename_i hb;rw[(uh A hb).1];exact g b o v J
   .exact J
 .simp at h
theorem xw{P:Program}{ρ:Nat->Int}{f:FuncId}{Y:List AV}{b:Bool}(h:aX P ρ f Y (.bool b)){vs:List Value}{w:World}{F:Nat->Nat->Option Value}
 (L:∀b o v,F b o=some v->w.cell? ⟨b,o,none⟩=some v) (J:bl ⟨fun _=>none,F,ρ⟩ Y vs) :
 Calls P f vs.toArray w (fun e Z=>e=.returned (.bool b)/\Below w.heap.size w Z):=by
 refine(h.2 ⟨fun _=>none,F,ρ⟩ w vs rfl L J).mono fun e Z g=>?_;obtain⟨v,V,rfl,hr,A⟩:=g;cases hr;exact⟨rfl,A.below⟩
def uq:Res->Bool
 | .val (.bool true) _=>true
 |_=>false
theorem Ds{P:Program}(fit:Fit P){cfg:Cfg}{ρ:Nat->Int}(F:hM cfg.dec ρ)(V:∀f Y r,cfg.call f Y=some r->aX P ρ f Y r){n k:Nat}{f:FuncId}{Y:List AV}
 (Z:SQ k Y=true) (h:uq (QJ P cfg n (.call f Y Qv))=true):aX P ρ f Y (.bool true):=by
 refine uo fit F V (n:=n) (m:=1) Z ?_;unfold oS;unfold uq at h;split at h
 .rename_i H U;rw[U];rfl
 .simp at h
theorem Dt{P:Program}(fit:Fit P){cfg:Cfg}{ρ:Nat->Int}(F:hM cfg.dec ρ)(V:∀f Y r,cfg.call f Y=some r->aX P ρ f Y r){n m k:Nat}{f:FuncId}{Y:List AV}{r:AV}
 (Z:SQ k Y=true) (h:tk P cfg n m f Y r=true):aX P ρ f Y r:=by
 unfold tk at h;split at h
 .rename_i q I;rw[<-AV.beq_eq h];exact uo fit F V Z I
 .simp at h
theorem gL(ρ:Nat->Int):hM (fun _ _ _=>none) ρ:=fun _ _ _ _ _ h=>ko
def gM(P:Program)(ρ:Nat->Int):List (FuncId×List AV×AV)->Prop
 |[]=>True
 |p::l=>aX P ρ p.1 p.2.1 p.2.2/\gM P ρ l
theorem rr{P:Program}{ρ:Nat->Int}:∀{l:List (FuncId×List AV×AV)},gM P ρ l->∀f Y r,lZ l f Y=some r->aX P ρ f Y r
 |[],_,_,_,_,h=>by simp[lZ]at h
 |p::l,hk,f,Y,r,h=>by
  simp only[lZ]at h;split at h
  .rename_i g;split at h
   .rename_i K;simp only[au]at h;subst h;rw[<-eY g,<-SE K];exact hk.1
   .exact rr hk.2 f Y r h
  .exact rr hk.2 f Y r h
def pu:List (Nat×Nat×Plan)->FuncId->Nat->Plan
 |[],_,_=>.text
 |p::l,f,id=>match Nat.beq p.1 f with
  |true=>match Nat.beq p.2.1 id with
   |true=>p.2.2
   |false=>pu l f id
  |false=>pu l f id
def Du(pls:List (Nat×Nat×Plan))(l:List (FuncId×List AV×AV)):Cfg:={keep:=fun _=>false,call:=lZ l,ice:=fun f=>l.any fun p=>Nat.beq p.1 f,plan:=pu pls}
theorem SJ{P:Program}(fit:Fit P){ρ:Nat->Int}{pls:List (Nat×Nat×Plan)}{l:List (FuncId×List AV×AV)}(I:gM P ρ l){n m k:Nat}{f:FuncId}{Y:List AV}{r:AV}
 (Z:SQ k Y=true) (h:tk P (Du pls l) n m f Y r=true):aX P ρ f Y r:=Dt fit (gL ρ) (rr I) Z h
def ur:Cfg:={keep:=fun _=>false}
theorem Dv{P:Program}{ρ:Nat->Int}:∀f Y r,ur.call f Y=some r->aX P ρ f Y r:=fun _ _ _ h=>by simp[ur]at h
def xy(P:Program):Bool:=P.funcs.all (fun L=>!(L.body.isSome&&L.name == "runtime.NumGoroutine"))&&P.follows .mixedOrders
theorem Fit.of{P:Program}(h:xy P=true):Fit P:=by
 simp only[xy,dn]at h;refine⟨fun f L g z=>?_,h.2⟩;have i:=h.1;rw[tZ]at i;have:=i L (by exact Array.mem_of_getElem? g);simpa [z]using this
theorem closed{P:Program}(fit:Fit P){n f:Nat}(h:uq (QJ P ur n (.call f [] Qv))=true){w:World}:
 Calls P f #[] w (fun e o=>e=.returned (.bool true)/\Below w.heap.size w o):=
 xw (ρ:=fun _=>0) (F:=fun _ _=>none) (Ds fit (gL _) Dv (k:=1) rfl h) (fun _ _ _ h=>ko) (iZ _)
section
variable {H:Type} {enc:TypeId × Value -> H} {P:Program}
theorem Dw{f:Func}{s:ChangeSpec}{apart C F I:Bool}{W U:World}{Y:Array Value}{v:Value}{O L:List (DataW H)}{i A pv:List MemPlace}
 (hW:DataW.Whole enc P f.params.toList s.vars apart W Y.toList O L i)
 (M:∀(b:Nat) (g:Nat->Bool) (hd:Bool),DataW.TrodAll enc P U b g hd f.resultTypes.toList (v.resultList f.resultTypes.size) (s.fn H (O++L)).results [])
 (Z:∀g:Nat->Bool,(∀p∈i,g p.block=true)->DataW.TrodAll enc P U 0 g true f.params.toList Y.toList (s.fn H (O++L)).args A)
 (J:∀g:Nat->Bool,(∀p∈i,g p.block=true)->DataW.TrodVars enc P U g s.vars (s.fn H (O++L)).vars pv)
 (V:i=A++pv) (hb:Below W.heap.size W U)
 (hok:∀(j:Nat) (t:TypeId) (r:Value),f.resultTypes[j]?=some t->(v.resultList f.resultTypes.size)[j]?=some r->Value.okWide P U .any 0 t r) :
 s.post enc P f apart C F I W Y v U:=by
 have o:∀p∈i,p.block<W.heap.size:=fun p hp=>hW.lt p hp;have K:∀p∈i,(fun b=>decide (b<W.heap.size)) p.block=true:=fun p hp=>by simpa using o p hp
 refine⟨O,L,i,[],A,pv,hW,M _ _ _,Z _ K,J _ K,World.keptBut_mono (fun p hp=>⟨hp,?_⟩) (hb.frame (·∈ i)),fun _=>?_⟩
 .rw[V,lb]at hp;exact Or.inr hp
 .obtain⟨_,_,_,_,_,hz,hn⟩:=hW;refine⟨hok,_,_,([]++A)++pv,⟨[]++A,pv,trodAll_append (Z _ (fun _ _=>rfl)) (M _ _ _),J _ (fun _ _=>rfl),rfl,?_,?_⟩,?_⟩
  .intro b z hp;have m:MemPlace.cell b z∈i:=by rw[V];simpa using hp
   rw[hb.frozen (o _ m)];exact hz b z m
  .intro ha;have:=hn ha;rw[V]at this;simpa using this
  .intro p hp _;rw[V];simpa using hp
end
end Go.Ab
