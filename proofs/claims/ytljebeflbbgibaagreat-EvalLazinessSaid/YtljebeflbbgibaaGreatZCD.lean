/- Parts: AbDraw, AbPlan, AbCon, AbSound, AbLaw. -/
import Derived.Below
import Derived.ChangeSame
import Derived.Orders
import Derived.Test.YtljebeflbbgibaaGreatZCC
set_option linter.unusedSimpArgs false
set_option linter.unusedVariables false
set_option linter.unusedSectionVars false
set_option linter.defProp false
set_option maxHeartbeats 32000000
namespace Go.Ab
set_option maxRecDepth 20000
open Go
theorem iQ{P:Prop}(h:P:=by simpa using h):P:=h
theorem k7{P:Prop}(h:P:=by rw[e]):P:=h
theorem iR{P:Prop}(h:P:=by simp at h):P:=h
theorem tJ{P:Prop}(h:P:=by simpa using Y):P:=h
theorem C8{P:Prop}(h:P:=by rw[Z.size];exact(List.getElem?_eq_some_iff.1 K).1):P:=h
theorem C9{P:Prop}(h:P:=by rw[hs];have:=(List.getElem?_eq_some_iff.1 J).1;simpa using this):P:=h
theorem vV{P:Prop}(h:P:=by rw[List.length_drop];omega):P:=h
def fk:=@List.mem_cons
def tK:=@List.mem_append
def zi:=@List.mem_flatMap
def jb:=@List.mem_range
def k8:=@Bool.not_true
def jc:=@Bool.false_or
def tL:=@List.mem_filter
def mA:=@Array.getElem?_eq_getElem
def k9:=@Bool.not_eq_true'
def zj:=@Array.all_eq_true_iff_forall_mem
def nJ:=@Bool.or_eq_true
def mB:=@List.mem_map
def tM:=@Nat.lt_or_ge
def zk:=@Array.getElem?_eq_none
def tN:=@List.any_eq_false
def vW:=@Nat.lt_trichotomy
def tO:=@List.eq_nil_iff_forall_not_mem
def fG:=@List.getElem?_eq_none
def Da:=@Array.getElem?_replicate
def mC:=@Bool.true_or
def eW:=@List.mem_cons_self
def e8:=@List.mem_cons_of_mem
def pL:=@List.map_append
def Db:=@List.getElem?_eq_none_iff
def zl:=@List.mem_iff_getElem?
def oD:=@List.map_map
def pM:=@Bool.and_self
def vX:=@Nat.one_mul
def fH:=@true_and
end Go.Ab
namespace Go.Ab
set_option maxRecDepth 20000
open Go Go.RowKit
theorem zm{i:Nat}:∀{l C:List Nat},i∈qW C l↔i∈C\/i∈l
 |[],C=>by simp[qW]
 |x::xs,C=>by
  simp only[qW];split
  .rename_i h;have F:x∈C:=iQ;rw[zm,fk];exact⟨fun h=>h.elim .inl (fun h=>.inr (.inr h)),fun h=>h.elim .inl (fun h=>h.elim (fun e=>.inl (by subst e;exact F)) .inr)⟩
  .rw[zm,fk,fk];exact⟨fun h=>h.elim (fun h=>h.elim (fun e=>.inr (.inl e)) .inl) (fun h=>.inr (.inr h)),fun h=>h.elim (fun h=>.inl (.inr h)) (fun h=>h.elim (fun e=>.inl (.inl e)) .inr)⟩
theorem LL{i:Nat}{l:List Nat}:i∈ti l↔i∈l:=by unfold ti;rw[zm];simp
theorem zn:∀(l:List Oper) (C:List (List Nat)) (i:Nat),i<C.length->(fu l C).getD i []=C.getD i []
 |[],C,i,_=>rfl
 |o::l,C,i,h=>by
  simp only[fu];rw[zn l _ i co];simp[List.getD,i7 h]
theorem Dc:∀(l:List Oper) (C:List (List Nat)) (j:Nat) (o:Oper),l[j]?=some o ->
 ∃F:List (List Nat),F.length=C.length+j/\(∀i,i<F.length->(fu l C).getD i []=F.getD i [])/\(fu l C).getD (C.length+j) []=ti (preds o++(preds o).flatMap fun i=>F.getD i [])
 |[],_,_,_,h=>by simp at h
 |o::l,C,0,o',h=>by
  simp at h;subst h;refine⟨C,rfl,fun i Y=>zn _ _ i Y,?_⟩;simp only[fu,my];rw[zn l _ C.length aD];simp[List.getD]
 |o::l,C,j+1,o',h=>by
  obtain⟨F,W,g,Z⟩:=Dc l (C++[ti (preds o++(preds o).flatMap fun i=>C.getD i [])]) j o' iQ;simp only[fj,dg,jo]at W Z;refine⟨F,ac,g,?_⟩;simp only[fu];rw[show C.length+(j+1)=C.length+(0+1)+j by omega];exact Z
theorem LM{l:List Oper}{j:Nat}{o:Oper}(J:l[j]?=some o)(V:∀p∈preds o,p<j){i:Nat}:
 i∈(fu l []).getD j []↔i∈preds o\/∃p∈preds o,i∈(fu l []).getD p []:=by
 obtain⟨Y,Z,g,W⟩:=Dc l [] j o J;simp only[jo,bw]at Z W;rw[W,LL,tK,zi];constructor
 .rintro(h|⟨p,F,I⟩)
  .exact .inl h
  .exact .inr ⟨p,F,by rw[g p (by rw[Z];exact V p F)];exact I⟩
 .rintro(h|⟨p,F,I⟩)
  .exact .inl h
  .exact .inr ⟨p,F,by rw[<-g p (by rw[Z];exact V p F)];exact I⟩
structure CalmD (l:List Oper):Prop where
 lt:∀j o,l[j]?=some o->∀p∈preds o,p<j
 guard:∀j o g b,l[j]?=some o->o.guard=some (g,b)->g∈(fu l []).getD j []
 clash:∀i j p q,i<j->l[i]?=some p->l[j]?=some q->Ab.clash l p q=true->i∈(fu l []).getD j []
theorem LN{l:List Oper}(h:mo l=true):CalmD l:=by
 unfold mo at h;simp only[f9,jb]at h;have Z:∀j o,l[j]?=some o->(∀p∈preds o,p<j)/\(∀g b,o.guard=some (g,b)->g∈(fu l []).getD j [])/\∀i p,i<j->l[i]?=some p->Ab.clash l p o=true->i∈(fu l []).getD j []:=fun j o J=>by
  have:=h j (dD.1 J).1;rw[J]at this;simp only[dp,f9,jq,jb]at this;obtain⟨⟨V,W⟩,U⟩:=this;refine⟨V,fun g b A=>?_,fun i p C hp hc=>?_⟩
  .rw[A]at W;simpa using W
  .have:=U i C;rw[hp]at this;simp only[hc,k8,jc]at this;simpa using this
 exact⟨fun j o J=>(Z j o J).1,fun j o g b J=>(Z j o J).2.1 g b,fun i j p q Y C O=>(Z j q O).2.2 i p Y C⟩
theorem zo{l:List Oper}(O:CalmD l){D:Nat->Prop}(L:∀j,D j->∀o,l[j]?=some o->∀p∈preds o,D p):
 ∀(j:Nat) o,l[j]?=some o->(∀p∈preds o,D p)->∀i∈(fu l []).getD j [],D i:=by
 intro j;induction j using Nat.strongRecOn with
 |_ j ih=>
  intro o J hp i C;rcases(LM J (O.lt j o J)).1 C with h|⟨p,F,I⟩
  .exact hp i h
  .have z:=O.lt j o J p F;have Z:=(dD.1 J).1;have W:l[p]?=some (l[p]' ac):=aO ac;exact ih p z _ W (fun q K=>L p (hp p F) _ W q K) i I
theorem lb{l:List Oper}{i:Nat}:i∈gB l↔∃o,l[i]?=some o/\jG o=true:=by
 unfold gB;rw[tL,jb];constructor
 .rintro⟨Z,g⟩;rw[aO Z]at g;exact⟨_,aO Z,g⟩
 .rintro⟨o,Z,g⟩;exact⟨(dD.1 Z).1,by rw[Z];exact g⟩
theorem jd{ops:Array Oper}{M:Array Bool}{i:Nat}:i∈Region.ready .any ops M↔∃o,ops.toList[i]?=some o/\M.getD i true=false/\∀p∈preds o,M.getD p false=true:=by
 unfold Region.ready preds;rw[tL,jb,tE];constructor
 .rintro⟨Z,g⟩;rw[mA Z]at g;simp only[dp,k9,jp,a3,zj,nJ]at g;refine⟨_,mA Z,g.1,fun p hp=>?_⟩;simp only[mB,tL]at hp;obtain⟨e,⟨W,Y⟩,rfl⟩:=hp;rcases g.2 e pB with h|h
  .rw[Y]at h;simp at h
  .exact h
 .rintro⟨o,Z,g,V⟩;have C:i<ops.size:=by
   rcases tM i ops.size with h|h
   .exact h
   .rw[zk h]at Z;simp at Z
  refine⟨C,?_⟩;rw[Z];simp only[dp,k9,jp,a3,zj,nJ];refine⟨g,fun e L=>?_⟩;cases z:Region.binds .any e with
  |false=>exact .inl rfl
  |true=>exact .inr (V e.on (by simp only[mB,tL];exact⟨e,⟨ki,z⟩,rfl⟩))
theorem zp{l:List Oper}:∀(k s:Nat),s+k=l.length->∃m,s<=m/\m<=l.length/\(m=l.length\/m∈gB l)/\∀j,s<=j->j<m->j∉gB l
 |0,s,hs=>⟨s,aM _,ac,.inl ac,fun j i g=>ac⟩
 |k+1,s,hs=>by
  by_cases h:s∈gB l
  .exact⟨s,aM _,ac,.inr h,fun j i g=>ac⟩
  .obtain⟨m,i,g,o,U⟩:=zp (l:=l) k (s+1) ac;refine⟨m,ac,g,o,fun j O Z=>?_⟩;by_cases e:j=s
   .subst e;exact h
   .exact U j ac Z
section
variable {P:Program} {B:Bs} {cfg:Cfg}
structure Ctx (P:Program) (cfg:Cfg) (ih:Task->Res) (f N:Nat) (l:List Oper) (E0:ao) (zc2:Hp) (E':ao) (H':Hp) (rs:List Rec):Prop where
 calm:CalmD l
 len:rs.length=l.length
 at':∀(i:Nat) (r:Rec),rs[i]?=some r->∃o,l[i]?=some o/\AtD P cfg ih f N l o r (zd6 rs E' i) (zd6 rs E' (i+1)) (zc3 rs H' i) (zc3 rs H' (i+1))
 zeroE:zd6 rs E' 0=E0
 zeroH:zc3 rs H' 0=zc2
 next:∀i,i<l.length->(zc3 rs H' i).next<=(zc3 rs H' (i+1)).next
 look:∀(i:Nat) (r:Rec),rs[i]?=some r->r.did=true->∀m,(m∈gB l\/m=l.length)->(∀e∈gB l,e∈(fu l []).getD i []->e<m)->(∀e∈gB l,i∈(fu l []).getD e []->m<=e) ->
  zcH P cfg r (zc3 rs H' m)=true
theorem LO{ih:Task->Res}{f N:Nat}{l:List Oper}{E0 E':ao}{zc2 H':Hp}{rs:List Rec}(hc:mo l=true)(hr:gA P cfg ih f N l l E0 zc2=.done E' H' rs)(I:pw P cfg (kV l) rs H'=true):
 Ctx P cfg ih f N l E0 zc2 E' H' rs:=by
 have K:=tI hr;obtain⟨z1,z2⟩:=zf K;have W:=ze K;unfold pw at I;simp only[dp,f9]at I;refine⟨LN hc,W,fun i r C=>pJ K C,z1,z2,fun i C=>?_,fun i r C hd m hm h1 h2=>?_⟩
 .have hi':i<rs.length:=by omega
  have L:=aO hi';obtain⟨o,_,F⟩:=pJ K L;have h3:=tD (I.1 _ (jL L));rw[F.eH,F.eH']at h3;exact h3
 .obtain⟨o,ho,F⟩:=pJ K C;have Z:vB (fu l []) (gB l) i m=true:=by
   unfold vB;simp only[k9,k3,tN,dp,not_and];refine⟨fun e U O z=>?_,fun e U O J=>?_⟩
   .have:=h1 e U tq;have:=tD z;omega
   .have:=h2 e U tq;have:e<m:=by simpa [gE]using J
    omega
  have A:∀k,zed o.op=k->(k=.read\/k=.make)->(i,m)∈kV l:=fun k Y g=>by
   unfold kV;rw[zi];refine⟨i,jb.2 (dD.1 ho).1,?_⟩;rw[ho];have V:(i,m)∈((gB l++[l.length]).filter (vB (fu l []) (gB l) i)).map fun m=>(i,m):=
    mB.2 ⟨m,tL.2 ⟨by simpa using hm,Z⟩,rfl⟩
   rcases g with rfl|rfl<;>simp only[Y]<;>exact V
  have j:(i,m)∈kV l->zcH P cfg r (zc3 rs H' m)=true:=fun h=>by
   have:=I.2 _ h;simp only[C,hd,k8,jc]at this;exact this
  have M:r.o=o:=F.eo;cases Y:zed o.op with
  |read=>exact j (A _ Y (.inl rfl))
  |make=>exact j (A _ Y (.inr rfl))
  |calm=>unfold zcH;rw[M,Y]
  |act=>unfold zcH;rw[M,Y]
section
variable {ih:Task -> Res} {f N:Nat} {ops:Array Oper} {E0 E':ao} {zc2 H':Hp} {rs:List Rec} (cx:Ctx P cfg ih f N ops.toList E0 zc2 E' H' rs)
include cx
theorem Ctx.record{i:Nat}{o:Oper}(J:ops.toList[i]?=some o):∃r,rs[i]?=some r/\AtD P cfg ih f N ops.toList o r (zd6 rs E' i) (zd6 rs E' (i+1)) (zc3 rs H' i) (zc3 rs H' (i+1)):=by
 have C:i<rs.length:=by rw[cx.len];exact(dD.1 J).1
 obtain⟨U,Z,g⟩:=cx.at' i _ (aO C);rw[J]at Z;simp only[az]at Z;subst Z;exact⟨_,aO C,g⟩
theorem Ctx.gap:∀(d s:Nat),s+d<=ops.toList.length->(∀j,s<=j->j<s+d->j∉gB ops.toList) ->
 (zc3 rs H' s).next<=(zc3 rs H' (s+d)).next/\∀r,r<(zc3 rs H' s).next->(zc3 rs H' (s+d)).get r=(zc3 rs H' s).get r
 |0,s,_,_=>⟨aM _,fun _ _=>rfl⟩
 |d+1,s,hs,hn=>by
  obtain⟨M,Y⟩:=Ctx.gap d s ac (fun j W V=>hn j W ac);have z:s+d<ops.toList.length:=ac;obtain⟨r,hr,F⟩:=cx.record (aO z);have Z:jG (ops.toList[s+d])=false:=by
   cases O:jG (ops.toList[s+d])with
   |false=>rfl
   |true=>exact(hn (s+d) ac ac (lb.2 ⟨_,aO z,O⟩)).elim
  have i:zc3 rs H' (s+d+1)=zc3 rs H' (s+d)\/∃g,zc3 rs H' (s+d+1)=(zc3 rs H' (s+d)).alloc g:=by
   cases hd:r.did with
   |true=>exact LK Z (F.yes hd)
   |false=>exact .inl (F.no hd).2
  rw[show s+(d+1)=s+d+1 by omega];rcases i with e|⟨g,e⟩
  .rw[e];exact⟨M,Y⟩
  .rw[e];refine⟨co,fun k U=>?_⟩;rw[zcu,ah ac];exact Y k U
theorem Ctx.nextMono:∀(d s:Nat),s+d<=ops.toList.length->(zc3 rs H' s).next<=(zc3 rs H' (s+d)).next
 |0,_,_=>aM _
 |d+1,s,hs=>eG (Ctx.nextMono d s ac) (by rw[show s+(d+1)=s+d+1 by omega];exact cx.next _ ac)
theorem Ctx.slotAt(t:Nat):∀s,s<=ops.toList.length ->
 (∃(i:Nat) (r:Rec) (o:Oper),i<s/\rs[i]?=some r/\ops.toList[i]?=some o/\o.dst=some t/\(∀(j:Nat) (U:Oper),j<s->ops.toList[j]?=some U->U.dst=some t->j<=i)/\(zd6 rs E' s).at t=r.val) \/
 ((∀(j:Nat) (U:Oper),j<s->ops.toList[j]?=some U->U.dst≠some t)/\(zd6 rs E' s).at t=E0.at t)
 |0,_=>.inr ⟨fun j U O=>ac,by rw[cx.zeroE]⟩
 |s+1,hs=>by
  have V:ops.toList[s]?=some (ops.toList[s]' ac):=aO ac;obtain⟨r,hr,F⟩:=cx.record V;have g:=F.put;have Z:=Ctx.slotAt t s ac;by_cases hd:(ops.toList[s]' ac).dst=some t
  .refine .inl ⟨s,r,_,ac,hr,V,hd,fun j U O _ _=>ac,?_⟩;rw[hd]at g;simp only[dW]at g;split at g
   .simp only[az]at g;rw[<-g,rh,ax rfl]
   .simp at g
  .have Y:(zd6 rs E' (s+1)).at t=(zd6 rs E' s).at t:=by
    cases J:(ops.toList[s]' ac).dst with
    |none=>
     rw[J]at g;simp only[dW,az]at g;rw[<-g]
    |some d=>
     rw[J]at g hd;simp only[dW]at g;split at g
     .simp only[az]at g;rw[<-g,rh,ah (fun e=>hd k7)]
     .simp at g
   rw[Y];rcases Z with⟨i,m,U,K,L,C,A,z,h6⟩|⟨K,L⟩
   .refine .inl ⟨i,m,U,ac,L,C,A,fun j M O I W=>?_,h6⟩;by_cases e:j=s
    .subst e;rw[V]at I;simp only[az]at I;subst I;exact(hd W).elim
    .exact z j M ac I W
   .refine .inr ⟨fun j U O I=>?_,L⟩;by_cases e:j=s
    .subst e;rw[V]at I;simp only[az]at I;subst I;exact hd
    .exact K j U ac I
end
def ey(M:Array Bool)(j:Nat):Prop:=M.getD j false=true
def rB(rs:List Rec)(l:List Oper)(K:ao)(D:Nat->Prop)(G:Gh)(a:Act):Prop:=∀t,
 (∃(i:Nat) (r:Rec) (o:Oper),D i/\rs[i]?=some r/\l[i]?=some o/\o.dst=some t/\(∀(j:Nat) (U:Oper),D j->l[j]?=some U->U.dst=some t->j<=i)/\VR G r.val (a.tmps.getD t undef)) \/
 ((∀(j:Nat) (U:Oper),D j->l[j]?=some U->U.dst≠some t)/\VR G (K.at t) (a.tmps.getD t undef))
theorem rB.agree{ih:Task->Res}{f N:Nat}{ops:Array Oper}{F C:ao}{zc2 H':Hp}{rs:List Rec}(cx:Ctx P cfg ih f N ops.toList F zc2 C H' rs){D:Nat->Prop}{G:Gh}{a:Act}(A:rB rs ops.toList F D G a){t s:Nat}
 (J:s<=ops.toList.length) (Z:∀(j:Nat) (o:Oper),ops.toList[j]?=some o->o.dst=some t->(D j↔j<s)):VR G ((zd6 rs C s).at t) (a.tmps.getD t undef):=by
 rcases cx.slotAt t s J with⟨i,r,o,M,g,L,K,h5,h6⟩|⟨M,g⟩
 .rw[h6];have O:=(Z i o L K).2 M;rcases A t with⟨m,r',U,W,Y,V,I,z,g6⟩|⟨W,_⟩
  .have e1:=h5 m U ((Z m U V I).1 W) V I;have e2:=z i o O L K;have:m=i:=ac;subst this;rw[g]at Y;simp only[az]at Y;subst Y;exact g6
  .exact(W i o O L K).elim
 .rw[g];rcases A t with⟨m,r',U,W,Y,V,I,z,g6⟩|⟨_,Y⟩
  .exact(M m U ((Z m U V I).1 W) V I).elim
  .exact Y
structure InvD (rs:List Rec) (l:List Oper) (N:Nat) (B:Bs) (nx0:Nat) (E0:ao) (H':Hp) (G0:Gh) (w0:World) (listed:Array Bool) (a:Act) (w:World) (m:Nat) (G:Gh):Prop where
 size:listed.size=l.length
 closed:∀j,ey listed j->∀o,l[j]?=some o->∀p∈preds o,ey listed p
 le:m<=l.length
 act:m=l.length\/m∈gB l
 notyet:¬ey listed m
 acts:∀e∈gB l,e<m->ey listed e
 step:Step B nx0 G0 w0 (zc3 rs H' m) w G
 low:∀r p,G.β r=some p->r<nx0\/∃j,ey listed j/\j<l.length/\(zc3 rs H' j).next<=r/\r<(zc3 rs H' (j+1)).next
 slots:rB rs l E0 (ey listed) G a
 frame:a.tmps.size=N
 defers:a.defers=[]
theorem ey.set{M:Array Bool}{i:Nat}(C:i<M.size)(j:Nat):ey (M.setIfInBounds i true) j↔j=i\/ey M j:=by
 unfold ey;rw[gF,gF,re];by_cases e:i=j
 .subst e;simp[C]
 .rw[ah e];constructor
  .exact fun h=>.inr h
  .rintro(h|h)
   .exact(e h.symm).elim
   .exact h
def jr:=@ey.set
theorem rB.put{rs:List Rec}{l:List Oper}{m:ao}{M:Array Bool}{G V:Gh}{a:Act}(hs:rB rs l m (ey M) G a)(g:Ext G V){i:Nat}(W:i<M.size){o:Oper}(L:l[i]?=some o){r:Rec}(hr:rs[i]?=some r)
 {v:Value} (hv:VR V r.val v) (hd:∀d,o.dst=some d->d<a.tmps.size/\∀(j:Nat) (U:Oper),ey M j->l[j]?=some U->U.dst=some d->j<=i):rB rs l m (ey (M.setIfInBounds i true)) V (a.put o.dst v):=by
 intro t;by_cases C:o.dst=some t
 .obtain⟨h1,h2⟩:=hd t C;refine .inl ⟨i,r,o,(jr W i).2 (.inl rfl),hr,L,C,fun j U O I Z=>?_,?_⟩
  .rcases(jr W j).1 O with e|O
   .omega
   .exact h2 j U O I Z
  .rw[C];simp only[Act.put];simpa [Array.getD,h1]using hv
 .have Y:(a.put o.dst v).tmps.getD t undef=a.tmps.getD t undef:=by
   cases J:o.dst with
   |none=>rfl
   |some d=>
    rw[J]at C;have z:d≠t:=fun e=>C k7;simp only[Act.put,gF,re];rw[ah z]
  rw[Y];rcases hs t with⟨i',r',U,F,A,g3,g4,g5,g6⟩|⟨F,A⟩
  .refine .inl ⟨i',r',U,(jr W i').2 (.inr F),A,g3,g4,fun j K O I Z=>?_,g6.mono g⟩;rcases(jr W j).1 O with e|O
   .subst e;rw[L]at I;simp only[az]at I;subst I;exact(C Z).elim
   .exact g5 j K O I Z
  .refine .inr ⟨fun j U O I Z=>?_,A.mono g⟩;rcases(jr W j).1 O with e|O
   .subst e;rw[L]at I;simp only[az]at I;subst I;exact(C Z).elim
   .exact F j U O I Z
theorem zq{C:List Oper}{o:Oper}{t:Nat}:t∈ow C o↔o.dst=some t\/(Operand.tmp t)∈o.op.operands.toList\/∃g b U,o.guard=some (g,b)/\C[g]?=some U/\U.dst=some t:=by
 unfold ow Cw;simp only[tK,Option.mem_toList,List.mem_filterMap];constructor
 .rintro((h|⟨x,F,h⟩)|h)
  .exact .inl h
  .cases x<;>simp at h;subst h;exact .inr (.inl F)
  .cases A:o.guard with
   |none=>rw[A]at h;simp at h
   |some p=>
    obtain⟨g,b⟩:=p;rw[A]at h;simp only[Option.mem_toList,ch]at h;obtain⟨U,i,Z⟩:=h;exact .inr (.inr ⟨g,b,U,rfl,i,Z⟩)
 .rintro(h|h|⟨g,b,U,i,Z,Y⟩)
  .exact .inl (.inl h)
  .exact .inl (.inr ⟨_,h,rfl⟩)
  .refine .inr ?_;rw[i];simp[Z,Y]
theorem Dd{C:List Oper}{p q:Oper}{d:Nat}(h:(p.dst=some d/\d∈ow C q)\/(q.dst=some d/\d∈ow C p)):Ab.clash C p q=true:=by
 unfold Ab.clash;rcases h with⟨i,g⟩|⟨i,g⟩
 .rw[i];simp[g]
 .rw[i];simp[g]
theorem Step.trans'{Y:Nat}{H' O:Hp}{G W M:Gh}{w w' Z:World}(h:Step B Y G w H' w' W)(k:Step B Y W w' O Z M):Step B Y G w O Z M:=
 ⟨k.r,h.ext.trans k.ext,h.fr.trans k.fr h.new,h.new.trans k.new h.fr.size,fun r p hr=>by
  rcases k.low r p hr with i|i
  .exact h.low r p i
  .exact .inr i,k.mono,fun b o v L=>by
  rcases k.icy b o v L with i|i
  .exact h.icy b o v i
  .exact .inr i⟩
theorem Step.weaken{Z o:Nat}{H':Hp}{G Y:Gh}{w w':World}(h:Step B Z G w H' w' Y)(m:o<=Z):Step B o G w H' w' Y:=
 ⟨h.r,h.ext,h.fr,h.new,fun r p hr=>(h.low r p hr).imp id (fun e=>eG m e),eG m h.mono,h.icy⟩
theorem Snd.fail(P:Program)(B:Bs):Snd P B 0 (fun _=>.fail):=
 ⟨fun _ _ _ _ _ h=>iR,fun _ _ _ _ _ _ _ _ h=>iR,fun _ _ _ _ _ _ _ _ h=>iR⟩
theorem LP(fit:Fit P){n:Nat}{ih:Task->Res}(hih:Snd P B n ih){f N nx0:Nat}{ops:Array Oper}{E0 E':ao}{zc2 H':Hp}{rs:List Rec}(cx:Ctx P B.cfg ih f N ops.toList E0 zc2 E' H' rs)(hnx:zc2.next=nx0){G0 G:Gh}{w0 w:World}
 {M:Array Bool}{a:Act}{m:Nat} (Y:InvD rs ops.toList N B nx0 E0 H' G0 w0 M a w m G) {i:Nat} (hi:i∈Region.ready .any ops M) {K:Act->World->Prop}{Q:Exit->Act->World->Prop}
 (hK:∀a' w' m' G',InvD rs ops.toList N B nx0 E0 H' G0 w0 (M.setIfInBounds i true) a' w' m' G'->K a' w'):wpOp P ops Q i K a w:=by
 obtain⟨o,ho,hun,hpr⟩:=jd.1 hi;obtain⟨r,hr,ha⟩:=cx.record ho;have hil:i<ops.toList.length:=(dD.1 ho).1;have O:i<M.size:=by rw[Y.size];exact hil
 have hnot:¬ey M i:=fun hd=>by
  unfold ey at hd;rw[gF,mA O]at hd;rw[gF,mA O]at hun;simp only[a3]at hd hun;rw[hd]at hun;simp at hun
 -- what comes before i is done;what comes behind it is not
 have L:∀j∈(fu ops.toList []).getD i [],ey M j:=zo cx.calm Y.closed i o ho hpr;have A:∀j,ey M j->∀oj,ops.toList[j]?=some oj->i∉(fu ops.toList []).getD j []:=fun j hj oj F hm=>
  hnot (zo cx.calm Y.closed j oj F (Y.closed j hj oj F) i hm)
 -- the writers of the slots that i names
 have hagree:∀t∈ow ops.toList o,∀(j:Nat) (oj:Oper),ops.toList[j]?=some oj->oj.dst=some t->(ey M j↔j<i):=fun t ht j oj F hjd=>by
  constructor
  .intro hj;rcases vW j i with h|h|h
   .exact h
   .subst h;exact(hnot hj).elim
   .exact(A j hj oj F (cx.calm.clash i j o oj h ho F (Dd (.inr ⟨hjd,ht⟩)))).elim
  .intro hj;exact L j (cx.calm.clash j i oj o hj F ho (Dd (.inl ⟨hjd,ht⟩)))
 have hslot:∀t∈ow ops.toList o,VR G ((zd6 rs E' i).at t) (a.tmps.getD t undef):=fun t ht=>Y.slots.agree cx (Nat.le_of_lt hil) (hagree t ht);have I:pI G (zd6 rs E' i) a o.op.operands:=fun x hx c hc=>by
  cases x with
  |tmp t=>simp only[zcp,az]at hc;subst hc;exact hslot t (zq.2 (.inr (.inl (by simpa using hx))))
  |const v=>exact rj hc
  |global g=>simp[zcp]at hc
  |func f=>simp only[zcp,az]at hc;subst hc;exact .clo (vs:=[]) rfl aD
 have hwant:=C5 (G:=G) (E:=zd6 rs E' i) (a:=a) (ops:=ops) (o:=o) (fun g b d hg hd=>by
  simp only[ch]at hd;obtain⟨o',h1,h2⟩:=hd;exact hslot d (zq.2 (.inr (.inr ⟨g,b,o',hg,by rw[tE];exact h1,h2⟩))))
 have hdst:∀d,o.dst=some d->d<a.tmps.size/\∀(j:Nat) (o':Oper),ey M j->ops.toList[j]?=some o'->o'.dst=some d->j<=i:=fun d hd=>by
  refine⟨?_,fun j o' hj hjo hjd=>Nat.le_of_lt ((hagree d (zq.2 (.inl hd)) j o' hjo hjd).1 hj)⟩;have hp:=ha.put;rw[hd]at hp;simp only[dW]at hp;split at hp
  .rename_i hb;rw[Y.frame];simpa [gE]using hb
  .simp at hp
 have hclosed':∀j,ey (M.setIfInBounds i true) j->∀oj,ops.toList[j]?=some oj->∀p∈preds oj,ey (M.setIfInBounds i true) p:=fun j hj oj F p hp=>by
  rcases(jr O j).1 hj with rfl|hj
  .rw[ho]at F;simp only[az]at F;subst F;exact(jr O p).2 (.inr (hpr p hp))
  .exact(jr O p).2 (.inr (Y.closed j hj oj F p hp))
 -- an act comes up in its turn
 have hturn:jG o=true->i=m:=fun hact=>by
  have V:i∈gB ops.toList:=lb.2 ⟨o,ho,hact⟩;rcases vW i m with h|h|h
  .exact(hnot (Y.acts i V h)).elim
  .exact h
  .rcases Y.act with e|e
   .omega
   .obtain⟨om,J,C⟩:=lb.1 e;exact(Y.notyet (L m (cx.calm.clash m i om o h J ho (by unfold Ab.clash;simp[hact,C])))).elim
 -- how the invariant goes on
 have hfin:∀(v:Value) (w':World) (G':Gh) (X:Hp),VR G' r.val v->Step B nx0 G w X w' G' ->
  (∀k p,G'.β k=some p->G.β k=some p\/((zc3 rs H' i).next<=k/\k<(zc3 rs H' (i+1)).next)) ->
  ((i≠m/\X=zc3 rs H' m)\/(i=m/\X=zc3 rs H' (i+1)))->K (a.put o.dst v) w':=fun v w' G' X hv W hlow hX=>by
  have hslots':=Y.slots.put W.ext O ho hr hv hdst;have hlow':∀k p,G'.β k=some p->k<nx0\/∃j,ey (M.setIfInBounds i true) j/\j<ops.toList.length/\(zc3 rs H' j).next<=k/\k<(zc3 rs H' (j+1)).next:=fun k p hk=>by
   rcases hlow k p hk with h|h
   .rcases Y.low k p h with h|⟨j,h1,h2⟩
    .exact .inl h
    .exact .inr ⟨j,(jr O j).2 (.inr h1),h2⟩
   .exact .inr ⟨i,(jr O i).2 (.inl rfl),hil,h⟩
  have hframe':(a.put o.dst v).tmps.size=N:=by rw[<-Y.frame];cases o.dst<;>simp[Act.put]
  have hdef':(a.put o.dst v).defers=[]:=by have:=Y.defers;cases o.dst<;>exact this
  rcases hX with⟨hne,rfl⟩|⟨rfl,rfl⟩
  .refine hK _ _ m G' ⟨by simpa using Y.size,hclosed',Y.le,Y.act,fun hd=>?_,fun e he hlt=>(jr O e).2 (.inr (Y.acts e he hlt)),Y.step.trans' W,hlow',hslots',hframe',hdef'⟩;rcases(jr O m).1 hd with h|h
   .exact hne h.symm
   .exact Y.notyet h
  ·-- the next act
   obtain⟨m',q1,q2,q3,q4⟩:=zp (l:=ops.toList) (ops.toList.length-(i+1)) (i+1) ac;obtain⟨g1,g2⟩:=cx.gap (m'-(i+1)) (i+1) ac (fun j h1 h2=>q4 j h1 ac);rw[show i+1+(m'-(i+1))=m' by omega]at g1 g2;have hst2:Step B nx0 G0 w0 (zc3 rs H' m') w' G':=by
    have:=Y.step.trans' W;exact⟨this.r.more g1 g2,this.ext,this.fr,this.new,this.low,eG this.mono g1,this.icy⟩
   have hact:∀e∈gB ops.toList,e<m'->ey (M.setIfInBounds i true) e:=fun e he hlt=>by
    by_cases h:e<i
    .exact(jr O e).2 (.inr (Y.acts e he h))
    .by_cases h2:e=i
     .exact(jr O e).2 (.inl h2)
     .exact(q4 e ac hlt he).elim
   refine hK _ _ m' G' ⟨by simpa using Y.size,hclosed',q2,q3,fun hd=>?_,hact,hst2,hlow',hslots',hframe',hdef'⟩;rcases(jr O m').1 hd with h|h
   .omega
   ·-- m' is done though i,an act before it,was not
    have hm'l:m'<ops.toList.length:=by
     rcases tM m' ops.toList.length with h3|h3
     .exact h3
     .unfold ey at h;rw[gF,zk (by rw[Y.size];exact h3)]at h;simp at h
    rcases q3 with e|e
    .omega
    .obtain⟨om,J,C⟩:=lb.1 e;rcases Y.act with e2|e2
     .omega
     .obtain⟨oi,hoi,hacti⟩:=lb.1 e2;rw[ho]at hoi;simp only[az]at hoi;subst hoi;exact A m' h om J (cx.calm.clash i m' o om ac ho J (by unfold Ab.clash;simp[hacti,C]))
 -- the range of m for the looks
 have hlo:∀e∈gB ops.toList,e∈(fu ops.toList []).getD i []->e<m:=fun e he hA=>by
  have hd:=L e hA;rcases tM e m with h|h
  .exact h
  .exfalso;rcases Y.act with e2|e2
   .have:=(lb.1 he);obtain⟨oe,hoe,_⟩:=this;have:=(dD.1 hoe).1;omega
   .by_cases e3:e=m
    .subst e3;exact Y.notyet hd
    .obtain⟨om,J,C⟩:=lb.1 e2;obtain⟨oe,hoe,hacte⟩:=lb.1 he;exact Y.notyet (zo cx.calm Y.closed e oe hoe (Y.closed e hd oe hoe) m (cx.calm.clash m e om oe ac J hoe (by unfold Ab.clash;simp[C,hacte])))
 have hhi:∀e∈gB ops.toList,i∈(fu ops.toList []).getD e []->m<=e:=fun e he hA=>by
  rcases tM e m with h|h
  .obtain⟨oe,hoe,_⟩:=lb.1 he;exact(A e (Y.acts e he h) oe hoe hA).elim
  .exact h
 unfold wpOp;rw[show ops[i]?=some o by rw[<-tE];exact ho];simp only[];have hnxm:nx0<=(zc3 rs H' m).next:=Y.step.mono
 have hsame:Step B nx0 G w (zc3 rs H' m) w G:=(i8 Y.step.r).weaken hnxm;have hstill:∀(v:Value) (w':World) (G':Gh),i≠m->VR G' r.val v->Step B (zc3 rs H' m).next G w (zc3 rs H' m) w' G'->K (a.put o.dst v) w':=fun v w' G' V hv W=>
  hfin v w' G' _ hv (W.weaken hnxm) (fun k p hk=>by
   rcases W.low k p hk with h|h
   .exact .inl h
   .have:=W.r.dom k p hk;omega) (.inl ⟨V,rfl⟩)
 have z:jG o=false->i≠m:=fun hna e=>by
  rcases Y.act with e2|e2
  .omega
  .obtain⟨om,J,C⟩:=lb.1 e2;rw[<-e,ho]at J;simp only[az]at J;subst J;rw[hna]at C;simp at C
 cases hd:r.did with
 |false=>
  have hw:Region.wanted o (yielded ops a.tmps)=false:=by rw[<-hwant,ha.want];exact hd
  rw[hw];simp only[cr,ck];obtain⟨hval,hheap⟩:=ha.no hd;by_cases V:i=m
  .subst V;exact hfin undef w G (zc3 rs H' (i+1)) (by rw[hval];exact tv G) (by rw[hheap];exact hsame) (fun k p hk=>.inl hk) (.inr ⟨rfl,rfl⟩)
  .exact hfin undef w G _ (by rw[hval];exact tv G) hsame (fun k p hk=>.inl hk) (.inl ⟨V,rfl⟩)
 |true=>
  have hw:Region.wanted o (yielded ops a.tmps)=true:=by rw[<-hwant,ha.want];exact hd
  rw[hw];simp only[bT];have hop:=ha.yes hd;refine .inl ?_;cases Z:zed o.op with
  |act=>
   have V:=hturn (by simp[jG,Z]);subst V;refine vU fit hih Y.step.r I hop fun v w' G' hv W=>?_;refine hfin v w' G' _ hv (W.weaken hnxm) (fun k p hk=>?_) (.inr ⟨rfl,rfl⟩);rcases W.low k p hk with h|h
   .exact .inl h
   .exact .inr ⟨h,W.r.dom k p hk⟩
  |calm=>
   have hnc:∀c,o.op≠.call c:=fun c e=>by
    rw[e]at Z;simp only[zed]at Z;split at Z<;>simp at Z
   have V:=z (by simp[jG,Z]);have hX:=(zg (P:=P) (by simp[nI,Z]) ((pK hnc).1 hop)).2 (zc3 rs H' m);have hop':zdA P B.cfg ih f (zd6 rs E' i) (zc3 rs H' m) o.op=.val r.val (zc3 rs H' m):=(pK hnc).2 hX;exact vU fit hih Y.step.r I hop' fun v w' G' hv W=>hstill v w' G' V hv W
  |read=>
   have V:=z (by simp[jG,Z]);have U:=cx.look i r hr hd m Y.act.symm hlo hhi;unfold zcH at U;rw[ha.eo,Z,ha.eE]at U;simp only[]at U;split at U
   .rename_i v1 H1 hop';have hv1:=AV.beq_eq U;subst hv1;have hH1:=zh (by simp[mz,Z]) hop';subst hH1;exact vU fit (Snd.fail P B) Y.step.r I hop' fun v w' G' hv W=>hstill v w' G' V hv W
   .simp at U
  |make=>
   have V:=z (by simp[jG,Z]);have hnc:∀c,o.op≠.call c:=fun c e=>by
    rw[e]at Z;simp only[zed]at Z;split at Z<;>simp at Z
   have hopA:=(pK hnc).1 hop;obtain⟨blk,obj,ext,v,hH1,hrun,hmade,hv⟩:=LC (P:=P) (w:=w) (by simp[ox,Z]) I hopA;have U:=cx.look i r hr hd m Y.act.symm hlo hhi;unfold zcH at U;rw[ha.eo,Z,ha.eH,ha.eH']at U;simp only[]at U;have hnext1:(zc3 rs H' (i+1)).next=(zc3 rs H' i).next+1:=by rw[hH1];rfl
   have hgetm:(zc3 rs H' m).get (zc3 rs H' i).next=some blk:=by
    split at U
    .rename_i b b' h1 h2;rw[HB.beq_eq U]at h1;rw[hH1,zcu,ax rfl]at h2;simp only[az]at h2;subst h2;exact h1
    .simp at U
   have hlt:i<m:=by
    rcases vW i m with h|h|h
    .exact h
    .exact(V h).elim
    .exfalso;rcases Y.act with e2|e2
     .omega
     .obtain⟨om,J,C⟩:=lb.1 e2;exact Y.notyet (L m (cx.calm.clash m i om o h J ho (by unfold Ab.clash;simp[C,ox,Z])))
   have hr0:(zc3 rs H' i).next<(zc3 rs H' m).next:=by
    have:=cx.nextMono (m-(i+1)) (i+1) (by have:=Y.le;omega);rw[show i+1+(m-(i+1))=m by omega]at this;omega
   have hnx0:nx0<=(zc3 rs H' i).next:=by
    have:=cx.nextMono i 0 ac;rw[bw,cx.zeroH,hnx]at this;exact this
   have hno:∀q,G.β (zc3 rs H' i).next=some q->False:=fun q hq=>by
    rcases Y.low _ q hq with h|⟨j,h1,h2,h3,h4⟩
    .omega
    .rcases vW j i with h|h|h
     .have:=cx.nextMono (i-(j+1)) (j+1) ac;rw[show j+1+(i-(j+1))=i by omega]at this;omega
     .subst h;exact hnot h1
     .have:=cx.nextMono (j-(i+1)) (i+1) ac;rw[show i+1+(j-(i+1))=j by omega]at this;omega
   have W:=CB Y.step.r hno hr0 hgetm hnx0 hmade;unfold Oper.wp;rw[hrun];refine hfin v _ _ _ (hv _ (jC _ _ _)) W (fun k p hk=>?_) (.inl ⟨V,rfl⟩);simp only[Gh.add]at hk;split at hk
   .rename_i e;exact .inr ⟨ac,ac⟩
   .exact .inl hk
theorem countP_set{M:Array Bool}{i:Nat}(C:i<M.size)(Y:M[i]=false):(M.setIfInBounds i true).toList.countP (·=false)+1=M.toList.countP (·=false):=by
 rw[CP,List.countP_set (by simpa using C)];have Z:M.toList[i]'(by simpa using C)=false:=tJ;have j:0<M.toList.countP (·=false):=List.countP_pos_iff.2 ⟨false,by rw[<-Z];exact dj _,aD⟩;rw[Z];simp only[kZ,bT,k2,f4,cr,ck];omega
theorem LQ(fit:Fit P){n:Nat}{ih:Task->Res}(z:Snd P B n ih){f N U:Nat}{ops:Array Oper}{g C:ao}{zc2 H':Hp}{rs:List Rec}(cx:Ctx P B.cfg ih f N ops.toList g zc2 C H' rs)(hnx:zc2.next=U){G0:Gh}{w0:World}
 (hE':zd6 rs C ops.toList.length=C) (hH':zc3 rs H' ops.toList.length=H') {Q:Exit->Act->World->Prop} (hQ:∀e a w,iP B N U G0 w0 .normal C H' e a w->Q e a w) :
 ∀(W:Nat) (M:Array Bool) (a:Act) (w:World) (m:Nat) (G:Gh),InvD rs ops.toList N B U g H' G0 w0 M a w m G->M.toList.countP (·=false)<=W->wpAny P .any ops Q W M a w:=by
 -- at the end all is done
 have O:∀(M:Array Bool) (a:Act) (w:World) (m:Nat) (G:Gh),InvD rs ops.toList N B U g H' G0 w0 M a w m G->Region.ready .any ops M=[]->Q .normal a w:=fun M a w m G Z V=>by
  have J:∀j,j<ops.toList.length->ey M j:=fun j=>by
   induction j using Nat.strongRecOn with
   |_ j ihj=>
    intro hj;have K:=aO hj;have I:j<M.size:=by rw[Z.size];exact hj
    cases hl:M[j]with
    |true=>
     unfold ey;rw[gF,mA I,hl];rfl
    |false=>
     exfalso;have:j∈Region.ready .any ops M:=jd.2 ⟨_,K,by rw[gF,mA I,hl];rfl,fun p hp=>by
      have hlt:=cx.calm.lt j _ K p hp;exact ihj p hlt ac⟩
     rw[V]at this;simp at this
  have hm:m=ops.toList.length:=by
   rcases Z.act with e|e
   .exact e
   .obtain⟨om,hom,_⟩:=lb.1 e;exact(Z.notyet (J m (dD.1 hom).1)).elim
  subst hm;have F:=Z.step;rw[hH']at F;refine hQ _ _ _ ⟨rfl,G,⟨Z.frame,fun t=>?_⟩,F,Z.defers⟩;have:=Z.slots.agree cx (t:=t) (aM _) (fun j oj hoj _=>⟨fun _=>(dD.1 hoj).1,fun h=>J j h⟩);rw[hE']at this;exact this
 intro W;induction W with
 |zero=>
  intro M a w m G Z hc;have V:Region.ready .any ops M=[]:=by
   apply tO.2;intro i A;obtain⟨o,K,L,_⟩:=jd.1 A;have Y:i<M.size:=C8;rw[gF,mA Y]at L;have:=countP_set Y ki;omega
  exact⟨V,O M a w m G Z V⟩
 |succ W ihf=>
  intro M a w m G Z hc;refine⟨fun V=>O M a w m G Z V,fun i A=>?_⟩;obtain⟨o,K,L,_⟩:=jd.1 A;have Y:i<M.size:=C8;rw[gF,mA Y]at L;have hcs:=countP_set Y ki;exact LP fit z cx hnx Z A (fun a' w' m' G' hI'=>ihf _ a' w' m' G' hI' ac)
theorem De(fit:Fit P){n:Nat}{ih:Task->Res}(J:Snd P B n ih){f N:Nat}{ops:Array Oper}{E F:ao}{H H':Hp}{G:Gh}{w:World}{x:AX}{a:Act}(hr:ze0 P B.cfg ih f N ops.toList E H=.done x F H')
 (h:R B H w G) (C:TR N G E a) (hd:a.defers=[]) {Q:Exit->Act->World->Prop} (hQ:∀e L K,iP B N H.next G w x F H' e L K->Q e L K):wpAny P .any ops Q ops.size (Array.replicate ops.size false) a {w with drawn:=w.drawn+1}:=by
 unfold ze0 at hr;split at hr
 .rename_i A;split at hr
  .rename_i E1 H1 rs Y;split at hr
   .rename_i U;simp only[Res.done.injEq]at hr;obtain⟨rfl,rfl,rfl⟩:=hr;have cx:=LO A Y U;have hlen:=cx.len;have V:zd6 rs E1 ops.toList.length=E1:=by unfold zd6;rw[fG ac]
    have o:zc3 rs H1 ops.toList.length=H1:=by unfold zc3;rw[fG ac]
    obtain⟨m,q1,q2,q3,I⟩:=zp (l:=ops.toList) ops.toList.length 0 ac;obtain⟨W,g⟩:=cx.gap m 0 ac (fun j _ O=>I j ac ac);rw[bw,cx.zeroH]at W g;have M:R B H {w with drawn:=w.drawn+1} G:=h.heap rfl;have i:Step B H.next G w (zc3 rs H1 m) {w with drawn:=w.drawn+1} G:=
     ⟨M.more W g,rg _,⟨rfl,rfl,rfl,aM _,fun _ _ _=>rfl⟩,pC _ _,fun _ _ h=>.inl h,W,fun _ _ _ h=>.inl h⟩
    have Z:∀j,¬ey (Array.replicate ops.size false) j:=fun j O=>by
     unfold ey at O;rw[gF,Da]at O;split at O<;>simp at O
    refine LQ fit J cx rfl V o hQ ops.size _ a _ m G
     ⟨aD,fun j O=>(Z j O).elim,q2,q3,Z m,fun e he z=>(I e (cK _) z he).elim,i,fun r p hr=>.inl (h.dom r p hr),fun t=>.inr ⟨fun j o' O=>(Z j O).elim,C.slots t⟩,C.size,hd⟩ ?_
    exact eG List.countP_le_length aD
   .simp at hr
  .simp at hr
 .simp at hr
end
def je(ops:Array Oper):List Nat->Array Bool->Prop
 |[],listed=>Region.ready .any ops listed=[]
 |i::L,listed=>i∈Region.ready .any ops listed/\je ops L (listed.setIfInBounds i true)
theorem Df{ops:Array Oper}:∀(W t:Nat) (M:Array Bool),M.size=ops.size->M.toList.countP (·=false)<=W->je ops (Region.linearise.go .any ops W t M []) M
 |0,t,M,hs,hc=>by
  show Region.ready .any ops M=[];apply tO.2;intro i C;obtain⟨o,J,L,_⟩:=jd.1 C;have V:i<M.size:=C9;rw[gF,mA V]at L;have:=countP_set V ki;omega
 |W+1,t,M,hs,hc=>by
  simp only[Region.linearise.go];change je ops (match (Region.ready .any ops M)[t%(Region.ready .any ops M).length]? with
   |some i=>Region.linearise.go .any ops W (t/(Region.ready .any ops M).length) (M.setIfInBounds i true) [i]
   |none=>[].reverse) M
  cases C:(Region.ready .any ops M)[t%(Region.ready .any ops M).length]? with
  |none=>
   show Region.ready .any ops M=[];cases hr:Region.ready .any ops M with
   |nil=>rfl
   |cons x Y=>
    rw[hr]at C;have z:t%(x::Y).length<(x::Y).length:=Nat.mod_lt _ aD;simp at C;simp at z;omega
  |some i=>
   simp only[];rw[linearise_go_acc,List.reverse_singleton,List.singleton_append];have Z:=jL C;refine⟨Z,Df W _ _ (by simpa using hs) ?_⟩;obtain⟨o,J,L,_⟩:=jd.1 Z;have V:i<M.size:=C9;rw[gF,mA V]at L;have:=countP_set V ki;omega
section
variable {P:Program} {Q:Exit -> Act -> World -> Prop}
theorem zr{ops:Array Oper}:∀(L:List Nat) (W:Nat) (M:Array Bool) (a:Act) (w:World),wpAny P .any ops Q W M a w->je ops L M->wpOps P ops Q L a w
 |[],0,M,a,w,h,_=>h.2
 |[],W+1,M,a,w,h,hv=>h.1 hv
 |i::L,0,M,a,w,h,hv=>by
  have Z:=hv.1;rw[h.1]at Z;simp at Z
 |i::L,W+1,M,a,w,h,hv=>by
  rw[wpOps_cons];exact wpOp_mono (fun a w F=>zr L W _ a w F hv.2) (h.2 i hv.1)
theorem LR{ops:Array Oper}{id:Nat}{a:Act}{w:World}(M:P.follows .mixedOrders=true)
 (h:∀L,je ops L (Array.replicate ops.size false)->wpOps P ops Q L a {w with drawn:=w.drawn+1}):(Code.region id ops true).wp P Q a w:=
 wp_region_draw fun t=>by
  simp only[Region.schedule,M,mC,bT];exact h _ (Df ops.size t _ aD (eG List.countP_le_length aD))
theorem zs{ops ops':Array Oper}{φ:Nat->Nat}:∀(L:List Nat) (a:Act) (w:World),
 (∀i∈L,∃o U,ops[i]?=some o/\ops'[φ i]?=some U/\(∃Y W,U={o with after:=Y,guard:=W})/\∀a:Act,Region.wanted U (yielded ops' a.tmps)=Region.wanted o (yielded ops a.tmps)) ->
 wpOps P ops' Q (L.map φ) a w->wpOps P ops Q L a w
 |[],_,_,_,h=>h
 |i::L,a,w,hr,h=>by
  rw[dJ,wpOps_cons]at h;rw[wpOps_cons];obtain⟨o,U,V,g,⟨Y,W,M⟩,K⟩:=hr i eW;have m:∀a w,wpOps P ops' Q (L.map φ) a w->wpOps P ops Q L a w:=fun a w=>zs L a w (fun j O=>hr j (e8 _ O));have Z:=wpOp_mono m h;unfold wpOp at Z⊢;rw[g]at Z;rw[V];simp only[]at Z⊢;rw[K a]at Z;subst M;exact Z
end
theorem vY(q p:Nat)(l:List Oper):(gC q p l).length=l.length:=by
 unfold gC;split<;>simp
theorem tP{q p:Nat}{l:List Oper}{i:Nat}{o:Oper}(h:l[i]?=some o):
 ∃U,(gC q p l)[i]?=some U/\(∃Y,U={o with after:=Y})/\(i≠q->U=o)/\∀j,j∈preds U↔j∈preds o\/(i=q/\j=p):=by
 unfold gC;have C:=(dD.1 h).1;by_cases e:i=q
 .subst e;rw[h];refine⟨_,List.getElem?_set_self C,⟨_,rfl⟩,fun m=>(m rfl).elim,fun j=>?_⟩;unfold preds;have:(o.after.push {on:=p,ground:=.data}).toList=o.after.toList++[{on:=p,ground:=.data}]:=aD;rw[this,List.filter_append,pL,tK];have g:(List.filter (Region.binds .any) [({on:=p,ground:=.data}:Edge)])=[{on:=p,ground:=.data}]:=rfl;rw[g];simp
 .have F:∀Z,(l.set q Z)[i]?=some o:=fun Z=>by rw[List.getElem?_set_ne (fun h=>e h.symm)];exact h
  split
  .exact⟨o,F _,⟨o.after,rfl⟩,fun _=>rfl,fun j=>⟨.inl,fun h=>h.elim id (fun h=>(e h.1).elim)⟩⟩
  .exact⟨o,h,⟨o.after,rfl⟩,fun _=>rfl,fun j=>⟨.inl,fun h=>h.elim id (fun h=>(e h.1).elim)⟩⟩
theorem Dg{q p:Nat}{l:List Oper}{i:Nat}{U:Oper}(h:(gC q p l)[i]?=some U):∃o,l[i]?=some o:=by
 have:=(dD.1 h).1;rw[vY]at this;exact⟨_,aO this⟩
theorem LS{q p:Nat}{l:List Oper}(j:Nat):((gC q p l)[j]?).bind (·.dst)=(l[j]?).bind (·.dst):=by
 cases h:l[j]? with
 |none=>
  rw[fG (by rw[vY];exact Db.1 h)]
 |some o=>
  obtain⟨U,i,⟨Y,rfl⟩,_⟩:=tP (q:=q) (p:=p) h;rw[i];rfl
theorem Dh{q p:Nat}{l:List Oper}{M:Array Bool}{i:Nat}(h:i∈Region.ready .any (gC q p l).toArray M):i∈Region.ready .any l.toArray M:=by
 obtain⟨U,Z,g,Y⟩:=jd.1 h;simp only[]at Z;obtain⟨o,J⟩:=Dg Z;obtain⟨V,W,_,_,I⟩:=tP (q:=q) (p:=p) J;rw[Z]at W;simp only[az]at W;subst W;exact jd.2 ⟨o,J,g,fun j O=>Y j ((I j).2 (.inl O))⟩
theorem tQ{q p:Nat}{l:List Oper}{M:Array Bool}{i:Nat}(h:i∈Region.ready .any l.toArray M)(V:i=q->M.getD p false=true):i∈Region.ready .any (gC q p l).toArray M:=by
 obtain⟨o,Z,g,Y⟩:=jd.1 h;simp only[]at Z;obtain⟨W,U,_,_,I⟩:=tP (q:=q) (p:=p) Z;refine jd.2 ⟨W,U,g,fun j O=>?_⟩;rcases(I j).1 O with h|⟨L,rfl⟩
 .exact Y j h
 .exact V L
theorem LU{M:Array Bool}{i p:Nat}(h:M.getD p false=true):(M.setIfInBounds i true).getD p false=true:=by
 simp only[gF,re]at *;split
 .split
  .rfl
  .rename_i Z g;subst Z;rw[zk ac]at h;simp at h
 .exact h
theorem zt{q p:Nat}{l:List Oper}:∀{L:List Nat}{M:Array Bool},M.getD p false=true->je l.toArray L M->je (gC q p l).toArray L M
 |[],M,_,hv=>by
  show Region.ready .any (gC q p l).toArray M=[];apply tO.2;intro i C;have:=Dh C;rw[show Region.ready .any l.toArray M=[]from hv]at this;simp at this
 |i::L,M,hd,hv=>⟨tQ hv.1 (fun _=>hd),zt (LU hd) hv.2⟩
theorem Di{p q:Nat}(Y:p≠q){l:List Oper}:∀{L:List Nat}{M:Array Bool},M.size=l.length->je l.toArray L M->je (gC q p l).toArray L M\/je (gC p q l).toArray L M
 |[],M,_,hv=>.inl <|by
  show Region.ready .any (gC q p l).toArray M=[];apply tO.2;intro i W;have:=Dh W;rw[show Region.ready .any l.toArray M=[]from hv]at this;simp at this
 |i::L,M,hs,hv=>by
  have V:i<M.size:=by
   obtain⟨o,J,_⟩:=jd.1 hv.1;rw[hs];exact(dD.1 J).1
  have C:(M.setIfInBounds i true).getD i false=true:=by
   simp[gF,V]
  by_cases Z:i=q
  .subst Z;exact .inr ⟨tQ hv.1 (fun e=>(Y e.symm).elim),zt C hv.2⟩
  .by_cases A:i=p
   .subst A;exact .inl ⟨tQ hv.1 (fun e=>(Z e).elim),zt C hv.2⟩
   .rcases Di Y (by simpa using hs) hv.2 with h|h
    .exact .inl ⟨tQ hv.1 (fun e=>(Z e).elim),h⟩
    .exact .inr ⟨tQ hv.1 (fun e=>(A e).elim),h⟩
theorem zu{ops:Array Oper}:∀{L:List Nat}{M:Array Bool},je ops L M->∀i∈L,∃o,ops.toList[i]?=some o
 |[],_,_,i,C=>by simp at C
 |j::L,M,hv,i,C=>by
  rcases fk.1 C with rfl|C
  .obtain⟨o,J,_⟩:=jd.1 hv.1;exact⟨o,J⟩
  .exact zu hv.2 i C
theorem Dj{P:Program}{Q:Exit->Act->World->Prop}{q p:Nat}{l:List Oper}{L:List Nat}{M:Array Bool}{a:Act}{w:World}(Z:je l.toArray L M)
 (h:wpOps P (gC q p l).toArray Q L a w):wpOps P l.toArray Q L a w:=by
 refine zs (ops':=(gC q p l).toArray) (φ:=id) L a w (fun i C=>?_) iQ;obtain⟨o,J⟩:=zu Z i C;simp only[]at J;obtain⟨U,W,⟨Y,rfl⟩,_⟩:=tP (q:=q) (p:=p) J;refine⟨o,_,by simpa using J,pB,⟨Y,o.guard,rfl⟩,fun a=>?_⟩;have K:yielded (gC q p l).toArray a.tmps=yielded l.toArray a.tmps:=funext fun j=>by
  unfold yielded;have:=LS (q:=q) (p:=p) (l:=l) j;simp only[List.getElem?_toArray,this]
 rw[K];rfl
structure PermD (ord:List Nat) (l:List Oper):Prop where
 len:ord.length=l.length
 bk:∀k:Nat,k<l.length->∃i,ord[k]?=some i/\i<l.length/\fO ord i=k
 lt:∀i:Nat,i<l.length->fO ord i<l.length/\ord[fO ord i]?=some i
 pre:∀(i:Nat) o,l[i]?=some o->(∀p∈preds o,p<l.length)/\∀j b,o.guard=some (j,b)->j<l.length
theorem LV{U:List Nat}{l:List Oper}(h:tj U l=true):PermD U l:=by
 unfold tj at h;simp only[dp,f9,jb]at h;obtain⟨⟨V,g⟩,O⟩:=h;refine⟨gD V,fun k Z=>?_,fun i C=>?_,fun i o J=>?_⟩
 .have:=(g k Z).1.1;split at this
  .rename_i i C;simp only[dp]at this;exact⟨i,C,by simpa [gE]using this.1,gD this.2⟩
  .simp at this
 .have M:=(g i C).1.2;have Y:=(g i C).2;refine⟨by simpa [gE]using M,?_⟩;split at Y
  .rename_i k Z;rw[Z,gD Y]
  .simp at Y
 .have:=O o (jL J);refine⟨fun p hp=>by simpa [gE]using this.1 p hp,fun j b W=>?_⟩;have A:=this.2;rw[W]at A;simpa [gE]using A
theorem Dk{M β:Type}{f:M->Option β}:∀{C:List M},(∀x∈C,(f x).isSome=true)->∀k:Nat,(C.filterMap f)[k]?=(C[k]?).bind f
 |[],_,k=>by simp
 |x::C,h,k=>by
  obtain⟨y,K⟩:=Option.isSome_iff_exists.1 (h x eW);rw[List.filterMap_cons_some K];cases k with
  |zero=>simp[K]
  |succ k=>simp[Dk (fun x F=>h x (e8 _ F)) k]
section
variable {ord:List Nat} {l:List Oper} (hp:PermD ord l)
include hp
theorem PermD.at'{i:Nat}{o:Oper}(h:l[i]?=some o):(zel ord l)[fO ord i]?=some (oy ord o):=by
 have C:=(dD.1 h).1;unfold zel;rw[Dk (fun x F=>?_)]
 .rw[(hp.lt i C).2];simp[h]
 .obtain⟨k,Y⟩:=zl.1 F;have j:k<l.length:=by rw[<-hp.len];exact(dD.1 Y).1
  obtain⟨m,Z,g,_⟩:=hp.bk k j;rw[Y]at Z;simp only[az]at Z;subst Z;rw[aO g];rfl
theorem PermD.length:(zel ord l).length=l.length:=by
 have:∀k,k<l.length->((zel ord l)[k]?).isSome=true:=fun k j=>by
  obtain⟨i,Z,g,o⟩:=hp.bk k j;have:=hp.at' (aO g);rw[o]at this;rw[this];rfl
 refine Nat.le_antisymm (eG (List.length_filterMap_le _ _) (by rw[hp.len];exact aM _)) ?_;rcases tM (zel ord l).length l.length with h|h
 .have:=this _ h;rw[fG (aM _)]at this;simp at this
 .exact h
theorem PermD.of{k:Nat}{U:Oper}(h:(zel ord l)[k]?=some U):∃i o,l[i]?=some o/\fO ord i=k/\U=oy ord o:=by
 have j:k<l.length:=by rw[<-hp.length];exact(dD.1 h).1
 obtain⟨i,Y,g,Z⟩:=hp.bk k j;have:=hp.at' (aO g);rw[Z,h]at this;simp only[az]at this;exact⟨i,_,aO g,Z,this⟩
theorem PermD.inj{i j:Nat}(C:i<l.length)(O:j<l.length)(h:fO ord i=fO ord j):i=j:=by
 have Z:=(hp.lt i C).2;rw[h,(hp.lt j O).2]at Z;simpa using Z.symm
theorem PermD.preds{o:Oper}:Ab.preds (oy ord o)=(Ab.preds o).map (fO ord):=by
 unfold Ab.preds oy;simp only[oD];rw[List.filter_map];have:(Region.binds .any ∘ fun e:Edge=>{e with on:=fO ord e.on})=Region.binds .any:=rfl;rw[this,List.filter_filter];simp only[pM,oD];rfl
def tR(U:List Nat)(l:List Oper)(x y:Array Bool):Prop:=x.size=l.length/\y.size=l.length/\∀i,i<l.length->y[fO U i]?=x[i]?
theorem tR.set{x y:Array Bool}(h:tR ord l x y){i:Nat}(C:i<l.length):tR ord l (x.setIfInBounds i true) (y.setIfInBounds (fO ord i) true):=by
 refine⟨by simpa using h.1,by simpa using h.2.1,fun j O=>?_⟩;simp only[re];by_cases e:i=j
 .subst e;rw[ax rfl,ax rfl,ax (by rw[h.2.1];exact(hp.lt i C).1),ax (by rw[h.1];exact C)]
 .rw[ah e,ah (fun V=>e (hp.inj C O V))];exact h.2.2 j O
theorem Dl{x y:Array Bool}(h:tR ord l x y){i:Nat}(C:i<l.length):fO ord i∈Region.ready .any (zel ord l).toArray y↔i∈Region.ready .any l.toArray x:=by
 have J:=aO C;have M:=hp.at' J;rw[jd,jd];simp only[];have hd:∀(j:Nat) (b:Bool),j<l.length->y.getD (fO ord j) b=x.getD j b:=fun j b O=>by
  simp only[gF,h.2.2 j O]
 constructor
 .rintro⟨U,W,Y,Z⟩;rw[M]at W;simp only[az]at W;subst W;refine⟨_,J,by rw[<-hd i true C];exact Y,fun p o=>?_⟩;rw[<-hd p false ((hp.pre i _ J).1 p o)];exact Z _ (by rw[hp.preds];exact List.mem_map_of_mem o)
 .rintro⟨U,W,Y,Z⟩;rw[J]at W;simp only[az]at W;subst W;refine⟨_,M,by rw[hd i true C];exact Y,fun p o=>?_⟩;rw[hp.preds]at o;obtain⟨L,F,rfl⟩:=mB.1 o;rw[hd L false ((hp.pre i _ J).1 L F)];exact Z L F
theorem Dm:∀{L:List Nat}{x y:Array Bool},tR ord l x y->je l.toArray L x->je (zel ord l).toArray (L.map (fO ord)) y
 |[],x,y,hs,hv=>by
  show Region.ready .any (zel ord l).toArray y=[];apply tO.2;intro k j;obtain⟨U,W,_⟩:=jd.1 j;simp only[]at W;obtain⟨i,o,Z,g,_⟩:=hp.of W;have C:=(dD.1 Z).1;rw[<-g]at j;have:=(Dl hp hs C).1 j;rw[show Region.ready .any l.toArray x=[]from hv]at this;simp at this
 |i::L,x,y,hs,hv=>by
  obtain⟨o,J,_⟩:=jd.1 hv.1;have C:i<l.length:=(dD.1 J).1;exact⟨(Dl hp hs C).2 hv.1,Dm (hs.set hp C) hv.2⟩
theorem LW{P:Program}{Q:Exit->Act->World->Prop}{L:List Nat}{M:Array Bool}{a:Act}{w:World}(Y:je l.toArray L M)
 (h:wpOps P (zel ord l).toArray Q (L.map (fO ord)) a w):wpOps P l.toArray Q L a w:=by
 refine zs (ops':=(zel ord l).toArray) (φ:=fO ord) L a w (fun i C=>?_) h;obtain⟨o,J⟩:=zu Y i C;simp only[]at J;have Z:=hp.at' J;refine⟨o,oy ord o,by simpa using J,rr,⟨_,_,rfl⟩,fun a=>?_⟩;unfold Region.wanted oy;cases A:o.guard with
 |none=>rfl
 |some W=>
  obtain⟨j,b⟩:=W;have O:=(hp.pre i o J).2 j b A;have z:=hp.at' (aO O);simp only[];unfold yielded;simp only[List.getElem?_toArray,z,aO O];rfl
end
theorem T.beq_eq{M:Type}{C:M->M->Bool}(L:∀a b,C a b=true->a=b):∀{x y:T M},T.beq C x y=true->x=y
 | .e,.e,_=>rfl
 | .e,.n _ _ _,h=>by simp[T.beq]at h
 | .n _ _ _,.e,h=>by simp[T.beq]at h
 | .n v l r,.n A j m,h=>by
   simp only[T.beq,dp]at h;rw[T.beq_eq L h.1.2,T.beq_eq L h.2];have i:=h.1.1;cases v<;>cases A <;>simp only[cr]at i
   .rfl
   .rw[L _ _ i]
theorem LX{ops:List Oper}{U M:ao}{O Z:Hp}(h:yw ops U M O Z=true):(∀o∈ops,∀d,o.dst=some d->U.at d=M.at d)/\O=Z:=by
 unfold yw at h;simp only[dp,f9]at h;refine⟨fun o J d hd=>?_,?_⟩
 .have:=h.1.1 o J;rw[hd]at this;exact AV.beq_eq this
 .have i:=gD h.1.2;have g:=T.beq_eq (fun a b=>HB.beq_eq) h.2;cases O;cases Z;simp only[]at i g;rw[i,g]
section
variable {P:Program} {B:Bs} {cfg:Cfg}
theorem LY{N t:Nat}{E U:ao}{j:Option Tmp}{v:AV}(h:dW N E j v=some U)(C:j≠some t):U.at t=E.at t:=by
 unfold dW at h;split at h
 .rename_i d;split at h
  .simp only[az]at h;rw[<-h,rh,ah (fun e=>C k7)]
  .simp at h
 .simp only[az]at h;rw[<-h]
theorem Dn{ih:Task->Res}{f N t:Nat}{C:List Oper}:∀{rs:List Rec}{l:List Oper}{E E':ao}{H H':Hp},ky P cfg ih f N C rs l E H E' H'->(∀o∈l,o.dst≠some t)->E'.at t=E.at t
 |[],[],_,_,_,_,h,_=>by rw[h.1]
 |[],_::_,_,_,_,_,h,_=>by simp[ky]at h
 |_::_,[],_,_,_,_,h,_=>by simp[ky]at h
 |r::rs,o::l,E,E',H,H',h,ht=>by
  obtain⟨_,_,_,_,_,_,E1,hp,I⟩:=h;rw[Dn I (fun o J=>ht o (e8 _ J)),LY hp (ht o eW)]
theorem Do{ih:Task->Res}{f N t:Nat}{ops:List Oper}{E F:ao}{H H':Hp}{x:AX}(h:ze0 P cfg ih f N ops E H=.done x F H')(C:∀o∈ops,o.dst≠some t):x=.normal/\F.at t=E.at t:=by
 unfold ze0 at h;split at h
 .split at h
  .rename_i E1 H1 rs Y;split at h
   .simp only[Res.done.injEq]at h;obtain⟨rfl,rfl,rfl⟩:=h;exact⟨rfl,Dn (tI Y) C⟩
   .simp at h
  .simp at h
 .simp at h
theorem LZ{U:List Nat}{l:List Oper}{o:Oper}(h:o∈zel U l):∃Z∈l,o.dst=Z.dst:=by
 unfold zel at h;rw[List.mem_filterMap]at h;obtain⟨i,_,g⟩:=h;split at g
 .rename_i Z J;simp only[az]at g;subst g;exact⟨Z,jL J,rfl⟩
 .simp at g
theorem Dp{q p:Nat}{l:List Oper}{o:Oper}(h:o∈gC q p l):∃U∈l,o.dst=U.dst:=by
 obtain⟨i,C⟩:=zl.1 h;obtain⟨J,Z⟩:=Dg C;obtain⟨V,W,⟨O,Y⟩,_⟩:=tP (q:=q) (p:=p) Z;rw[C]at W;simp only[az]at W;exact⟨J,jL Z,by rw[W,Y]⟩
theorem Dq{ops:List Oper}{zct r2:Res}{x:AX}{F:ao}{H':Hp}(h:px ops zct r2=.done x F H'):
 x=.normal/\zct=.done .normal F H'/\∃M,r2=.done .normal M H'/\∀o∈ops,∀d,o.dst=some d->F.at d=M.at d:=by
 unfold px at h;split at h
 .split at h
  .rename_i K;simp only[Res.done.injEq]at h;obtain⟨rfl,rfl,rfl⟩:=h;obtain⟨i,g⟩:=LX K;subst g;exact⟨rfl,rfl,_,rfl,i⟩
  .simp at h
 .simp at h
theorem zw{ih:Task->Res}{f N t:Nat}{E F:ao}{H H':Hp}{x:AX}:∀{Z:Plan}{ops:List Oper},zeF P cfg ih f N E H Z ops=.done x F H'->(∀o∈ops,o.dst≠some t)->F.at t=E.at t
 | .text,ops,h,ht=>(Do h ht).2
 | .perm ord,ops,h,ht=>by
   simp only[zeF]at h;split at h
   .exact(Do h (fun o J=>by obtain⟨U,i,g⟩:=LZ J;rw[g];exact ht U i)).2
   .simp at h
 | .split p q a b,ops,h,ht=>by
   simp only[zeF]at h;split at h
   .simp at h
   .obtain⟨_,i,_⟩:=Dq h;exact zw i (fun o J=>by obtain⟨U,i,g⟩:=Dp J;rw[g];exact ht U i)
theorem iP.same{N o:Nat}{G:Gh}{w:World}{x:AX}{U Z:ao}{H':Hp}(M:∀t,U.at t=Z.at t){e:Exit}{a:Act}{w':World}(h:iP B N o G w x Z H' e a w'):iP B N o G w x U H' e a w':=by
 obtain⟨i,Y,g,W,V⟩:=h;exact⟨i,Y,⟨g.size,fun t=>by rw[M];exact g.slots t⟩,W,V⟩
theorem zx(fit:Fit P){n:Nat}{ih:Task->Res}(J:Snd P B n ih){f N:Nat}{E:ao}{H:Hp}{G:Gh}{w:World}{a:Act}(h:R B H w G)(C:TR N G E a)(hd:a.defers=[]){Q:Exit->Act->World->Prop}:
 ∀(z:Plan) (l:List Oper) {E':ao}{H':Hp}{x:AX},zeF P B.cfg ih f N E H z l=.done x E' H'->(∀e M W,iP B N H.next G w x E' H' e M W->Q e M W)->∀L,je l.toArray L (Array.replicate l.length false) ->
  wpOps P l.toArray Q L a {w with drawn:=w.drawn+1}
 | .text,l,E',H',x,hr,hQ,L,hv=>zr L _ _ a _ (by
  have:=De (ops:=l.toArray) fit J hr h C hd hQ;simpa using this) hv
 | .perm ord,l,E',H',x,hr,hQ,L,hv=>by
   simp only[zeF]at hr;split at hr
   .rename_i hp;have hp:=LV hp;refine LW hp hv (zr _ _ _ a _ (De (ops:=(zel ord l).toArray) fit J hr h C hd hQ) ?_);refine Dm hp ⟨aD,by simp[hp.length],fun i K=>?_⟩ hv;have:=(hp.lt i K).1;simp[hp.length,K,this]
   .simp at hr
 | .split p q pa pb,l,E',H',x,hr,hQ,L,hv=>by
   simp only[zeF]at hr;split at hr
   .simp at hr
   .rename_i Y;have I:p≠q:=yA Y;obtain⟨rfl,F,j,g,h3⟩:=Dq hr;rcases Di I aD hv with m|V
    .exact Dj hv (zx fit J h C hd pa _ F hQ L (by rw[vY];exact m))
    .have U:∀t,E'.at t=j.at t:=fun t=>by
      by_cases C:∃o∈l,o.dst=some t
      .obtain⟨o,Z,hd⟩:=C;exact h3 o Z t hd
      .have O:∀o∈l,o.dst≠some t:=fun o Z hd=>C ⟨o,Z,hd⟩;have A:∀q p,∀o∈gC q p l,o.dst≠some t:=fun q p o Z=>by obtain⟨o',g1,g2⟩:=Dp Z;rw[g2];exact O o' g1
       rw[zw F (A _ _),zw g (A _ _)]
     exact Dj hv (zx fit J h C hd pb _ g (fun e M W hp=>hQ _ _ _ (iP.same U hp)) L (by rw[vY];exact V))
theorem L0(fit:Fit P){n:Nat}{ih:Task->Res}(J:Snd P B n ih){f N id:Nat}{ops:Array Oper}{E F:ao}{H H':Hp}{G:Gh}{w:World}{x:AX}{a:Act}{Z:Plan}(hr:zeF P B.cfg ih f N E H Z ops.toList=.done x F H')
 (h:R B H w G) (C:TR N G E a) (hd:a.defers=[]):Code.wp P (.region id ops true) (iP B N H.next G w x F H') a w:=by
 refine LR fit.mixed fun L Y=>?_;have:=zx fit J h C hd Z ops.toList hr (fun _ _ _ hp=>hp) L tJ;simpa using this
end
structure Grow (w:World) (F:Nat->Nat->Option Value) (w':World) (F':Nat->Nat->Option Value):Prop where
 below:Below w.heap.size w w'
 more:∀b o v,F b o=some v->F' b o=some v
 icy:∀b o v,F' b o=some v->F b o=some v\/w.heap.size<=b
 frz:∀b o v,F' b o=some v->w'.cell? ⟨b,o,none⟩=some v
def a9(P:Program)(ρ:Nat->Int)(f:FuncId)(args:List AV)(r:AV):Prop:=
 (∃m,P.funcs[f]?=some m/\m.body.isSome=true)/\∀(G:Gh) (w:World) (vs:List Value),G.ρ=ρ->(∀b o v,G.F b o=some v->w.cell? ⟨b,o,none⟩=some v)->bO G args vs ->
   Calls P f vs.toArray w (fun e W=>∃v Z,e=.returned v/\VR {G with F:=Z} r v/\Grow w G.F W Z)
def L1(P:Program)(B:Bs):Prop:=∀f args r,B.cfg.call f args=some r->a9 P B.ρ f args r
theorem zy{w w':World}(h:Below w.heap.size w w'){b o:Nat}(z:b<w.heap.size):w'.cell? ⟨b,o,none⟩=w.cell? ⟨b,o,none⟩/\w'.frozen? ⟨b,o,none⟩=w.frozen? ⟨b,o,none⟩:=
 ⟨by simp only[World.cell?,h.block b z],h.frozen (p:=⟨b,o,none⟩) z⟩
theorem R.grow{B:Bs}{H:Hp}{w w':World}{G:Gh}{Y:Nat->Nat->Option Value}(h:R B H w G)(g:Grow w G.F w' Y):Step B H.next G w H w' {G with F:=Y}:=by
 have V:Ext G {G with F:=Y}:=⟨fun _ _ h=>h,g.more,rfl⟩;have m:∀{b o:Nat}{v:Value},w.cell? ⟨b,o,none⟩=some v->w'.cell? ⟨b,o,none⟩=some v:=fun hc=>by rw[(zy g.below (k5 hc)).1];exact hc
 refine⟨?_,V,⟨g.below.os,g.below.tape,g.below.output,g.below.size,fun k J _=>g.below.block k J⟩,fun r b o x hr=>.inl hr,fun _ _ h=>.inl h,aM _,fun b o v L=>(g.icy b o v L).imp id fun z=>eG h.base z⟩;exact{
  base:=eG h.base g.below.size
  dom:=h.dom
  lt:=fun r b o x hr=>⟨(h.lt r b o x hr).1,fZ (h.lt r b o x hr).2 g.below.size⟩
  cells:=fun r b o x W imm O hr hc j c U=>by
   obtain⟨v,i,M⟩:=h.cells r b o x W imm O hr hc j c U;exact⟨v,m i,M.mono V⟩
  imm:=fun r b o x W imm O hr hc j U I=>let ⟨v,L⟩:=h.imm r b o x W imm O hr hc j U I;⟨v,g.more _ _ _ L⟩
  ext:=h.ext
  fits:=h.fits
  room:=fun r b o x W imm O hr hc j U I=>by
   obtain⟨⟨v,i⟩,M,A⟩:=h.room r b o x W imm O hr hc j U I;have z:=(h.lt r b o x hr).2;refine⟨⟨v,m i⟩,by rw[(zy g.below z).2];exact M,?_⟩;show Y b (o+j)=none;cases hF:Y b (o+j)with
   |none=>rfl
   |some u=>rcases g.icy _ _ _ hF with K|K
            ·rw[A]at K;simp at K
            .omega
  apart:=h.apart
  map:=fun r b o x C hr hc=>by
   obtain⟨ms,Z,i,M⟩:=h.map r b o x C hr hc;exact⟨ms,Z,by rw[g.below.block b (h.lt r b o x hr).2];exact i,M.mono V⟩
  mapApart:=h.mapApart
  frz:=g.frz
  val:=h.val
  sym:=h.sym}
theorem zA(z:Nat):∀(n:Nat) (l:List AV),(zdP z n l).length=n
 |0,_=>rfl
 |n+1,l=>by simp[zdP,zA z n]
theorem tS(z:Nat):∀(n:Nat) (l:List AV) (i:Nat) (Z:List AV),l.length=n*z->(zdP z n l)[i]?=some Z->Z.length=z/\∀(j:Nat) c,Z[j]?=some c->l[i*z+j]?=some c
 |0,_,i,Z,_,h=>by simp[zdP]at h
 |n+1,l,i,Z,hl,h=>by
  rw[k6,vX]at hl;simp only[zdP]at h;cases i with
  |zero=>
   simp at h;subst h;refine⟨ru,fun j c O=>?_⟩;rw[mq]at O;split at O
   .rw[tB,bw];exact O
   .simp at O
  |succ i=>
   obtain⟨Y,g⟩:=tS z n (l.drop z) i Z vV iQ;refine⟨Y,fun j c O=>?_⟩;have:=g j c O;rw[nD]at this;rw[k6,vX,show i*z+z+j=z+(i*z+j) by omega];exact this
theorem vZ{B:Bs}{w:World}{g:AV->Hp->Option (AV×Hp)}
 (A:∀(v:AV) (H:Hp) (q:AV) (H':Hp) (G:Gh) (x:Value),R B H w G->VR G v x->g v H=some (q,H')->∃Z,Step B H.next G w H' w Z/\VR Z q x) :
 ∀(W:List AV) (vs:List Value) (H:Hp) (F:List AV) (H':Hp) (G:Gh),R B H w G->bO G W vs->ii g W H=some (F,H')->∃Z,Step B H.next G w H' w Z/\bO Z F vs
 |[],vs,H,F,H',G,h,hv,hi=>by
  simp only[ii,ci]at hi;obtain⟨rfl,rfl⟩:=hi;exact⟨G,i8 h,hv⟩
 |c::W,[],H,F,H',G,h,hv,hi=>by have:=hv.1;simp at this
 |c::W,v::vs,H,F,H',G,h,hv,hi=>by
  simp only[ii]at hi;split at hi
  .rename_i d H1 i;split at hi
   .rename_i Y V U;simp only[ci]at hi;obtain⟨rfl,rfl⟩:=hi;obtain⟨O,M⟩:=hv.of_cons;obtain⟨L,I,zct⟩:=A c H d H1 G v h O i;obtain⟨K,J,r2⟩:=vZ A W vs H1 Y V L I.r (M.mono I.ext) U;exact⟨K,I.trans J,jJ (zct.mono J.ext) r2⟩
   .simp at hi
  .simp at hi
theorem v2{B:Bs}{w:World}:∀(n:Nat) (v:AV) (H:Hp) (q:AV) (H':Hp) (G:Gh) (x:Value),R B H w G->VR G v x->fw n v H=some (q,H')->∃G',Step B H.next G w H' w G'/\VR G' q x
 |0,_,_,_,_,_,_,_,_,h=>by simp[fw]at h
 |n+1,v,H,q,H',G,x,h,hv,C=>by
  unfold fw at C;split at C
  .rename_i r M W z;split at C
   .rename_i cs O tip g;split at C
    .rename_i L;simp only[dp]at L;have hle1:=tD L.1;have hle2:=tD L.2;split at C
     .rename_i l H1 J;simp only[ci]at C;obtain⟨rfl,rfl⟩:=C;cases hv with
      |sl hr hl hcx=>
       rename_i b o xx cap;have K:=h.cells r b o xx cs O tip hr g;have s1:=tx h hr g (n:=max O (M+W*z)) ac ac tip id;obtain⟨I,F,ho2⟩:=K.list;have hlen:((cs.drop M).take (W*z)).length=W*z:=by rw[iN,ik];omega
       obtain⟨G2,s2,r2⟩:=vZ (v2 n) _ ((I.drop M).take (W*z)) _ l H1 _ s1.r (((F.drop M).take (W*z)).mono s1.ext) J;refine⟨G2,s1.trans s2,?_⟩;have hll:l.length=W*z:=by
        have e1:=r2.1;have e2:=((F.drop M).take (W*z)).1;rw[hlen]at e2;omega
       have A:=zA z W l;have hovl:I.length=cs.length:=F.1.symm;have hat:∀m,m<W*z->∃v,I[M+m]?=some v/\G2.F b (o+M+m)=some v/\∀c,l[m]?=some c->VR G2 c v:=fun m hm=>by
        have V:M+m<I.length:=ac;refine⟨I[M+m],aO V,?_,fun c hc=>?_⟩
        .refine s2.ext.F _ _ _ ?_;have Z:=ho2 (M+m) I[M+m] (aO V);show(G.ice w b o (max O (M+W*z))).F b (o+M+m)=some I[M+m];simp only[Gh.ice];rw[<-gG]at Z;split
         .rename_i v' hv';have:=h.frz _ _ _ hv';rw[Z]at this;exact this.symm
         .rw[ax ⟨mp,ac,ac⟩];exact Z
        .refine r2.2 m c _ hc ?_;rw[mq,ax hm,nD];exact aO V
       have hin:∀i j,i<W->j<z->i*z+j<W*z:=fun i j C hj=>by
        calc i*z+j<i*z+z:=by omega
         _=(i+1)*z:=by rw[k6,vX]
         _<=W*z:=rz _ C
       have key:VR G2 (.lst (zdP z W l)) (.slice (some ⟨b,o+M,none⟩) (zdP z W l).length cap):=by
        refine .lst (fun i j=>(I[M+(i*z+j)]?).getD undef) (z:=z) (fun i U Y=>(tS z W l i U hll Y).1) (fun i j C hj=>?_) (fun i j U c Y hcj=>?_) (by rw[A];exact hl)
        .rw[A]at C;obtain⟨v,e1,e2,_⟩:=hat _ (hin i j C hj);rw[e1,gG (o+M)];exact e2
        .have hm:=(tS z W l i U hll Y).2 j c hcj;have V:=(dD.1 hm).1;obtain⟨v,e1,_,e3⟩:=hat (i*z+j) ac;rw[e1];exact e3 c hm
       rw[A]at key;exact key
     .simp at C
    .simp at C
   .simp at C
  .rename_i cs;split at C
   .rename_i ds H1 J;simp only[ci]at C;obtain⟨rfl,rfl⟩:=C;cases hv with
    |agg hl hvs=>
     obtain⟨G',s,r⟩:=vZ (v2 n) cs _ H ds H1 G h ⟨hl,hvs⟩ J;exact⟨G',s,.agg r.1 r.2⟩
   .simp at C
  .simp at C
  .simp at C
  .simp only[ci]at C;obtain⟨rfl,rfl⟩:=C;exact⟨G,i8 h,hv⟩
section
variable {P:Program} {B:Bs} {G:Gh} {H H':Hp} {w:World}
theorem Dr:∀(args:List AV) (i:Nat) (E:ao) (t:Nat),(zcr i args E).at t=if i<=t/\t<i+args.length then args.getD (t-i) zdx else E.at t
 |[],i,E,t=>by
  simp only[zcr,jo,my];rw[ah ac]
 |v::vs,i,E,t=>by
  simp only[zcr,Dr vs (i+1),dg];by_cases Z:i+1<=t/\t<i+1+vs.length
  .rw[ax Z,ax ac,show t-i=(t-(i+1))+1 by omega];rfl
  .rw[ah Z,rh];by_cases g:t=i
   .subst g;rw[ax rfl,ax ac];simp
   .rw[ah g,ah ac]
theorem zB:∀(d t:Nat),ao.at (tk d) t=zdx
 |0,_=>rfl
 |d+1,t=>by
  unfold ao.at tk;rw[pD];cases h:Nat.beq t 0 with
  |true=>rfl
  |false=>
   rw[ze1];cases g:Nat.beq (Nat.mod t 2) 1 with
   |true=>exact zB d _
   |false=>exact zB d _
theorem L2(N t:Nat):ao.at (py N) t=zdx:=zB _ _
theorem TR.start{args:List AV}{vs:List Value}(h:bO G args vs)(M:Nat):
 TR (max M args.length) G (zcr 0 args (py (max M args.length))) {tmps:=vs.toArray++Array.replicate (M-vs.toArray.size) undef,defers:=[] }:=by
 have I:=h.1;refine⟨co,fun t=>?_⟩;rw[Dr];simp only[cK,fH,bw,vL];by_cases C:t<args.length
 .rw[ax C];have Y:args.getD t zdx=args[t]:=by simp[List.getD,C]
  rw[Y];have:(vs.toArray++Array.replicate (M-vs.toArray.size) undef).getD t undef=vs[t]' ac:=by
   rw[gF,Array.getElem?_append_left co];simp[show t<vs.length by omega]
  rw[this];exact h.2 t _ _ (aO C) (aO ac)
 .rw[ah C,L2];have:(vs.toArray++Array.replicate (M-vs.toArray.size) undef).getD t undef=undef:=by
   rw[gF,Array.getElem?_append_right co];simp only[Da];split<;>rfl
  rw[this];exact tv G
theorem L3(h:R B H w G){N:Nat}{E:ao}{a:Act}(C:TR N G E a){r:ResultVar}{c:AV}(hr:zee P E H r=some c):
 ∃v,(match r with
  | .tmp t=>pure (a.tmps.getD t undef)
  | .cell x t=>do loadVar t (<-asAddr (a.tmps.getD x undef)):Sem Value).run P w=.ok v w/\VR G c v:=by
 cases r with
 |tmp t=>
  simp only[zee,az]at hr;subst hr;exact⟨_,rfl,C.slots t⟩
 |cell x t=>
  simp only[zee]at hr;have F:=C.slots x;obtain⟨v,i,g⟩:=CK (P:=P) h F hr;refine⟨v,?_,g⟩;show(do loadVar t (<-asAddr (a.tmps.getD x undef)):Sem Value).run P w=.ok v w;generalize a.tmps.getD x undef=Z at F i⊢;generalize E.at x=j at F hr;cases F<;>simp[zdZ]at hr<;>simpa [Instr.loadAt,Instr.sureAddr,asAddr]using i
theorem Ds(h:R B H w G){N:Nat}{E:ao}{a:Act}(C:TR N G E a):∀{rs:List ResultVar}{W:List AV},zd2 P E H rs=some W ->
 ∃vs,(rs.mapM (fun
  | .tmp t=>pure (a.tmps.getD t undef)
  | .cell x t=>do loadVar t (<-asAddr (a.tmps.getD x undef)):ResultVar->Sem Value)).run P w=.ok vs w/\bO G W vs
 |[],W,hr=>by
  simp only[zd2,az]at hr;subst hr;exact⟨[],aD,lL G⟩
 |r::rs,W,hr=>by
  simp only[zd2]at hr;split at hr
  .rename_i c m i g;simp only[az]at hr;subst hr;obtain⟨v,Z,Y⟩:=L3 (P:=P) h C i;obtain⟨vs,zdc,zc8⟩:=Ds h C g;refine⟨v::vs,?_,jJ Y zc8⟩;rw[List.mapM_cons];simp only[dI,Z,dN,zdc,il]
  .simp at hr
theorem Dt(h:R B H w G){N:Nat}{E:ao}{a:Act}(C:TR N G E a){fn:Func}{r:AV}(hr:qX P fn.results.toList E H=.val r H'):
 H'=H/\∃v,(results fn a.tmps).run P w=.ok v w/\VR G r v:=by
 unfold qX at hr;split at hr
 .rename_i V Z;simp only[Res.val.injEq]at hr;obtain⟨rfl,rfl⟩:=hr;obtain⟨vs,i,g⟩:=Ds (P:=P) h C Z;refine⟨rfl,?_⟩;have Y:(results fn a.tmps).run P w=.ok (if h:vs.toArray.size=1 then vs.toArray[0]else .tuple vs.toArray) w:=by
   unfold results;rw[Array.mapM_eq_mapM_toList];simp only[dI,Sem.run_map];exact ku (fun r:Result (List Value)=>(r.andThen fun a W=>Result.ok a.toArray W).andThen fun a W=>Sem.run P (pure (if h:a.size=1 then a[0]else Value.tuple a)) W) i
  refine⟨_,Y,?_⟩
  match V,vs,g with
  |[],[],g=>exact .tup (vs:=[]) rfl aD
  |[c],[v],g=>exact g.of_cons.1
  |c::c'::V,v::v'::vs,g=>
   have:¬(v::v'::vs).toArray.size=1:=aD;rw[dif_neg this];exact .tup g.1 g.2
  |[],_::_,g=>have:=g.1;simp at this
  |[_],[],g=>have:=g.1;simp at this
  |[_],_::_::_,g=>have:=g.1;simp at this
  |_::_::_,[],g=>have:=g.1;simp at this
  |_::_::_,[_],g=>have:=g.1;simp at this
 .simp at hr
theorem zC(U:Fit P){n:Nat}{ih:Task->Res}(J:Snd P B n ih){f:FuncId}{args:List AV}{r:AV}(K:ze6 P ih f args H=.val r H'){vs:List Value}(h:R B H w G)(M:bO G args vs):
 (∃m,P.funcs[f]?=some m/\m.body.isSome=true)/\Calls P f vs.toArray w (fun e V=>∃v Z,e=.returned v/\VR Z r v/\Step B H.next G w H' V Z):=by
 unfold ze6 at K;split at K
 .rename_i m Y;split at K
  .rename_i c hc;refine⟨⟨m,Y,by rw[hc];rfl⟩,calls_of_wp Y hc ?_⟩;have W:=TR.start M m.ntmps;split at K
   .rename_i E1 H1 O;refine oC (fun e I V L=>?_) (J.code _ _ _ _ _ _ _ _ O G w _ h W rfl);obtain⟨rfl,Z,j,o,hd⟩:=L;obtain⟨rfl,v,i,g⟩:=Dt (P:=P) o.r j K;exact⟨hd,v,i,v,Z,rfl,g,o⟩
   .rename_i E1 H1 O;refine oC (fun e I V L=>?_) (J.code _ _ _ _ _ _ _ _ O G w _ h W rfl);obtain⟨rfl,Z,j,o,hd⟩:=L;obtain⟨rfl,v,i,g⟩:=Dt (P:=P) o.r j K;exact⟨hd,v,i,v,Z,rfl,g,o⟩
   .simp at K
  .simp at K
 .simp at K
theorem zD{n:Nat}{ih:Task->Res}(Z:Snd P B n ih){f N:Nat}{b:Code}{r:Res}{x:AX}{F:ao}(K:kX ih f N b r=.done x F H'):
 ∃U E1 H1,r=.done U E1 H1/\((U=.normal/\ih (.code f N b E1 H1)=.done x F H')\/(U≠.normal/\x=U/\F=E1/\H'=H1)):=by
 unfold kX at K;split at K
 .rename_i E1 H1;exact⟨.normal,E1,H1,rfl,.inl ⟨rfl,K⟩⟩
 .rename_i I;subst K;exact⟨x,F,H',rfl,.inr ⟨fun e=>by subst e;exact I _ _ rfl,rfl,rfl,rfl⟩⟩
theorem L4(fit:Fit P){n:Nat}{ih:Task->Res}(J:Snd P B n ih){f N:Nat}{c:Code}{E:ao}{x:AX}{F:ao}(K:step P B.cfg ih (.code f N c E H)=.done x F H')
 {a:Act} (h:R B H w G) (C:TR N G E a) (hd:a.defers=[]):Code.wp P c (iP B N H.next G w x F H') a w:=by
 cases c with
 |skip=>
  simp only[step,Res.done.injEq]at K;obtain⟨rfl,rfl,rfl⟩:=K;exact wp_skip ⟨rfl,G,C,i8 h,hd⟩
 |region id ops draw=>
  cases draw with
  |false=>
   exact wp_region_list (zd fit J ops.toList K h C hd (fun _ _ _ hp=>hp))
  |true=>exact L0 fit J K h C hd
 |seq p q=>
  obtain⟨V,E1,H1,i,g⟩:=zD J K;refine wp_seq (oC (fun e M W L=>?_) (J.code _ _ _ _ _ _ _ _ i G w a h C hd));obtain⟨rfl,Z,j,o,U⟩:=L;rcases g with⟨rfl,g⟩|⟨I,rfl,rfl,rfl⟩
  .exact oC (fun e a w L=>vT o L) (J.code _ _ _ _ _ _ _ _ g Z W M o.r j U)
  .cases x with
   |normal=>exact(I rfl).elim
   |exit id=>exact⟨rfl,Z,j,o,U⟩
   |ret=>exact⟨rfl,Z,j,o,U⟩
 |cond y p q=>
  simp only[step,pz]at K;split at K
  .rename_i Y;have z:=zb C Y;have:a.eval y=.bool true:=by generalize a.eval y=v at z;cases z;rfl
   exact wp_cond_true this (J.code _ _ _ _ _ _ _ _ K G w a h C hd)
  .rename_i Y;have z:=zb C Y;have:a.eval y=.bool false:=by generalize a.eval y=v at z;cases z;rfl
   exact wp_cond_false this (J.code _ _ _ _ _ _ _ _ K G w a h C hd)
  .simp at K
 |block id p=>
  simp only[step]at K;cases i:ih (.code f N p E H)with
  |done V E1 H1=>
   rw[i]at K;refine wp_block (oC (fun e M W L=>?_) (J.code _ _ _ _ _ _ _ _ i G w a h C hd));obtain⟨rfl,Z,j,o,U⟩:=L;cases V with
   |normal=>
    simp only[ze3,Res.done.injEq]at K;obtain⟨rfl,rfl,rfl⟩:=K;exact⟨rfl,Z,j,o,U⟩
   |ret=>
    simp only[ze3,Res.done.injEq]at K;obtain⟨rfl,rfl,rfl⟩:=K;exact⟨rfl,Z,j,o,U⟩
   |exit O=>
    simp only[ze3]at K;cases z:Nat.beq O id with
    |true=>
     rw[z]at K;simp only[Res.done.injEq]at K;obtain⟨rfl,rfl,rfl⟩:=K;have:=gD z;subst this;simp only[yZ,Exit.inBlock,bT];exact⟨rfl,Z,j,o,U⟩
    |false=>
     rw[z]at K;simp only[Res.done.injEq]at K;obtain⟨rfl,rfl,rfl⟩:=K;have:=yA z;simp only[yZ,Exit.inBlock];rw[ah this];exact⟨rfl,Z,j,o,U⟩
  |val v H1=>rw[i]at K;simp[ze3]at K
  |fail=>rw[i]at K;simp[ze3]at K
 |loop p=>
  refine wp_loop_rounds (n+1) ?_;rw[rounds_succ];obtain⟨V,E1,H1,i,g⟩:=zD J K;refine oC (fun e M W L=>?_) (J.code _ _ _ _ _ _ _ _ i G w a h C hd);obtain⟨rfl,Z,j,o,U⟩:=L;rcases g with⟨rfl,g⟩|⟨I,rfl,rfl,rfl⟩
  .exact za (fun e a w L=>vT o L) (J.loop _ _ _ _ _ _ _ _ g Z W M o.r j U)
  .cases x with
   |normal=>exact(I rfl).elim
   |exit id=>exact⟨rfl,Z,j,o,U⟩
   |ret=>exact⟨rfl,Z,j,o,U⟩
 |exit id=>
  simp only[step,Res.done.injEq]at K;obtain⟨rfl,rfl,rfl⟩:=K;exact wp_exit ⟨rfl,G,C,i8 h,hd⟩
 |ret=>
  simp only[step,Res.done.injEq]at K;obtain⟨rfl,rfl,rfl⟩:=K;exact wp_ret ⟨rfl,G,C,i8 h,hd⟩
 |rangeFunc _ _ _ _=>simp[step]at K
 |scope _=>simp[step]at K
 |label _=>simp[step]at K
 |goto _=>simp[step]at K
 |refuse _=>simp[step]at K
theorem L5(K:Fit P){n:Nat}{ih:Task->Res}(J:Snd P B n ih){f N:Nat}{c:Code}{E:ao}{x:AX}{F:ao}(Y:step P B.cfg ih (.code f N (.loop c) E H)=.done x F H')
 {a:Act} (h:R B H w G) (C:TR N G E a) (hd:a.defers=[]):Code.rounds P c (iP B N H.next G w x F H') (n+1) a w:=by
 rw[rounds_succ];obtain⟨V,E1,H1,i,g⟩:=zD J Y;refine oC (fun e M W L=>?_) (J.code _ _ _ _ _ _ _ _ i G w a h C hd);obtain⟨rfl,Z,j,o,U⟩:=L;rcases g with⟨rfl,g⟩|⟨I,rfl,rfl,rfl⟩
 .exact za (fun e a w L=>vT o L) (J.loop _ _ _ _ _ _ _ _ g Z W M o.r j U)
 .cases x with
  |normal=>exact(I rfl).elim
  |exit id=>exact⟨rfl,Z,j,o,U⟩
  |ret=>exact⟨rfl,Z,j,o,U⟩
theorem Du(fit:Fit P)(j:L1 P B):∀n,Snd P B n (zdp P B.cfg n)
 |0=>⟨fun _ _ _ _ _ h=>by simp[zdp]at h,fun _ _ _ _ _ _ _ _ h=>by simp[zdp]at h,fun _ _ _ _ _ _ _ _ h=>by simp[zdp]at h⟩
 |n+1=>by
  have J:=Du fit j n;have he:zdp P B.cfg (n+1)=step P B.cfg (zdp P B.cfg n):=rfl;rw[he];refine⟨fun f args H r H' K G w vs h L=>?_,fun f N c E H x E' H' K G w a h C hd=>L4 fit J K h C hd,fun f N c E H x E' H' K G w a h C hd=>L5 fit J K h C hd⟩;have V:∀{G:Gh}{args:List AV}{vs:List Value}{H:Hp}{U:AV},B.cfg.call f args=some U->R B H w G->bO G args vs ->
   (∃M,P.funcs[f]?=some M/\M.body.isSome=true)/\Calls P f vs.toArray w (fun e W=>∃v Z,e=.returned v/\VR Z U v/\Step B H.next G w H W Z):=fun{G args vs H U} hr h L=>by
   obtain⟨i,g⟩:=j f args U hr;refine⟨i,(g G w vs h.val h.frz L).mono fun e W O=>?_⟩;obtain⟨v,F',rfl,Y,hg⟩:=O;exact⟨v,_,rfl,Y,h.grow hg⟩
  have m:∀{G:Gh}{args:List AV}{vs:List Value}{H H':Hp}{r:AV},kY P B.cfg (zdp P B.cfg n) f args H=.val r H'->R B H w G->bO G args vs ->
   (∃M,P.funcs[f]?=some M/\M.body.isSome=true)/\Calls P f vs.toArray w (fun e W=>∃v Z,e=.returned v/\VR Z r v/\Step B H.next G w H' W Z):=fun{G args vs H H' r} K h L=>by
   unfold kY at K;split at K
   .unfold tl at K;split at K
    .rename_i F H1 I;split at K
     .rename_i U hr;simp only[Res.val.injEq]at K;obtain⟨rfl,rfl⟩:=K;obtain⟨G1,s1,zct⟩:=vZ (v2 100) args vs H F H1 G h L I;obtain⟨i,g⟩:=V hr s1.r zct;refine⟨i,g.mono fun e W O=>?_⟩;obtain⟨v,Z,rfl,Y,o⟩:=O;exact⟨v,Z,rfl,Y,s1.trans o⟩
     .exact zC fit J K h L
    .exact zC fit J K h L
   .exact zC fit J K h L
  simp only[step]at K;split at K
  .rename_i U hr;simp only[Res.val.injEq]at K;obtain⟨rfl,rfl⟩:=K;exact V hr h L
  .unfold qY at K;split at K
   .rename_i v1 H1 hz A;obtain⟨g1,g2⟩:=m A h L;refine⟨g1,g2.mono fun e W O=>?_⟩;obtain⟨v,Z,rfl,Y,o⟩:=O;cases z:fw 100 v1 H1 with
    |none=>rw[z]at K;simp[zec]at K
    |some p=>
     obtain⟨q,H2⟩:=p;rw[z]at K;simp only[zec,Res.val.injEq]at K;obtain⟨rfl,rfl⟩:=K;obtain⟨G2,s2,r2⟩:=v2 100 v1 H1 _ _ Z v o.r Y z;exact⟨v,G2,rfl,r2,o.trans s2⟩
   .exact m K h L
end
open Go Go.RowKit Go.WideShapes Go.ChangeShapes
theorem L6(r:Nat):zc2.get r=none:=rfl
theorem R.start{w:World}{G:Gh}{cfg:Cfg}(i:∀b o v,G.F b o=some v->w.cell? ⟨b,o,none⟩=some v)(z:∀r,G.β r=none)(L:kj cfg.dec G.ρ):R ⟨w.heap.size,G.ρ,cfg⟩ zc2 w G:=by
 refine⟨aM _,?_,?_,?_,?_,?_,?_,?_,?_,?_,i,rfl,L,?_⟩<;>intros<;>simp_all
theorem rC{g:AV->Option AV}:∀{W F:List AV},iceL g W=some F->F.length=W.length/\∀(i:Nat) d,F[i]?=some d->∃c,W[i]?=some c/\g c=some d
 |[],F,h=>by
  simp only[iceL,az]at h;subst h;exact⟨rfl,aD⟩
 |c::W,F,h=>by
  simp only[iceL]at h;split at h
  .rename_i d Z Y V;simp only[az]at h;subst h;obtain⟨o,U⟩:=rC V;refine⟨by simp[o],fun i e L=>?_⟩;cases i with
   |zero=>simp at L;subst L;exact⟨c,rfl,Y⟩
   |succ i=>exact U i e ki
  .simp at h
theorem Dv{g:AV->Option AV}:∀{W F:List (List AV)},oz g W=some F->F.length=W.length/\∀(i:Nat) d,F[i]?=some d->∃c,W[i]?=some c/\iceL g c=some d
 |[],F,h=>by
  simp only[oz,az]at h;subst h;exact⟨rfl,aD⟩
 |c::W,F,h=>by
  simp only[oz]at h;split at h
  .rename_i d Z Y V;simp only[az]at h;subst h;obtain⟨o,U⟩:=Dv V;refine⟨by simp[o],fun i e L=>?_⟩;cases i with
   |zero=>simp at L;subst L;exact⟨c,rfl,Y⟩
   |succ i=>exact U i e ki
  .simp at h
theorem tT{H:Hp}{G G2:Gh}{w:World}(C:G2.ρ=G.ρ)(hF:∀b o v,G.F b o=some v->G2.F b o=some v)
 (Z:∀r b o x A imm tip,G.β r=some (b,o,x)->H.get r=some (.cells A imm tip)->ge G w b o A/\∀j v,w.cell? ⟨b,o+j,none⟩=some v->G2.F b (o+j)=some v) :
 ∀(n:Nat) (v:AV) (x:Value) (q:AV),VR G v x->iceV H n v=some q->VR G2 q x
 |0,_,_,_,_,h=>by simp[iceV]at h
 |n+1,v,x,q,hv,h=>by
  have F:∀{A ds:List AV}{vs:List Value},bO G A vs->iceL (iceV H n) A=some ds->bO G2 ds vs:=fun{A ds vs} U g=>by
   obtain⟨h1,h2⟩:=rC g;refine⟨by rw[h1];exact U.1,fun i d u hd hu=>?_⟩;obtain⟨c,hc,hcd⟩:=h2 i d hd;exact tT C hF Z n c u d (U.2 i c u hc hu) hcd
  cases hv with
  |int k a=>simp only[iceV,az]at h;subst h;exact .int _ _
  |sx k e=>simp only[iceV,az]at h;subst h;rw[<-C];exact .sx _ _
  |bool b=>simp only[iceV,az]at h;subst h;exact .bool _
  |str s l hs=>simp only[iceV,az]at h;subst h;exact .str _ _ hs
  |nilP=>simp only[iceV,az]at h;subst h;exact .nilP
  |nilM=>simp only[iceV,az]at h;subst h;exact .nilM
  |nilF=>simp only[iceV,az]at h;subst h;exact .nilF
  |nilS=>simp only[iceV,az]at h;subst h;exact .nilS
  |ptr _=>simp[iceV]at h
  |iptr _ _ _=>simp[iceV]at h
  |map _=>simp[iceV]at h
  |clo _ _=>simp[iceV]at h
  |agg hl U=>
   simp only[iceV]at h;split at h
   .rename_i ds hds;simp only[az]at h;subst h;have:=F ⟨hl,U⟩ hds;exact .agg this.1 this.2
   .simp at h
  |tup hl U=>
   simp only[iceV]at h;split at h
   .rename_i ds hds;simp only[az]at h;subst h;have:=F ⟨hl,U⟩ hds;exact .tup this.1 this.2
   .simp at h
  |lst0 a cap=>
   simp only[iceV,oz,az]at h;subst h;exact .lst0 _ _
  |lst vs hz hFx hvx hc=>
   rename_i xs b o cap z;simp only[iceV]at h;split at h
   .rename_i ys hys;simp only[az]at h;subst h;obtain⟨h1,h2⟩:=Dv hys;rw[<-h1];refine .lst vs (z:=z) (fun i W hr=>?_) (fun i j g hj=>hF _ _ _ (hFx i j (by rw[<-h1];exact g) hj)) (fun i j W c hr hcj=>?_) (by rw[h1];exact hc)
    .obtain⟨c,J,hc2⟩:=h2 i W hr;rw[(rC hc2).1];exact hz i c J
    .obtain⟨c0,J,hc2⟩:=h2 i W hr;obtain⟨c1,hc3,hc4⟩:=(rC hc2).2 j c hcj;exact tT C hF Z n c1 (vs i j) c (hvx i j c0 c1 J hc3) hc4
   .simp at h
  |sl hr hl hcx=>
   rename_i r M V z b o xx cap;simp only[iceV]at h;split at h
   .rename_i A imm tip hg;split at h
    .rename_i l hil;split at h
     .rename_i K;simp only[az]at h;subst h;obtain⟨hh,hnew⟩:=Z r b o xx A imm tip hr hg;obtain⟨h1,h2⟩:=rC hil;have Y:∀(m:Nat) c,l[m]?=some c->∃v,w.cell? ⟨b,o+M+m,none⟩=some v/\VR G2 c v:=fun m c hm=>by
       obtain⟨c0,I,J⟩:=h2 m c hm;rw[mq]at I;split at I
       .rw[nD]at I;obtain⟨v,O,hv2⟩:=hh _ _ I;exact⟨v,by rw[gG];exact O,tT C hF Z n c0 v c hv2 J⟩
       .simp at I
      have hlc:=zA z V l;have hin:∀i j,i<V->j<z->i*z+j<l.length:=fun i j g hj=>by
       rw[K]
       calc i*z+j<i*z+z:=by omega
        _=(i+1)*z:=by rw[k6,vX]
        _<=V*z:=rz _ g
      have key:VR G2 (.lst (zdP z V l)) (.slice (some ⟨b,o+M,none⟩) (zdP z V l).length cap):=by
       refine .lst (fun i j=>(w.cell? ⟨b,o+M+(i*z+j),none⟩).getD undef) (z:=z) (fun i W L=>(tS z V l i W K L).1) (fun i j g hj=>?_) (fun i j W c L hcj=>?_) (by rw[hlc];exact hl)
       .rw[hlc]at g;have hm:=hin i j g hj;obtain⟨v,O,_⟩:=Y (i*z+j) _ (aO hm);rw[O];have:=hnew (M+(i*z+j)) v (by rw[<-gG];exact O);rw[show o+M+i*z+j=o+(M+(i*z+j)) by omega];exact this
       .have hm:=(tS z V l i W K L).2 j c hcj;obtain⟨v,O,hv2⟩:=Y (i*z+j) c hm;rw[O];exact hv2
      rw[hlc]at key;exact key
     .simp at h
    .simp at h
   .simp at h
theorem L7(w:World){G G2:Gh}(Z:G2.ρ=G.ρ)(g:∀b o v,G.F b o=some v->G2.F b o=some v){m:Nat}{args:List AV}(h:nB m args=true){vs:List Value}(W:bO G args vs):bO G2 args vs:=by
 unfold nB at h;split at h
 .rename_i M C;have:=zfa h;subst this;obtain⟨I,K⟩:=rC C;refine⟨W.1,fun i c v hc A=>?_⟩;obtain⟨c0,L,Y⟩:=K i c hc;rw[hc]at L;simp only[az]at L;subst L;exact tT (H:=zc2) (w:=w) Z g (fun r b o x J V O _ U=>by simp[L6]at U) m c v c (W.2 i c v hc A) Y
 .simp at h
theorem zE{P:Program}{ih:Task->Res}{f:FuncId}{args:List AV}{H H':Hp}{r:AV}(h:ze6 P ih f args H=.val r H'):∃m,P.funcs[f]?=some m/\m.body.isSome=true:=by
 unfold ze6 at h;split at h
 .rename_i m Z;split at h
  .rename_i c z;exact⟨m,Z,by simp[z]⟩
  .simp at h
 .simp at h
theorem L8{P:Program}{cfg:Cfg}{ρ:Nat->Int}(O:∀f args r,cfg.call f args=some r->a9 P ρ f args r){n:Nat}{f:FuncId}{args:List AV}{H H':Hp}{r:AV}(h:zdp P cfg n (.call f args H)=.val r H'):
 ∃Z,P.funcs[f]?=some Z/\Z.body.isSome=true:=by
 cases n with
 |zero=>simp[zdp]at h
 |succ n=>
  have W:zdp P cfg (n+1)=step P cfg (zdp P cfg n):=rfl;rw[W]at h;simp only[step]at h;split at h
  .rename_i Y hr;exact(O f args Y hr).1
  .have m:∀{r:AV}{H':Hp},kY P cfg (zdp P cfg n) f args H=.val r H'->∃Z,P.funcs[f]?=some Z/\Z.body.isSome=true:=fun{r H'} h=>by
    unfold kY at h;split at h
    .unfold tl at h;split at h
     .split at h
      .rename_i hr;exact(O _ _ _ hr).1
      .exact zE h
     .exact zE h
    .exact zE h
   unfold qY at h;split at h
   .rename_i L;exact m L
   .exact m h
theorem zF{P:Program}(fit:Fit P){cfg:Cfg}{ρ:Nat->Int}(M:kj cfg.dec ρ)(U:∀f args r,cfg.call f args=some r->a9 P ρ f args r){n m k:Nat}{f:FuncId}{args:List AV}{r:AV}
 (J:nB k args=true) (h:tm P cfg n m f args=some r):a9 P ρ f args r:=by
 unfold tm at h;split at h
 .rename_i v0 H' F;refine⟨L8 U F,fun G w vs Y Z L=>?_⟩;subst Y;have z:bO {G with β:=fun _=>none} args vs:=L7 w (G:=G) (G2:={G with β:=fun _=>none}) rfl (fun _ _ _ h=>h) J L;have V:R ⟨w.heap.size,G.ρ,cfg⟩ zc2 w {G with β:=fun _=>none}:=R.start (G:={G with β:=fun _=>none}) Z (fun _=>rfl) M;refine((Du (B:=⟨w.heap.size,G.ρ,cfg⟩) fit U n).call f args zc2 _ H' F _ w vs V z).2.mono fun e W C=>?_;obtain⟨x,G',rfl,hx,K⟩:=C;have I:Below w.heap.size w W:=⟨K.fr.os,K.fr.tape,K.fr.output,K.fr.size,fun k A=>K.fr.block k A (fun r b o x hr=>by simp at hr)⟩;refine⟨x,fun b o=>if b<w.heap.size then G.F b o else W.cell? ⟨b,o,none⟩,rfl,?_,I,fun b o v L=>?_,fun b o v L=>?_,fun b o v L=>?_⟩
  .refine tT (G:=G') (w:=W) (H:=H') ?_ (fun b o v L=>?_) (fun r b o x cs g O hr hg=>?_) m v0 x r hx h
   .exact K.ext.ρ.symm
   .rcases K.icy b o v L with i|i
    .show(if b<w.heap.size then G.F b o else W.cell? ⟨b,o,none⟩)=some v;rw[ax (k5 (Z b o v i))];exact i
    .show(if b<w.heap.size then G.F b o else W.cell? ⟨b,o,none⟩)=some v;rw[ah (by have:w.heap.size<=b:=i;omega)];exact K.r.frz b o v L
   .refine⟨K.r.cells r b o x cs g O hr hg,fun j v hj=>?_⟩;have i:w.heap.size<=b:=(K.r.lt r b o x hr).1;show(if b<w.heap.size then G.F b (o+j)else W.cell? ⟨b,o+j,none⟩)=some v;rw[ah ac];exact hj
  .rw[ax (k5 (Z b o v L))];exact L
  .split at L
   .exact .inl L
   .exact .inr ac
  .split at L
   .rename_i hb;rw[(zy I hb).1];exact Z b o v L
   .exact L
 .simp at h
theorem Dw{P:Program}{ρ:Nat->Int}{f:FuncId}{args:List AV}{b:Bool}(h:a9 P ρ f args (.bool b)){vs:List Value}{w:World}{F:Nat->Nat->Option Value}
 (g:∀b o v,F b o=some v->w.cell? ⟨b,o,none⟩=some v) (L:bO ⟨fun _=>none,F,ρ⟩ args vs) :
 Calls P f vs.toArray w (fun e W=>e=.returned (.bool b)/\Below w.heap.size w W):=by
 refine(h.2 ⟨fun _=>none,F,ρ⟩ w vs rfl g L).mono fun e W Y=>?_;obtain⟨v,Z,rfl,hr,A⟩:=Y;cases hr;exact⟨rfl,A.below⟩
def zG:Res->Bool
 | .val (.bool true) _=>true
 |_=>false
theorem L9{P:Program}(fit:Fit P){cfg:Cfg}{ρ:Nat->Int}(L:kj cfg.dec ρ)(O:∀f args r,cfg.call f args=some r->a9 P ρ f args r){n k:Nat}{f:FuncId}{args:List AV}
 (V:nB k args=true) (h:zG (zdp P cfg n (.call f args zc2))=true):a9 P ρ f args (.bool true):=by
 refine zF fit L O (n:=n) (m:=1) V ?_;unfold tm;unfold zG at h;split at h
 .rename_i H Z;rw[Z];rfl
 .simp at h
theorem Ma{P:Program}(fit:Fit P){cfg:Cfg}{ρ:Nat->Int}(L:kj cfg.dec ρ)(O:∀f args r,cfg.call f args=some r->a9 P ρ f args r){n m k:Nat}{f:FuncId}{args:List AV}{r:AV}
 (V:nB k args=true) (h:yx P cfg n m f args r=true):a9 P ρ f args r:=by
 unfold yx at h;split at h
 .rename_i q K;rw[<-AV.beq_eq h];exact zF fit L O V K
 .simp at h
theorem lc(ρ:Nat->Int):kj (fun _ _ _=>none) ρ:=fun _ _ _ _ _ h=>iR
def jM(P:Program)(ρ:Nat->Int):List (FuncId×List AV×AV)->Prop
 |[]=>True
 |p::l=>a9 P ρ p.1 p.2.1 p.2.2/\jM P ρ l
theorem v3{P:Program}{ρ:Nat->Int}:∀{l:List (FuncId×List AV×AV)},jM P ρ l->∀f args r,pA l f args=some r->a9 P ρ f args r
 |[],_,_,_,_,h=>by simp[pA]at h
 |p::l,hk,f,args,r,h=>by
  simp only[pA]at h;split at h
  .rename_i i;split at h
   .rename_i F;simp only[az]at h;subst h;rw[<-gD i,<-zfa F];exact hk.1
   .exact v3 hk.2 f args r h
  .exact v3 hk.2 f args r h
def tU:List (Nat×Nat×Plan)->FuncId->Nat->Plan
 |[],_,_=>.text
 |p::l,f,id=>match Nat.beq p.1 f with
  |true=>match Nat.beq p.2.1 id with
   |true=>p.2.2
   |false=>tU l f id
  |false=>tU l f id
def Mb(pls:List (Nat×Nat×Plan))(l:List (FuncId×List AV×AV)):Cfg:={keep:=fun _=>false,call:=pA l,ice:=fun f=>l.any fun p=>Nat.beq p.1 f,plan:=tU pls}
theorem zfe{P:Program}(fit:Fit P){ρ:Nat->Int}{pls:List (Nat×Nat×Plan)}{l:List (FuncId×List AV×AV)}(I:jM P ρ l){n m k:Nat}{f:FuncId}{args:List AV}{r:AV}
 (V:nB k args=true) (h:yx P (Mb pls l) n m f args r=true):a9 P ρ f args r:=Ma fit (lc ρ) (v3 I) V h
def zH:Cfg:={keep:=fun _=>false}
theorem Mc{P:Program}{ρ:Nat->Int}:∀f args r,zH.call f args=some r->a9 P ρ f args r:=fun _ _ _ h=>by simp[zH]at h
def Dx(P:Program):Bool:=P.funcs.all (fun m=>!(m.body.isSome&&m.name == "runtime.NumGoroutine"))&&P.follows .mixedOrders
theorem Fit.of{P:Program}(h:Dx P=true):Fit P:=by
 simp only[Dx,dp]at h;refine⟨fun f m Z z=>?_,h.2⟩;have i:=h.1;rw[zj]at i;have:=i m (by exact Array.mem_of_getElem? Z);simpa [z]using this
theorem closed{P:Program}(fit:Fit P){n f:Nat}(h:zG (zdp P zH n (.call f [] zc2))=true){w:World}:
 Calls P f #[] w (fun e W=>e=.returned (.bool true)/\Below w.heap.size w W):=
 Dw (ρ:=fun _=>0) (F:=fun _ _=>none) (L9 fit (lc _) Mc (k:=1) rfl h) (fun _ _ _ h=>iR) (lL _)
section
variable {H:Type} {enc:TypeId × Value -> H} {P:Program}
theorem Md{f:Func}{s:ChangeSpec}{apart J K L:Bool}{W V:World}{args:Array Value}{v:Value}{F I:List (DataW H)}{U pa pv:List MemPlace}
 (o:DataW.Whole enc P f.params.toList s.vars apart W args.toList F I U)
 (Z:∀(b:Nat) (Y:Nat->Bool) (hd:Bool),DataW.TrodAll enc P V b Y hd f.resultTypes.toList (v.resultList f.resultTypes.size) (s.fn H (F++I)).results [])
 (g:∀Y:Nat->Bool,(∀p∈U,Y p.block=true)->DataW.TrodAll enc P V 0 Y true f.params.toList args.toList (s.fn H (F++I)).args pa)
 (M:∀Y:Nat->Bool,(∀p∈U,Y p.block=true)->DataW.TrodVars enc P V Y s.vars (s.fn H (F++I)).vars pv)
 (O:U=pa++pv) (hb:Below W.heap.size W V)
 (i:∀(j:Nat) (t:TypeId) (r:Value),f.resultTypes[j]?=some t->(v.resultList f.resultTypes.size)[j]?=some r->Value.okWide P V .any 0 t r) :
 s.post enc P f apart J K L W args v V:=by
 have z:∀p∈U,p.block<W.heap.size:=fun p hp=>o.lt p hp;have m:∀p∈U,(fun b=>decide (b<W.heap.size)) p.block=true:=fun p hp=>by simpa using z p hp
 refine⟨F,I,U,[],pa,pv,o,Z _ _ _,g _ m,M _ m,World.keptBut_mono (fun p hp=>⟨hp,?_⟩) (hb.frame (·∈ U)),fun _=>?_⟩
 .rw[O,tK]at hp;exact Or.inr hp
 .obtain⟨_,_,_,_,_,hz,hn⟩:=o;refine⟨i,_,_,([]++pa)++pv,⟨[]++pa,pv,trodAll_append (g _ (fun _ _=>rfl)) (Z _ _ _),M _ (fun _ _=>rfl),rfl,?_,?_⟩,?_⟩
  .intro b C hp;have A:MemPlace.cell b C∈U:=by rw[O];simpa using hp
   rw[hb.frozen (z _ A)];exact hz b C A
  .intro ha;have:=hn ha;rw[O]at this;simpa using this
  .intro p hp _;rw[O];simpa using hp
end
end Go.Ab
