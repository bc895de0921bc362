/- Parts: AbDraw, AbPlan, AbCon, AbSound, AbLaw. -/
import Derived.Below
import Derived.ChangeSame
import Derived.Orders
import Derived.Test.YtljebeflbbgibaaGreatXCC
set_option linter.unusedSimpArgs false
set_option linter.unusedVariables false
set_option linter.unusedSectionVars false
set_option linter.defProp false
set_option maxHeartbeats 32000000
namespace Go.Ab
set_option maxRecDepth 20000
open Go
theorem ja{P:Prop}(h:P:=by simpa using h):P:=h
theorem rZ{P:Prop}(h:P:=by simpa using M):P:=h
theorem lB{P:Prop}(h:P:=by rw[e]):P:=h
theorem jp{P:Prop}(h:P:=by simp at h):P:=h
theorem DK{P:Prop}(h:P:=by rw[Y.size];exact(List.getElem?_eq_some_iff.1 K).1):P:=h
theorem DL{P:Prop}(h:P:=by rw[hs];have:=(List.getElem?_eq_some_iff.1 K).1;simpa using this):P:=h
theorem wG{P:Prop}(h:P:=by rw[List.length_drop];omega):P:=h
def ff:=@List.mem_cons
def oa:=@List.mem_append
def zX:=@List.mem_flatMap
def jq:=@List.mem_range
def lC:=@Bool.not_true
def jb:=@Bool.false_or
def ub:=@List.mem_filter
def mV:=@Array.getElem?_eq_getElem
def l7:=@Bool.not_eq_true'
def zY:=@Array.all_eq_true_iff_forall_mem
def oc:=@Bool.or_eq_true
def l8:=@List.mem_map
def uc:=@Nat.lt_or_ge
def zZ:=@Array.getElem?_eq_none
def ud:=@List.any_eq_false
def wH:=@Nat.lt_trichotomy
def ue:=@List.eq_nil_iff_forall_not_mem
def fg:=@List.getElem?_eq_none
def DM:=@Array.getElem?_replicate
def l9:=@Bool.true_or
def fh:=@List.mem_cons_self
def fp:=@List.mem_cons_of_mem
def mc:=@List.map_append
def DN:=@List.getElem?_eq_none_iff
def z0:=@List.mem_iff_getElem?
def pc:=@List.map_map
def qf:=@Bool.and_self
def wI:=@Nat.one_mul
def fR:=@true_and
end Go.Ab
namespace Go.Ab
set_option maxRecDepth 20000
open Go Go.RowKit
theorem z4{i:Nat}:∀{l m:List Nat},i∈rK m l↔i∈m\/i∈l
 |[],m=>by simp[rK]
 |x::xs,m=>by
  simp only[rK];split
  .rename_i h;have I:x∈m:=ja;rw[z4,ff];exact⟨fun h=>h.elim .inl (fun h=>.inr (.inr h)),fun h=>h.elim .inl (fun h=>h.elim (fun e=>.inl (by subst e;exact I)) .inr)⟩
  .rw[z4,ff,ff];exact⟨fun h=>h.elim (fun h=>h.elim (fun e=>.inr (.inl e)) .inl) (fun h=>.inr (.inr h)),fun h=>h.elim (fun h=>.inl (.inr h)) (fun h=>h.elim (fun e=>.inl (.inl e)) .inr)⟩
theorem Mr{i:Nat}{l:List Nat}:i∈tM l↔i∈l:=by unfold tM;rw[z4];simp
theorem z5:∀(l:List Oper) (m:List (List Nat)) (i:Nat),i<m.length->(fE l m).getD i []=m.getD i []
 |[],m,i,_=>rfl
 |o::l,m,i,h=>by
  simp only[fE];rw[z5 l _ i cf];simp[List.getD,fz h]
theorem DO:∀(l:List Oper) (m:List (List Nat)) (j:Nat) (o:Oper),l[j]?=some o ->
 ∃J:List (List Nat),J.length=m.length+j/\(∀i,i<J.length->(fE l m).getD i []=J.getD i [])/\(fE l m).getD (m.length+j) []=tM (preds o++(preds o).flatMap fun i=>J.getD i [])
 |[],_,_,_,h=>by simp at h
 |o::l,m,0,o',h=>by
  simp at h;subst h;refine⟨m,rfl,fun i A=>z5 _ _ i A,?_⟩;simp only[fE,mT];rw[z5 l _ m.length aB];simp[List.getD]
 |o::l,m,j+1,o',h=>by
  obtain⟨J,Y,g,Z⟩:=DO l (m++[tM (preds o++(preds o).flatMap fun i=>m.getD i [])]) j o' ja;simp only[ep,dq,jF]at Y Z;refine⟨J,ac,g,?_⟩;simp only[fE];rw[show m.length+(j+1)=m.length+(0+1)+j by omega];exact Z
theorem Ms{l:List Oper}{j:Nat}{o:Oper}(O:l[j]?=some o)(V:∀p∈preds o,p<j){i:Nat}:
 i∈(fE l []).getD j []↔i∈preds o\/∃p∈preds o,i∈(fE l []).getD p []:=by
 obtain⟨J,Y,g,U⟩:=DO l [] j o O;simp only[jF,bC]at Y U;rw[U,Mr,oa,zX];constructor
 .rintro(h|⟨p,Z,K⟩)
  .exact .inl h
  .exact .inr ⟨p,Z,by rw[g p (by rw[Y];exact V p Z)];exact K⟩
 .rintro(h|⟨p,Z,K⟩)
  .exact .inl h
  .exact .inr ⟨p,Z,by rw[<-g p (by rw[Y];exact V p Z)];exact K⟩
structure CalmD (l:List Oper):Prop where
 lt:∀j o,l[j]?=some o->∀p∈preds o,p<j
 guard:∀j o g b,l[j]?=some o->o.guard=some (g,b)->g∈(fE l []).getD j []
 clash:∀i j p q,i<j->l[i]?=some p->l[j]?=some q->Ab.clash l p q=true->i∈(fE l []).getD j []
theorem Mt{l:List Oper}(h:mO l=true):CalmD l:=by
 unfold mO at h;simp only[gS,jq]at h;have I:∀j o,l[j]?=some o->(∀p∈preds o,p<j)/\(∀g b,o.guard=some (g,b)->g∈(fE l []).getD j [])/\∀i p,i<j->l[i]?=some p->Ab.clash l p o=true->i∈(fE l []).getD j []:=fun j o K=>by
  have:=h j (de.1 K).1;rw[K]at this;simp only[dC,gS,jI,jq]at this;obtain⟨⟨V,Y⟩,U⟩:=this;refine⟨V,fun g b C=>?_,fun i p A hp hc=>?_⟩
  .rw[C]at Y;simpa using Y
  .have:=U i A;rw[hp]at this;simp only[hc,lC,jb]at this;simpa using this
 exact⟨fun j o K=>(I j o K).1,fun j o g b K=>(I j o K).2.1 g b,fun i j p q Z A O=>(I j q O).2.2 i p Z A⟩
theorem z6{l:List Oper}(O:CalmD l){D:Nat->Prop}(U:∀j,D j->∀o,l[j]?=some o->∀p∈preds o,D p):
 ∀(j:Nat) o,l[j]?=some o->(∀p∈preds o,D p)->∀i∈(fE l []).getD j [],D i:=by
 intro j;induction j using Nat.strongRecOn with
 |_ j ih=>
  intro o K hp i A;rcases(Ms K (O.lt j o K)).1 A with h|⟨p,Z,Y⟩
  .exact hp i h
  .have V:=O.lt j o K p Z;have L:=(de.1 K).1;have F:l[p]?=some (l[p]' ac):=aR ac;exact ih p V _ F (fun q M=>U p (hp p Z) _ F q M) i Y
theorem lD{l:List Oper}{i:Nat}:i∈gM l↔∃o,l[i]?=some o/\jZ o=true:=by
 unfold gM;rw[ub,jq];constructor
 .rintro⟨Z,g⟩;rw[aR Z]at g;exact⟨_,aR Z,g⟩
 .rintro⟨o,Z,g⟩;exact⟨(de.1 Z).1,by rw[Z];exact g⟩
theorem jr{ops:Array Oper}{Z:Array Bool}{i:Nat}:i∈Region.ready .any ops Z↔∃o,ops.toList[i]?=some o/\Z.getD i true=false/\∀p∈preds o,Z.getD p false=true:=by
 unfold Region.ready preds;rw[ub,jq,t6];constructor
 .rintro⟨Y,g⟩;rw[mV Y]at g;simp only[dC,l7,iZ,a5,zY,oc]at g;refine⟨_,mV Y,g.1,fun p hp=>?_⟩;simp only[l8,ub]at hp;obtain⟨e,⟨A,C⟩,rfl⟩:=hp;rcases g.2 e oZ with h|h
  .rw[C]at h;simp at h
  .exact h
 .rintro⟨o,Y,g,V⟩;have U:i<ops.size:=by
   rcases uc i ops.size with h|h
   .exact h
   .rw[zZ h]at Y;simp at Y
  refine⟨U,?_⟩;rw[Y];simp only[dC,l7,iZ,a5,zY,oc];refine⟨g,fun e M=>?_⟩;cases z:Region.binds .any e with
  |false=>exact .inl rfl
  |true=>exact .inr (V e.on (by simp only[l8,ub];exact⟨e,⟨rZ,z⟩,rfl⟩))
theorem z7{l:List Oper}:∀(k s:Nat),s+k=l.length->∃m,s<=m/\m<=l.length/\(m=l.length\/m∈gM l)/\∀j,s<=j->j<m->j∉gM l
 |0,s,hs=>⟨s,aM _,ac,.inl ac,fun j i g=>ac⟩
 |k+1,s,hs=>by
  by_cases h:s∈gM l
  .exact⟨s,aM _,ac,.inr h,fun j i g=>ac⟩
  .obtain⟨m,i,g,o,U⟩:=z7 (l:=l) k (s+1) ac;refine⟨m,ac,g,o,fun j O C=>?_⟩;by_cases e:j=s
   .subst e;exact h
   .exact U j ac C
section
variable {P:Program} {B:Bs} {cfg:Cfg}
structure Ctx (P:Program) (cfg:Cfg) (ih:Task->Res) (f N:Nat) (l:List Oper) (E0:ax) (zd3:Hp) (E':ax) (H':Hp) (rs:List Rec):Prop where
 calm:CalmD l
 len:rs.length=l.length
 at':∀(i:Nat) (r:Rec),rs[i]?=some r->∃o,l[i]?=some o/\AtD P cfg ih f N l o r (jP rs E' i) (jP rs E' (i+1)) (zd5 rs H' i) (zd5 rs H' (i+1))
 zeroE:jP rs E' 0=E0
 zeroH:zd5 rs H' 0=zd3
 next:∀i,i<l.length->(zd5 rs H' i).next<=(zd5 rs H' (i+1)).next
 look:∀(i:Nat) (r:Rec),rs[i]?=some r->r.did=true->∀m,(m∈gM l\/m=l.length)->(∀e∈gM l,e∈(fE l []).getD i []->e<m)->(∀e∈gM l,i∈(fE l []).getD e []->m<=e) ->
  zcL P cfg r (zd5 rs H' m)=true
theorem Mu{ih:Task->Res}{f N:Nat}{l:List Oper}{E0 E':ax}{zd3 H':Hp}{rs:List Rec}(hc:mO l=true)(hr:gL P cfg ih f N l l E0 zd3=.done E' H' rs)(U:pU P cfg (lh l) rs H'=true):
 Ctx P cfg ih f N l E0 zd3 E' H' rs:=by
 have L:=ua hr;obtain⟨z1,z2⟩:=zU L;have g:=zT L;unfold pU at U;simp only[dC,gS]at U;refine⟨Mt hc,g,fun i r A=>qd L A,z1,z2,fun i A=>?_,fun i r A hd m hm h1 h2=>?_⟩
 .have hi':i<rs.length:=by omega
  have M:=aR hi';obtain⟨o,_,J⟩:=qd L M;have h3:=t4 (U.1 _ (i5 M));rw[J.eH,J.eH']at h3;exact h3
 .obtain⟨o,ho,J⟩:=qd L A;have F:wh (fE l []) (gM l) i m=true:=by
   unfold wh;simp only[l7,lw,ud,dC,not_and];refine⟨fun e K I C=>?_,fun e K I z=>?_⟩
   .have:=h1 e K o7;have:=t4 C;omega
   .have:=h2 e K o7;have:e<m:=by simpa [gQ]using z
    omega
  have Y:∀k,ze9 o.op=k->(k=.read\/k=.make)->(i,m)∈lh l:=fun k j hor=>by
   unfold lh;rw[zX];refine⟨i,jq.2 (de.1 ho).1,?_⟩;rw[ho];have V:(i,m)∈((gM l++[l.length]).filter (wh (fE l []) (gM l) i)).map fun m=>(i,m):=
    l8.2 ⟨m,ub.2 ⟨by simpa using hm,F⟩,rfl⟩
   rcases hor with rfl|rfl<;>simp only[j]<;>exact V
  have Z:(i,m)∈lh l->zcL P cfg r (zd5 rs H' m)=true:=fun h=>by
   have:=U.2 _ h;simp only[A,hd,lC,jb]at this;exact this
  have O:r.o=o:=J.eo;cases j:ze9 o.op with
  |read=>exact Z (Y _ j (.inl rfl))
  |make=>exact Z (Y _ j (.inr rfl))
  |calm=>unfold zcL;rw[O,j]
  |act=>unfold zcL;rw[O,j]
section
variable {ih:Task -> Res} {f N:Nat} {ops:Array Oper} {E0 E':ax} {zd3 H':Hp} {rs:List Rec} (cx:Ctx P cfg ih f N ops.toList E0 zd3 E' H' rs)
include cx
theorem Ctx.record{i:Nat}{o:Oper}(K:ops.toList[i]?=some o):∃r,rs[i]?=some r/\AtD P cfg ih f N ops.toList o r (jP rs E' i) (jP rs E' (i+1)) (zd5 rs H' i) (zd5 rs H' (i+1)):=by
 have A:i<rs.length:=by rw[cx.len];exact(de.1 K).1
 obtain⟨Y,Z,g⟩:=cx.at' i _ (aR A);rw[K]at Z;simp only[aA]at Z;subst Z;exact⟨_,aR A,g⟩
theorem Ctx.gap:∀(d s:Nat),s+d<=ops.toList.length->(∀j,s<=j->j<s+d->j∉gM ops.toList) ->
 (zd5 rs H' s).next<=(zd5 rs H' (s+d)).next/\∀r,r<(zd5 rs H' s).next->(zd5 rs H' (s+d)).get r=(zd5 rs H' s).get r
 |0,s,_,_=>⟨aM _,fun _ _=>rfl⟩
 |d+1,s,hs,hn=>by
  obtain⟨i,g⟩:=Ctx.gap d s ac (fun j O C=>hn j O ac);have o:s+d<ops.toList.length:=ac;obtain⟨r,hr,Y⟩:=cx.record (aR o);have F:jZ (ops.toList[s+d])=false:=by
   cases Z:jZ (ops.toList[s+d])with
   |false=>rfl
   |true=>exact(hn (s+d) ac ac (lD.2 ⟨_,aR o,Z⟩)).elim
  have J:zd5 rs H' (s+d+1)=zd5 rs H' (s+d)\/∃U,zd5 rs H' (s+d+1)=(zd5 rs H' (s+d)).alloc U:=by
   cases hd:r.did with
   |true=>exact Mq F (Y.yes hd)
   |false=>exact .inl (Y.no hd).2
  rw[show s+(d+1)=s+d+1 by omega];rcases J with e|⟨U,e⟩
  .rw[e];exact⟨i,g⟩
  .rw[e];refine⟨cf,fun k V=>?_⟩;rw[zdq,ai ac];exact g k V
theorem Ctx.nextMono:∀(d s:Nat),s+d<=ops.toList.length->(zd5 rs H' s).next<=(zd5 rs H' (s+d)).next
 |0,_,_=>aM _
 |d+1,s,hs=>eT (Ctx.nextMono d s ac) (by rw[show s+(d+1)=s+d+1 by omega];exact cx.next _ ac)
theorem Ctx.slotAt(t:Nat):∀s,s<=ops.toList.length ->
 (∃(i:Nat) (r:Rec) (o:Oper),i<s/\rs[i]?=some r/\ops.toList[i]?=some o/\o.dst=some t/\(∀(j:Nat) (Z:Oper),j<s->ops.toList[j]?=some Z->Z.dst=some t->j<=i)/\(jP rs E' s).at t=r.val) \/
 ((∀(j:Nat) (Z:Oper),j<s->ops.toList[j]?=some Z->Z.dst≠some t)/\(jP rs E' s).at t=E0.at t)
 |0,_=>.inr ⟨fun j Z V=>ac,by rw[cx.zeroE]⟩
 |s+1,hs=>by
  have K:ops.toList[s]?=some (ops.toList[s]' ac):=aR ac;obtain⟨r,hr,L⟩:=cx.record K;have I:=L.put;have J:=Ctx.slotAt t s ac;by_cases hd:(ops.toList[s]' ac).dst=some t
  .refine .inl ⟨s,r,_,ac,hr,K,hd,fun j Z V _ _=>ac,?_⟩;rw[hd]at I;simp only[d9]at I;split at I
   .simp only[aA]at I;rw[<-I,rR,az rfl]
   .simp at I
  .have Y:(jP rs E' (s+1)).at t=(jP rs E' s).at t:=by
    cases A:(ops.toList[s]' ac).dst with
    |none=>
     rw[A]at I;simp only[d9,aA]at I;rw[<-I]
    |some d=>
     rw[A]at I hd;simp only[d9]at I;split at I
     .simp only[aA]at I;rw[<-I,rR,ai (fun e=>hd lB)]
     .simp at I
   rw[Y];rcases J with⟨i,F,Z,M,g,C,m,h5,h6⟩|⟨M,g⟩
   .refine .inl ⟨i,F,Z,ac,g,C,m,fun j U V z O=>?_,h6⟩;by_cases e:j=s
    .subst e;rw[K]at z;simp only[aA]at z;subst z;exact(hd O).elim
    .exact h5 j U ac z O
   .refine .inr ⟨fun j Z V z=>?_,g⟩;by_cases e:j=s
    .subst e;rw[K]at z;simp only[aA]at z;subst z;exact hd
    .exact M j Z ac z
end
def eK(i:Array Bool)(j:Nat):Prop:=i.getD j false=true
def r0(rs:List Rec)(l:List Oper)(J:ax)(D:Nat->Prop)(G:Gh)(a:Act):Prop:=∀t,
 (∃(i:Nat) (r:Rec) (o:Oper),D i/\rs[i]?=some r/\l[i]?=some o/\o.dst=some t/\(∀(j:Nat) (Z:Oper),D j->l[j]?=some Z->Z.dst=some t->j<=i)/\VR G r.val (a.tmps.getD t undef)) \/
 ((∀(j:Nat) (Z:Oper),D j->l[j]?=some Z->Z.dst≠some t)/\VR G (J.at t) (a.tmps.getD t undef))
theorem r0.agree{ih:Task->Res}{f N:Nat}{ops:Array Oper}{C A:ax}{zd3 H':Hp}{rs:List Rec}(cx:Ctx P cfg ih f N ops.toList C zd3 A H' rs){D:Nat->Prop}{G:Gh}{a:Act}(m:r0 rs ops.toList C D G a){t s:Nat}
 (U:s<=ops.toList.length) (K:∀(j:Nat) (o:Oper),ops.toList[j]?=some o->o.dst=some t->(D j↔j<s)):VR G ((jP rs A s).at t) (a.tmps.getD t undef):=by
 rcases cx.slotAt t s U with⟨i,r,o,M,J,I,F,h5,h6⟩|⟨M,J⟩
 .rw[h6];have L:=(K i o I F).2 M;rcases m t with⟨z,r',Z,V,g,O,Y,g5,g6⟩|⟨V,_⟩
  .have e1:=h5 z Z ((K z Z O Y).1 V) O Y;have e2:=g5 i o L I F;have:z=i:=ac;subst this;rw[J]at g;simp only[aA]at g;subst g;exact g6
  .exact(V i o L I F).elim
 .rw[J];rcases m t with⟨z,r',Z,V,g,O,Y,g5,g6⟩|⟨_,g⟩
  .exact(M z Z ((K z Z O Y).1 V) O Y).elim
  .exact g
structure InvD (rs:List Rec) (l:List Oper) (N:Nat) (B:Bs) (nx0:Nat) (E0:ax) (H':Hp) (G0:Gh) (w0:World) (listed:Array Bool) (a:Act) (w:World) (m:Nat) (G:Gh):Prop where
 size:listed.size=l.length
 closed:∀j,eK listed j->∀o,l[j]?=some o->∀p∈preds o,eK listed p
 le:m<=l.length
 act:m=l.length\/m∈gM l
 notyet:¬eK listed m
 acts:∀e∈gM l,e<m->eK listed e
 step:Step B nx0 G0 w0 (zd5 rs H' m) w G
 low:∀r p,G.β r=some p->r<nx0\/∃j,eK listed j/\j<l.length/\(zd5 rs H' j).next<=r/\r<(zd5 rs H' (j+1)).next
 slots:r0 rs l E0 (eK listed) G a
 frame:a.tmps.size=N
 defers:a.defers=[]
theorem eK.set{Z:Array Bool}{i:Nat}(A:i<Z.size)(j:Nat):eK (Z.setIfInBounds i true) j↔j=i\/eK Z j:=by
 unfold eK;rw[gR,gR,pZ];by_cases e:i=j
 .subst e;simp[A]
 .rw[ai e];constructor
  .exact fun h=>.inr h
  .rintro(h|h)
   .exact(e h.symm).elim
   .exact h
def jJ:=@eK.set
theorem r0.put{rs:List Rec}{l:List Oper}{m:ax}{Z:Array Bool}{G L:Gh}{a:Act}(hs:r0 rs l m (eK Z) G a)(he:Ext G L){i:Nat}(A:i<Z.size){o:Oper}(K:l[i]?=some o){r:Rec}(hr:rs[i]?=some r)
 {v:Value} (hv:VR L r.val v) (hd:∀d,o.dst=some d->d<a.tmps.size/\∀(j:Nat) (V:Oper),eK Z j->l[j]?=some V->V.dst=some d->j<=i):r0 rs l m (eK (Z.setIfInBounds i true)) L (a.put o.dst v):=by
 intro t;by_cases I:o.dst=some t
 .obtain⟨h1,h2⟩:=hd t I;refine .inl ⟨i,r,o,(jJ A i).2 (.inl rfl),hr,K,I,fun j V Y z O=>?_,?_⟩
  .rcases(jJ A j).1 Y with e|Y
   .omega
   .exact h2 j V Y z O
  .rw[I];simp only[Act.put];simpa [Array.getD,h1]using hv
 .have U:(a.put o.dst v).tmps.getD t undef=a.tmps.getD t undef:=by
   cases M:o.dst with
   |none=>rfl
   |some d=>
    rw[M]at I;have C:d≠t:=fun e=>I lB;simp only[Act.put,gR,pZ];rw[ai C]
  rw[U];rcases hs t with⟨i',r',V,F,g,g3,g4,g5,g6⟩|⟨F,g⟩
  .refine .inl ⟨i',r',V,(jJ A i').2 (.inr F),g,g3,g4,fun j J Y z O=>?_,g6.mono he⟩;rcases(jJ A j).1 Y with e|Y
   .subst e;rw[K]at z;simp only[aA]at z;subst z;exact(I O).elim
   .exact g5 j J Y z O
  .refine .inr ⟨fun j V Y z O=>?_,g.mono he⟩;rcases(jJ A j).1 Y with e|Y
   .subst e;rw[K]at z;simp only[aA]at z;subst z;exact(I O).elim
   .exact F j V Y z O
theorem z8{J:List Oper}{o:Oper}{t:Nat}:t∈oV J o↔o.dst=some t\/(Operand.tmp t)∈o.op.operands.toList\/∃g b Z,o.guard=some (g,b)/\J[g]?=some Z/\Z.dst=some t:=by
 unfold oV C7;simp only[oa,Option.mem_toList,List.mem_filterMap];constructor
 .rintro((h|⟨x,I,h⟩)|h)
  .exact .inl h
  .cases x<;>simp at h;subst h;exact .inr (.inl I)
  .cases C:o.guard with
   |none=>rw[C]at h;simp at h
   |some p=>
    obtain⟨g,b⟩:=p;rw[C]at h;simp only[Option.mem_toList,cm]at h;obtain⟨Z,i,Y⟩:=h;exact .inr (.inr ⟨g,b,Z,rfl,i,Y⟩)
 .rintro(h|h|⟨g,b,Z,i,Y,V⟩)
  .exact .inl (.inl h)
  .exact .inl (.inr ⟨_,h,rfl⟩)
  .refine .inr ?_;rw[i];simp[Y,V]
theorem DP{J:List Oper}{p q:Oper}{d:Nat}(h:(p.dst=some d/\d∈oV J q)\/(q.dst=some d/\d∈oV J p)):Ab.clash J p q=true:=by
 unfold Ab.clash;rcases h with⟨i,g⟩|⟨i,g⟩
 .rw[i];simp[g]
 .rw[i];simp[g]
theorem Step.trans'{Y:Nat}{H' J:Hp}{G Z A:Gh}{w w' C:World}(h:Step B Y G w H' w' Z)(k:Step B Y Z w' J C A):Step B Y G w J C A:=
 ⟨k.r,h.ext.trans k.ext,h.fr.trans k.fr h.new,h.new.trans k.new h.fr.size,fun r p hr=>by
  rcases k.low r p hr with i|i
  .exact h.low r p i
  .exact .inr i,k.mono,fun b o v L=>by
  rcases k.icy b o v L with i|i
  .exact h.icy b o v i
  .exact .inr i⟩
theorem Step.weaken{Y M:Nat}{H':Hp}{G i:Gh}{w w':World}(h:Step B Y G w H' w' i)(m:M<=Y):Step B M G w H' w' i:=
 ⟨h.r,h.ext,h.fr,h.new,fun r p hr=>(h.low r p hr).imp id (fun e=>eT m e),eT m h.mono,h.icy⟩
theorem Snd.fail(P:Program)(B:Bs):Snd P B 0 (fun _=>.fail):=
 ⟨fun _ _ _ _ _ h=>jp,fun _ _ _ _ _ _ _ _ h=>jp,fun _ _ _ _ _ _ _ _ h=>jp⟩
theorem Mv(fit:Fit P){n:Nat}{ih:Task->Res}(hih:Snd P B n ih){f N nx0:Nat}{ops:Array Oper}{E0 E':ax}{zd3 H':Hp}{rs:List Rec}(cx:Ctx P B.cfg ih f N ops.toList E0 zd3 E' H' rs)(hnx:zd3.next=nx0){G0 G:Gh}{w0 w:World}
 {Y:Array Bool}{a:Act}{m:Nat} (V:InvD rs ops.toList N B nx0 E0 H' G0 w0 Y a w m G) {i:Nat} (hi:i∈Region.ready .any ops Y) {K:Act->World->Prop}{Q:Exit->Act->World->Prop}
 (hK:∀a' w' m' G',InvD rs ops.toList N B nx0 E0 H' G0 w0 (Y.setIfInBounds i true) a' w' m' G'->K a' w'):wpOp P ops Q i K a w:=by
 obtain⟨o,ho,hun,hpr⟩:=jr.1 hi;obtain⟨r,hr,ha⟩:=cx.record ho;have hil:i<ops.toList.length:=(de.1 ho).1;have O:i<Y.size:=by rw[V.size];exact hil
 have hnot:¬eK Y i:=fun hd=>by
  unfold eK at hd;rw[gR,mV O]at hd;rw[gR,mV O]at hun;simp only[a5]at hd hun;rw[hd]at hun;simp at hun
 -- what comes before i is done;what comes behind it is not
 have J:∀j∈(fE ops.toList []).getD i [],eK Y j:=z6 cx.calm V.closed i o ho hpr;have z:∀j,eK Y j->∀oj,ops.toList[j]?=some oj->i∉(fE ops.toList []).getD j []:=fun j hj oj C hm=>
  hnot (z6 cx.calm V.closed j oj C (V.closed j hj oj C) i hm)
 -- the writers of the slots that i names
 have hagree:∀t∈oV ops.toList o,∀(j:Nat) (oj:Oper),ops.toList[j]?=some oj->oj.dst=some t->(eK Y j↔j<i):=fun t ht j oj C hjd=>by
  constructor
  .intro hj;rcases wH j i with h|h|h
   .exact h
   .subst h;exact(hnot hj).elim
   .exact(z j hj oj C (cx.calm.clash i j o oj h ho C (DP (.inr ⟨hjd,ht⟩)))).elim
  .intro hj;exact J j (cx.calm.clash j i oj o hj C ho (DP (.inl ⟨hjd,ht⟩)))
 have hslot:∀t∈oV ops.toList o,VR G ((jP rs E' i).at t) (a.tmps.getD t undef):=fun t ht=>V.slots.agree cx (Nat.le_of_lt hil) (hagree t ht);have F:qc G (jP rs E' i) a o.op.operands:=fun x hx c hc=>by
  cases x with
  |tmp t=>simp only[zdo,aA]at hc;subst hc;exact hslot t (z8.2 (.inr (.inl (by simpa using hx))))
  |const v=>exact rS hc
  |global g=>simp[zdo]at hc
  |func f=>simp only[zdo,aA]at hc;subst hc;exact .clo (vs:=[]) rfl aB
 have hwant:=DH (G:=G) (E:=jP rs E' i) (a:=a) (ops:=ops) (o:=o) (fun g b d hg hd=>by
  simp only[cm]at hd;obtain⟨o',h1,h2⟩:=hd;exact hslot d (z8.2 (.inr (.inr ⟨g,b,o',hg,by rw[t6];exact h1,h2⟩))))
 have hdst:∀d,o.dst=some d->d<a.tmps.size/\∀(j:Nat) (o':Oper),eK Y j->ops.toList[j]?=some o'->o'.dst=some d->j<=i:=fun d hd=>by
  refine⟨?_,fun j o' hj hjo hjd=>Nat.le_of_lt ((hagree d (z8.2 (.inl hd)) j o' hjo hjd).1 hj)⟩;have hp:=ha.put;rw[hd]at hp;simp only[d9]at hp;split at hp
  .rename_i hb;rw[V.frame];simpa [gQ]using hb
  .simp at hp
 have hclosed':∀j,eK (Y.setIfInBounds i true) j->∀oj,ops.toList[j]?=some oj->∀p∈preds oj,eK (Y.setIfInBounds i true) p:=fun j hj oj C p hp=>by
  rcases(jJ O j).1 hj with rfl|hj
  .rw[ho]at C;simp only[aA]at C;subst C;exact(jJ O p).2 (.inr (hpr p hp))
  .exact(jJ O p).2 (.inr (V.closed j hj oj C p hp))
 -- an act comes up in its turn
 have hturn:jZ o=true->i=m:=fun hact=>by
  have M:i∈gM ops.toList:=lD.2 ⟨o,ho,hact⟩;rcases wH i m with h|h|h
  .exact(hnot (V.acts i M h)).elim
  .exact h
  .rcases V.act with e|e
   .omega
   .obtain⟨om,I,U⟩:=lD.1 e;exact(V.notyet (J m (cx.calm.clash m i om o h I ho (by unfold Ab.clash;simp[hact,U])))).elim
 -- how the invariant goes on
 have hfin:∀(v:Value) (w':World) (G':Gh) (X:Hp),VR G' r.val v->Step B nx0 G w X w' G' ->
  (∀k p,G'.β k=some p->G.β k=some p\/((zd5 rs H' i).next<=k/\k<(zd5 rs H' (i+1)).next)) ->
  ((i≠m/\X=zd5 rs H' m)\/(i=m/\X=zd5 rs H' (i+1)))->K (a.put o.dst v) w':=fun v w' G' X hv A hlow hX=>by
  have hslots':=V.slots.put A.ext O ho hr hv hdst;have hlow':∀k p,G'.β k=some p->k<nx0\/∃j,eK (Y.setIfInBounds i true) j/\j<ops.toList.length/\(zd5 rs H' j).next<=k/\k<(zd5 rs H' (j+1)).next:=fun k p hk=>by
   rcases hlow k p hk with h|h
   .rcases V.low k p h with h|⟨j,h1,h2⟩
    .exact .inl h
    .exact .inr ⟨j,(jJ O j).2 (.inr h1),h2⟩
   .exact .inr ⟨i,(jJ O i).2 (.inl rfl),hil,h⟩
  have hframe':(a.put o.dst v).tmps.size=N:=by rw[<-V.frame];cases o.dst<;>simp[Act.put]
  have hdef':(a.put o.dst v).defers=[]:=by have:=V.defers;cases o.dst<;>exact this
  rcases hX with⟨hne,rfl⟩|⟨rfl,rfl⟩
  .refine hK _ _ m G' ⟨by simpa using V.size,hclosed',V.le,V.act,fun hd=>?_,fun e he hlt=>(jJ O e).2 (.inr (V.acts e he hlt)),V.step.trans' A,hlow',hslots',hframe',hdef'⟩;rcases(jJ O m).1 hd with h|h
   .exact hne h.symm
   .exact V.notyet h
  ·-- the next act
   obtain⟨m',q1,q2,q3,q4⟩:=z7 (l:=ops.toList) (ops.toList.length-(i+1)) (i+1) ac;obtain⟨g1,g2⟩:=cx.gap (m'-(i+1)) (i+1) ac (fun j h1 h2=>q4 j h1 ac);rw[show i+1+(m'-(i+1))=m' by omega]at g1 g2;have hst2:Step B nx0 G0 w0 (zd5 rs H' m') w' G':=by
    have:=V.step.trans' A;exact⟨this.r.more g1 g2,this.ext,this.fr,this.new,this.low,eT this.mono g1,this.icy⟩
   have hact:∀e∈gM ops.toList,e<m'->eK (Y.setIfInBounds i true) e:=fun e he hlt=>by
    by_cases h:e<i
    .exact(jJ O e).2 (.inr (V.acts e he h))
    .by_cases h2:e=i
     .exact(jJ O e).2 (.inl h2)
     .exact(q4 e ac hlt he).elim
   refine hK _ _ m' G' ⟨by simpa using V.size,hclosed',q2,q3,fun hd=>?_,hact,hst2,hlow',hslots',hframe',hdef'⟩;rcases(jJ O m').1 hd with h|h
   .omega
   ·-- m' is done though i,an act before it,was not
    have hm'l:m'<ops.toList.length:=by
     rcases uc m' ops.toList.length with h3|h3
     .exact h3
     .unfold eK at h;rw[gR,zZ (by rw[V.size];exact h3)]at h;simp at h
    rcases q3 with e|e
    .omega
    .obtain⟨om,I,U⟩:=lD.1 e;rcases V.act with e2|e2
     .omega
     .obtain⟨oi,hoi,hacti⟩:=lD.1 e2;rw[ho]at hoi;simp only[aA]at hoi;subst hoi;exact z m' h om I (cx.calm.clash i m' o om ac ho I (by unfold Ab.clash;simp[hacti,U]))
 -- the range of m for the looks
 have hlo:∀e∈gM ops.toList,e∈(fE ops.toList []).getD i []->e<m:=fun e he hA=>by
  have hd:=J e hA;rcases uc e m with h|h
  .exact h
  .exfalso;rcases V.act with e2|e2
   .have:=(lD.1 he);obtain⟨oe,hoe,_⟩:=this;have:=(de.1 hoe).1;omega
   .by_cases e3:e=m
    .subst e3;exact V.notyet hd
    .obtain⟨om,I,U⟩:=lD.1 e2;obtain⟨oe,hoe,hacte⟩:=lD.1 he;exact V.notyet (z6 cx.calm V.closed e oe hoe (V.closed e hd oe hoe) m (cx.calm.clash m e om oe ac I hoe (by unfold Ab.clash;simp[U,hacte])))
 have hhi:∀e∈gM ops.toList,i∈(fE ops.toList []).getD e []->m<=e:=fun e he hA=>by
  rcases uc e m with h|h
  .obtain⟨oe,hoe,_⟩:=lD.1 he;exact(z e (V.acts e he h) oe hoe hA).elim
  .exact h
 unfold wpOp;rw[show ops[i]?=some o by rw[<-t6];exact ho];simp only[];have hnxm:nx0<=(zd5 rs H' m).next:=V.step.mono
 have hsame:Step B nx0 G w (zd5 rs H' m) w G:=(jm V.step.r).weaken hnxm;have hstill:∀(v:Value) (w':World) (G':Gh),i≠m->VR G' r.val v->Step B (zd5 rs H' m).next G w (zd5 rs H' m) w' G'->K (a.put o.dst v) w':=fun v w' G' M hv A=>
  hfin v w' G' _ hv (A.weaken hnxm) (fun k p hk=>by
   rcases A.low k p hk with h|h
   .exact .inl h
   .have:=A.r.dom k p hk;omega) (.inl ⟨M,rfl⟩)
 have hnotact:jZ o=false->i≠m:=fun hna e=>by
  rcases V.act with e2|e2
  .omega
  .obtain⟨om,I,U⟩:=lD.1 e2;rw[<-e,ho]at I;simp only[aA]at I;subst I;rw[hna]at U;simp at U
 cases hd:r.did with
 |false=>
  have hw:Region.wanted o (yielded ops a.tmps)=false:=by rw[<-hwant,ha.want];exact hd
  rw[hw];simp only[cC,cn];obtain⟨hval,hheap⟩:=ha.no hd;by_cases M:i=m
  .subst M;exact hfin undef w G (zd5 rs H' (i+1)) (by rw[hval];exact tT G) (by rw[hheap];exact hsame) (fun k p hk=>.inl hk) (.inr ⟨rfl,rfl⟩)
  .exact hfin undef w G _ (by rw[hval];exact tT G) hsame (fun k p hk=>.inl hk) (.inl ⟨M,rfl⟩)
 |true=>
  have hw:Region.wanted o (yielded ops a.tmps)=true:=by rw[<-hwant,ha.want];exact hd
  rw[hw];simp only[bT];have hop:=ha.yes hd;refine .inl ?_;cases Z:ze9 o.op with
  |act=>
   have M:=hturn (by simp[jZ,Z]);subst M;refine wF fit hih V.step.r F hop fun v w' G' hv A=>?_;refine hfin v w' G' _ hv (A.weaken hnxm) (fun k p hk=>?_) (.inr ⟨rfl,rfl⟩);rcases A.low k p hk with h|h
   .exact .inl h
   .exact .inr ⟨h,A.r.dom k p hk⟩
  |calm=>
   have hnc:∀c,o.op≠.call c:=fun c e=>by
    rw[e]at Z;simp only[ze9]at Z;split at Z<;>simp at Z
   have M:=hnotact (by simp[jZ,Z]);have hX:=(zV (P:=P) (by simp[n9,Z]) ((qe hnc).1 hop)).2 (zd5 rs H' m);have hop':zez P B.cfg ih f (jP rs E' i) (zd5 rs H' m) o.op=.val r.val (zd5 rs H' m):=(qe hnc).2 hX;exact wF fit hih V.step.r F hop' fun v w' G' hv A=>hstill v w' G' M hv A
  |read=>
   have M:=hnotact (by simp[jZ,Z]);have L:=cx.look i r hr hd m V.act.symm hlo hhi;unfold zcL at L;rw[ha.eo,Z,ha.eE]at L;simp only[]at L;split at L
   .rename_i v1 H1 hop';have hv1:=AV.beq_eq L;subst hv1;have hH1:=zW (by simp[mU,Z]) hop';subst hH1;exact wF fit (Snd.fail P B) V.step.r F hop' fun v w' G' hv A=>hstill v w' G' M hv A
   .simp at L
  |make=>
   have M:=hnotact (by simp[jZ,Z]);have hnc:∀c,o.op≠.call c:=fun c e=>by
    rw[e]at Z;simp only[ze9]at Z;split at Z<;>simp at Z
   have hopA:=(qe hnc).1 hop;obtain⟨blk,obj,ext,v,hH1,hrun,hmade,hv⟩:=Mj (P:=P) (w:=w) (by simp[oW,Z]) F hopA;have L:=cx.look i r hr hd m V.act.symm hlo hhi;unfold zcL at L;rw[ha.eo,Z,ha.eH,ha.eH']at L;simp only[]at L;have hnext1:(zd5 rs H' (i+1)).next=(zd5 rs H' i).next+1:=by rw[hH1];rfl
   have hgetm:(zd5 rs H' m).get (zd5 rs H' i).next=some blk:=by
    split at L
    .rename_i b b' h1 h2;rw[HB.beq_eq L]at h1;rw[hH1,zdq,az rfl]at h2;simp only[aA]at h2;subst h2;exact h1
    .simp at L
   have hlt:i<m:=by
    rcases wH i m with h|h|h
    .exact h
    .exact(M h).elim
    .exfalso;rcases V.act with e2|e2
     .omega
     .obtain⟨om,I,U⟩:=lD.1 e2;exact V.notyet (J m (cx.calm.clash m i om o h I ho (by unfold Ab.clash;simp[U,oW,Z])))
   have hr0:(zd5 rs H' i).next<(zd5 rs H' m).next:=by
    have:=cx.nextMono (m-(i+1)) (i+1) (by have:=V.le;omega);rw[show i+1+(m-(i+1))=m by omega]at this;omega
   have hnx0:nx0<=(zd5 rs H' i).next:=by
    have:=cx.nextMono i 0 ac;rw[bC,cx.zeroH,hnx]at this;exact this
   have hno:∀q,G.β (zd5 rs H' i).next=some q->False:=fun q hq=>by
    rcases V.low _ q hq with h|⟨j,h1,h2,h3,h4⟩
    .omega
    .rcases wH j i with h|h|h
     .have:=cx.nextMono (i-(j+1)) (j+1) ac;rw[show j+1+(i-(j+1))=i by omega]at this;omega
     .subst h;exact hnot h1
     .have:=cx.nextMono (j-(i+1)) (i+1) ac;rw[show i+1+(j-(i+1))=j by omega]at this;omega
   have A:=Dc V.step.r hno hr0 hgetm hnx0 hmade;unfold Oper.wp;rw[hrun];refine hfin v _ _ _ (hv _ (zf9 _ _ _)) A (fun k p hk=>?_) (.inl ⟨M,rfl⟩);simp only[Gh.add]at hk;split at hk
   .rename_i e;exact .inr ⟨ac,ac⟩
   .exact .inl hk
theorem countP_set{Z:Array Bool}{i:Nat}(A:i<Z.size)(m:Z[i]=false):(Z.setIfInBounds i true).toList.countP (·=false)+1=Z.toList.countP (·=false):=by
 rw[Dr,List.countP_set oZ];have Y:Z.toList[i]' oZ=false:=by simpa using m
 have V:0<Z.toList.countP (·=false):=List.countP_pos_iff.2 ⟨false,by rw[<-Y];exact dr _,aB⟩;rw[Y];simp only[ll,bT,ls,gA,cC,cn];omega
theorem Mw(fit:Fit P){n:Nat}{ih:Task->Res}(g:Snd P B n ih){f N U:Nat}{ops:Array Oper}{E0 F:ax}{zd3 H':Hp}{rs:List Rec}(cx:Ctx P B.cfg ih f N ops.toList E0 zd3 F H' rs)(hnx:zd3.next=U){G0:Gh}{w0:World}
 (hE':jP rs F ops.toList.length=F) (hH':zd5 rs H' ops.toList.length=H') {Q:Exit->Act->World->Prop} (hQ:∀e a w,i9 B N U G0 w0 .normal F H' e a w->Q e a w) :
 ∀(L:Nat) (Z:Array Bool) (a:Act) (w:World) (m:Nat) (G:Gh),InvD rs ops.toList N B U E0 H' G0 w0 Z a w m G->Z.toList.countP (·=false)<=L->wpAny P .any ops Q L Z a w:=by
 -- at the end all is done
 have M:∀(Z:Array Bool) (a:Act) (w:World) (m:Nat) (G:Gh),InvD rs ops.toList N B U E0 H' G0 w0 Z a w m G->Region.ready .any ops Z=[]->Q .normal a w:=fun Z a w m G Y C=>by
  have O:∀j,j<ops.toList.length->eK Z j:=fun j=>by
   induction j using Nat.strongRecOn with
   |_ j ihj=>
    intro hj;have K:=aR hj;have J:j<Z.size:=by rw[Y.size];exact hj
    cases hl:Z[j]with
    |true=>
     unfold eK;rw[gR,mV J,hl];rfl
    |false=>
     exfalso;have:j∈Region.ready .any ops Z:=jr.2 ⟨_,K,by rw[gR,mV J,hl];rfl,fun p hp=>by
      have hlt:=cx.calm.lt j _ K p hp;exact ihj p hlt ac⟩
     rw[C]at this;simp at this
  have hm:m=ops.toList.length:=by
   rcases Y.act with e|e
   .exact e
   .obtain⟨om,hom,_⟩:=lD.1 e;exact(Y.notyet (O m (de.1 hom).1)).elim
  subst hm;have A:=Y.step;rw[hH']at A;refine hQ _ _ _ ⟨rfl,G,⟨Y.frame,fun t=>?_⟩,A,Y.defers⟩;have:=Y.slots.agree cx (t:=t) (aM _) (fun j oj hoj _=>⟨fun _=>(de.1 hoj).1,fun h=>O j h⟩);rw[hE']at this;exact this
 intro L;induction L with
 |zero=>
  intro Z a w m G Y hc;have C:Region.ready .any ops Z=[]:=by
   apply ue.2;intro i z;obtain⟨o,K,I,_⟩:=jr.1 z;have V:i<Z.size:=DK;rw[gR,mV V]at I;have:=countP_set V o7;omega
  exact⟨C,M Z a w m G Y C⟩
 |succ L ihf=>
  intro Z a w m G Y hc;refine⟨fun C=>M Z a w m G Y C,fun i z=>?_⟩;obtain⟨o,K,I,_⟩:=jr.1 z;have V:i<Z.size:=DK;rw[gR,mV V]at I;have hcs:=countP_set V o7;exact Mv fit g cx hnx Y z (fun a' w' m' G' hI'=>ihf _ a' w' m' G' hI' ac)
theorem DQ(fit:Fit P){n:Nat}{ih:Task->Res}(V:Snd P B n ih){f N:Nat}{ops:Array Oper}{E I:ax}{H H':Hp}{G:Gh}{w:World}{x:AX}{a:Act}(hr:j0 P B.cfg ih f N ops.toList E H=.done x I H')
 (h:R B H w G) (C:TR N G E a) (hd:a.defers=[]) {Q:Exit->Act->World->Prop} (hQ:∀e z i,i9 B N H.next G w x I H' e z i->Q e z i):wpAny P .any ops Q ops.size (Array.replicate ops.size false) a {w with drawn:=w.drawn+1}:=by
 unfold j0 at hr;split at hr
 .rename_i F;split at hr
  .rename_i E1 H1 rs Z;split at hr
   .rename_i L;simp only[Res.done.injEq]at hr;obtain⟨rfl,rfl,rfl⟩:=hr;have cx:=Mu F Z L;have hlen:=cx.len;have K:jP rs E1 ops.toList.length=E1:=by unfold jP;rw[fg ac]
    have A:zd5 rs H1 ops.toList.length=H1:=by unfold zd5;rw[fg ac]
    obtain⟨m,q1,q2,q3,g⟩:=z7 (l:=ops.toList) ops.toList.length 0 ac;obtain⟨U,g2⟩:=cx.gap m 0 ac (fun j _ O=>g j ac ac);rw[bC,cx.zeroH]at U g2;have J:R B H {w with drawn:=w.drawn+1} G:=h.heap rfl;have Y:Step B H.next G w (zd5 rs H1 m) {w with drawn:=w.drawn+1} G:=
     ⟨J.more U g2,rQ _,⟨rfl,rfl,rfl,aM _,fun _ _ _=>rfl⟩,p6 _ _,fun _ _ h=>.inl h,U,fun _ _ _ h=>.inl h⟩
    have M:∀j,¬eK (Array.replicate ops.size false) j:=fun j O=>by
     unfold eK at O;rw[gR,DM]at O;split at O<;>simp at O
    refine Mw fit V cx rfl K A hQ ops.size _ a _ m G
     ⟨aB,fun j O=>(M j O).elim,q2,q3,M m,fun e he o=>(g e (cG _) o he).elim,Y,fun r p hr=>.inl (h.dom r p hr),fun t=>.inr ⟨fun j o' O=>(M j O).elim,C.slots t⟩,C.size,hd⟩ ?_
    exact eT List.countP_le_length aB
   .simp at hr
  .simp at hr
 .simp at hr
end
def js(ops:Array Oper):List Nat->Array Bool->Prop
 |[],listed=>Region.ready .any ops listed=[]
 |i::L,listed=>i∈Region.ready .any ops listed/\js ops L (listed.setIfInBounds i true)
theorem DR{ops:Array Oper}:∀(L t:Nat) (Z:Array Bool),Z.size=ops.size->Z.toList.countP (·=false)<=L->js ops (Region.linearise.go .any ops L t Z []) Z
 |0,t,Z,hs,hc=>by
  show Region.ready .any ops Z=[];apply ue.2;intro i A;obtain⟨o,K,I,_⟩:=jr.1 A;have C:i<Z.size:=DL;rw[gR,mV C]at I;have:=countP_set C o7;omega
 |L+1,t,Z,hs,hc=>by
  simp only[Region.linearise.go];change js ops (match (Region.ready .any ops Z)[t%(Region.ready .any ops Z).length]? with
   |some i=>Region.linearise.go .any ops L (t/(Region.ready .any ops Z).length) (Z.setIfInBounds i true) [i]
   |none=>[].reverse) Z
  cases A:(Region.ready .any ops Z)[t%(Region.ready .any ops Z).length]? with
  |none=>
   show Region.ready .any ops Z=[];cases hr:Region.ready .any ops Z with
   |nil=>rfl
   |cons x V=>
    rw[hr]at A;have Y:t%(x::V).length<(x::V).length:=Nat.mod_lt _ aB;simp at A;simp at Y;omega
  |some i=>
   simp only[];rw[linearise_go_acc,List.reverse_singleton,List.singleton_append];have M:=i5 A;refine⟨M,DR L _ _ (by simpa using hs) ?_⟩;obtain⟨o,K,I,_⟩:=jr.1 M;have C:i<Z.size:=DL;rw[gR,mV C]at I;have:=countP_set C o7;omega
section
variable {P:Program} {Q:Exit -> Act -> World -> Prop}
theorem z9{ops:Array Oper}:∀(L:List Nat) (Y:Nat) (Z:Array Bool) (a:Act) (w:World),wpAny P .any ops Q Y Z a w->js ops L Z->wpOps P ops Q L a w
 |[],0,Z,a,w,h,_=>h.2
 |[],Y+1,Z,a,w,h,hv=>h.1 hv
 |i::L,0,Z,a,w,h,hv=>by
  have V:=hv.1;rw[h.1]at V;simp at V
 |i::L,Y+1,Z,a,w,h,hv=>by
  rw[wpOps_cons];exact wpOp_mono (fun a w J=>z9 L Y _ a w J hv.2) (h.2 i hv.1)
theorem My{ops:Array Oper}{id:Nat}{a:Act}{w:World}(M:P.follows .mixedOrders=true)
 (h:∀L,js ops L (Array.replicate ops.size false)->wpOps P ops Q L a {w with drawn:=w.drawn+1}):(Code.region id ops true).wp P Q a w:=
 wp_region_draw fun t=>by
  simp only[Region.schedule,M,l9,bT];exact h _ (DR ops.size t _ aB (eT List.countP_le_length aB))
theorem Aa{ops ops':Array Oper}{φ:Nat->Nat}:∀(L:List Nat) (a:Act) (w:World),
 (∀i∈L,∃o Y,ops[i]?=some o/\ops'[φ i]?=some Y/\(∃V M,Y={o with after:=V,guard:=M})/\∀a:Act,Region.wanted Y (yielded ops' a.tmps)=Region.wanted o (yielded ops a.tmps)) ->
 wpOps P ops' Q (L.map φ) a w->wpOps P ops Q L a w
 |[],_,_,_,h=>h
 |i::L,a,w,hr,h=>by
  rw[dL,wpOps_cons]at h;rw[wpOps_cons];obtain⟨o,Y,K,g,⟨V,M,J⟩,I⟩:=hr i fh;have O:∀a w,wpOps P ops' Q (L.map φ) a w->wpOps P ops Q L a w:=fun a w=>Aa L a w (fun j U=>hr j (fp _ U));have Z:=wpOp_mono O h;unfold wpOp at Z⊢;rw[g]at Z;rw[K];simp only[]at Z⊢;rw[I a]at Z;subst J;exact Z
end
theorem wJ(q p:Nat)(l:List Oper):(gN q p l).length=l.length:=by
 unfold gN;split<;>simp
theorem uf{q p:Nat}{l:List Oper}{i:Nat}{o:Oper}(h:l[i]?=some o):
 ∃Z,(gN q p l)[i]?=some Z/\(∃Y,Z={o with after:=Y})/\(i≠q->Z=o)/\∀j,j∈preds Z↔j∈preds o\/(i=q/\j=p):=by
 unfold gN;have A:=(de.1 h).1;by_cases e:i=q
 .subst e;rw[h];refine⟨_,List.getElem?_set_self A,⟨_,rfl⟩,fun m=>(m rfl).elim,fun j=>?_⟩;unfold preds;have:(o.after.push {on:=p,ground:=.data}).toList=o.after.toList++[{on:=p,ground:=.data}]:=aB;rw[this,List.filter_append,mc,oa];have g:(List.filter (Region.binds .any) [({on:=p,ground:=.data}:Edge)])=[{on:=p,ground:=.data}]:=rfl;rw[g];simp
 .have I:∀z,(l.set q z)[i]?=some o:=fun z=>by rw[List.getElem?_set_ne (fun h=>e h.symm)];exact h
  split
  .exact⟨o,I _,⟨o.after,rfl⟩,fun _=>rfl,fun j=>⟨.inl,fun h=>h.elim id (fun h=>(e h.1).elim)⟩⟩
  .exact⟨o,h,⟨o.after,rfl⟩,fun _=>rfl,fun j=>⟨.inl,fun h=>h.elim id (fun h=>(e h.1).elim)⟩⟩
theorem DS{q p:Nat}{l:List Oper}{i:Nat}{Z:Oper}(h:(gN q p l)[i]?=some Z):∃o,l[i]?=some o:=by
 have:=(de.1 h).1;rw[wJ]at this;exact⟨_,aR this⟩
theorem Mz{q p:Nat}{l:List Oper}(j:Nat):((gN q p l)[j]?).bind (·.dst)=(l[j]?).bind (·.dst):=by
 cases h:l[j]? with
 |none=>
  rw[fg (by rw[wJ];exact DN.1 h)]
 |some o=>
  obtain⟨Z,i,⟨Y,rfl⟩,_⟩:=uf (q:=q) (p:=p) h;rw[i];rfl
theorem DT{q p:Nat}{l:List Oper}{Z:Array Bool}{i:Nat}(h:i∈Region.ready .any (gN q p l).toArray Z):i∈Region.ready .any l.toArray Z:=by
 obtain⟨L,Y,g,U⟩:=jr.1 h;simp only[]at Y;obtain⟨o,K⟩:=DS Y;obtain⟨z,V,_,_,M⟩:=uf (q:=q) (p:=p) K;rw[Y]at V;simp only[aA]at V;subst V;exact jr.2 ⟨o,K,g,fun j O=>U j ((M j).2 (.inl O))⟩
theorem ug{q p:Nat}{l:List Oper}{Z:Array Bool}{i:Nat}(h:i∈Region.ready .any l.toArray Z)(V:i=q->Z.getD p false=true):i∈Region.ready .any (gN q p l).toArray Z:=by
 obtain⟨o,Y,g,U⟩:=jr.1 h;simp only[]at Y;obtain⟨z,M,_,_,L⟩:=uf (q:=q) (p:=p) Y;refine jr.2 ⟨z,M,g,fun j O=>?_⟩;rcases(L j).1 O with h|⟨K,rfl⟩
 .exact U j h
 .exact V K
theorem MA{Z:Array Bool}{i p:Nat}(h:Z.getD p false=true):(Z.setIfInBounds i true).getD p false=true:=by
 simp only[gR,pZ]at *;split
 .split
  .rfl
  .rename_i Y g;subst Y;rw[zZ ac]at h;simp at h
 .exact h
theorem Ac{q p:Nat}{l:List Oper}:∀{L:List Nat}{Z:Array Bool},Z.getD p false=true->js l.toArray L Z->js (gN q p l).toArray L Z
 |[],Z,_,hv=>by
  show Region.ready .any (gN q p l).toArray Z=[];apply ue.2;intro i A;have:=DT A;rw[show Region.ready .any l.toArray Z=[]from hv]at this;simp at this
 |i::L,Z,hd,hv=>⟨ug hv.1 (fun _=>hd),Ac (MA hd) hv.2⟩
theorem DU{p q:Nat}(O:p≠q){l:List Oper}:∀{L:List Nat}{Z:Array Bool},Z.size=l.length->js l.toArray L Z->js (gN q p l).toArray L Z\/js (gN p q l).toArray L Z
 |[],Z,_,hv=>.inl <|by
  show Region.ready .any (gN q p l).toArray Z=[];apply ue.2;intro i A;have:=DT A;rw[show Region.ready .any l.toArray Z=[]from hv]at this;simp at this
 |i::L,Z,hs,hv=>by
  have C:i<Z.size:=by
   obtain⟨o,K,_⟩:=jr.1 hv.1;rw[hs];exact(de.1 K).1
  have Y:(Z.setIfInBounds i true).getD i false=true:=by
   simp[gR,pZ,C]
  by_cases V:i=q
  .subst V;exact .inr ⟨ug hv.1 (fun e=>(O e.symm).elim),Ac Y hv.2⟩
  .by_cases U:i=p
   .subst U;exact .inl ⟨ug hv.1 (fun e=>(V e).elim),Ac Y hv.2⟩
   .rcases DU O (by simpa using hs) hv.2 with h|h
    .exact .inl ⟨ug hv.1 (fun e=>(V e).elim),h⟩
    .exact .inr ⟨ug hv.1 (fun e=>(U e).elim),h⟩
theorem Ad{ops:Array Oper}:∀{L:List Nat}{Z:Array Bool},js ops L Z->∀i∈L,∃o,ops.toList[i]?=some o
 |[],_,_,i,A=>by simp at A
 |j::L,Z,hv,i,A=>by
  rcases ff.1 A with rfl|A
  .obtain⟨o,K,_⟩:=jr.1 hv.1;exact⟨o,K⟩
  .exact Ad hv.2 i A
theorem DV{P:Program}{Q:Exit->Act->World->Prop}{q p:Nat}{l:List Oper}{L:List Nat}{Z:Array Bool}{a:Act}{w:World}(Y:js l.toArray L Z)
 (h:wpOps P (gN q p l).toArray Q L a w):wpOps P l.toArray Q L a w:=by
 refine Aa (ops':=(gN q p l).toArray) (φ:=id) L a w (fun i A=>?_) ja;obtain⟨o,K⟩:=Ad Y i A;simp only[]at K;obtain⟨M,V,⟨U,rfl⟩,_⟩:=uf (q:=q) (p:=p) K;refine⟨o,_,by simpa using K,by simpa using V,⟨U,o.guard,rfl⟩,fun a=>?_⟩;have O:yielded (gN q p l).toArray a.tmps=yielded l.toArray a.tmps:=funext fun j=>by
  unfold yielded;have:=Mz (q:=q) (p:=p) (l:=l) j;simp only[List.getElem?_toArray,this]
 rw[O];rfl
structure PermD (ord:List Nat) (l:List Oper):Prop where
 len:ord.length=l.length
 bk:∀k:Nat,k<l.length->∃i,ord[k]?=some i/\i<l.length/\fY ord i=k
 lt:∀i:Nat,i<l.length->fY ord i<l.length/\ord[fY ord i]?=some i
 pre:∀(i:Nat) o,l[i]?=some o->(∀p∈preds o,p<l.length)/\∀j b,o.guard=some (j,b)->j<l.length
theorem MB{J:List Nat}{l:List Oper}(h:tN J l=true):PermD J l:=by
 unfold tN at h;simp only[dC,gS,jq]at h;obtain⟨⟨V,g⟩,U⟩:=h;refine⟨gP V,fun k Z=>?_,fun i A=>?_,fun i o K=>?_⟩
 .have:=(g k Z).1.1;split at this
  .rename_i i A;simp only[dC]at this;exact⟨i,A,by simpa [gQ]using this.1,gP this.2⟩
  .simp at this
 .have O:=(g i A).1.2;have Y:=(g i A).2;refine⟨by simpa [gQ]using O,?_⟩;split at Y
  .rename_i k Z;rw[Z,gP Y]
  .simp at Y
 .have:=U o (i5 K);refine⟨fun p hp=>by simpa [gQ]using this.1 p hp,fun j b C=>?_⟩;have F:=this.2;rw[C]at F;simpa [gQ]using F
theorem DW{U β:Type}{f:U->Option β}:∀{Y:List U},(∀x∈Y,(f x).isSome=true)->∀k:Nat,(Y.filterMap f)[k]?=(Y[k]?).bind f
 |[],_,k=>by simp
 |x::Y,h,k=>by
  obtain⟨y,O⟩:=Option.isSome_iff_exists.1 (h x fh);rw[List.filterMap_cons_some O];cases k with
  |zero=>simp[O]
  |succ k=>simp[DW (fun x I=>h x (fp _ I)) k]
section
variable {ord:List Nat} {l:List Oper} (hp:PermD ord l)
include hp
theorem PermD.at'{i:Nat}{o:Oper}(h:l[i]?=some o):(fF ord l)[fY ord i]?=some (oX ord o):=by
 have A:=(de.1 h).1;unfold fF;rw[DW (fun x I=>?_)]
 .rw[(hp.lt i A).2];simp[h]
 .obtain⟨k,j⟩:=z0.1 I;have Y:k<l.length:=by rw[<-hp.len];exact(de.1 j).1
  obtain⟨z,Z,g,_⟩:=hp.bk k Y;rw[j]at Z;simp only[aA]at Z;subst Z;rw[aR g];rfl
theorem PermD.length:(fF ord l).length=l.length:=by
 have:∀k,k<l.length->((fF ord l)[k]?).isSome=true:=fun k j=>by
  obtain⟨i,Z,g,o⟩:=hp.bk k j;have:=hp.at' (aR g);rw[o]at this;rw[this];rfl
 refine Nat.le_antisymm (eT (List.length_filterMap_le _ _) (by rw[hp.len];exact aM _)) ?_;rcases uc (fF ord l).length l.length with h|h
 .have:=this _ h;rw[fg (aM _)]at this;simp at this
 .exact h
theorem PermD.of{k:Nat}{Z:Oper}(h:(fF ord l)[k]?=some Z):∃i o,l[i]?=some o/\fY ord i=k/\Z=oX ord o:=by
 have j:k<l.length:=by rw[<-hp.length];exact(de.1 h).1
 obtain⟨i,V,g,Y⟩:=hp.bk k j;have:=hp.at' (aR g);rw[Y,h]at this;simp only[aA]at this;exact⟨i,_,aR g,Y,this⟩
theorem PermD.inj{i j:Nat}(A:i<l.length)(O:j<l.length)(h:fY ord i=fY ord j):i=j:=by
 have Z:=(hp.lt i A).2;rw[h,(hp.lt j O).2]at Z;simpa using Z.symm
theorem PermD.preds{o:Oper}:Ab.preds (oX ord o)=(Ab.preds o).map (fY ord):=by
 unfold Ab.preds oX;simp only[pc];rw[List.filter_map];have:(Region.binds .any ∘ fun e:Edge=>{e with on:=fY ord e.on})=Region.binds .any:=rfl;rw[this,List.filter_filter];simp only[qf,pc];rfl
def uh(J:List Nat)(l:List Oper)(x y:Array Bool):Prop:=x.size=l.length/\y.size=l.length/\∀i,i<l.length->y[fY J i]?=x[i]?
theorem uh.set{x y:Array Bool}(h:uh ord l x y){i:Nat}(A:i<l.length):uh ord l (x.setIfInBounds i true) (y.setIfInBounds (fY ord i) true):=by
 refine⟨by simpa using h.1,by simpa using h.2.1,fun j O=>?_⟩;simp only[pZ];by_cases e:i=j
 .subst e;rw[az rfl,az rfl,az (by rw[h.2.1];exact(hp.lt i A).1),az (by rw[h.1];exact A)]
 .rw[ai e,ai (fun I=>e (hp.inj A O I))];exact h.2.2 j O
theorem DX{x y:Array Bool}(h:uh ord l x y){i:Nat}(A:i<l.length):fY ord i∈Region.ready .any (fF ord l).toArray y↔i∈Region.ready .any l.toArray x:=by
 have K:=aR A;have M:=hp.at' K;rw[jr,jr];simp only[];have hd:∀(j:Nat) (b:Bool),j<l.length->y.getD (fY ord j) b=x.getD j b:=fun j b Z=>by
  simp only[gR,h.2.2 j Z]
 constructor
 .rintro⟨Y,V,g,O⟩;rw[M]at V;simp only[aA]at V;subst V;refine⟨_,K,by rw[<-hd i true A];exact g,fun p U=>?_⟩;rw[<-hd p false ((hp.pre i _ K).1 p U)];exact O _ (by rw[hp.preds];exact List.mem_map_of_mem U)
 .rintro⟨Y,V,g,O⟩;rw[K]at V;simp only[aA]at V;subst V;refine⟨_,M,by rw[hd i true A];exact g,fun p U=>?_⟩;rw[hp.preds]at U;obtain⟨C,o,rfl⟩:=l8.1 U;rw[hd C false ((hp.pre i _ K).1 C o)];exact O C o
theorem DY:∀{L:List Nat}{x y:Array Bool},uh ord l x y->js l.toArray L x->js (fF ord l).toArray (L.map (fY ord)) y
 |[],x,y,hs,hv=>by
  show Region.ready .any (fF ord l).toArray y=[];apply ue.2;intro k j;obtain⟨Y,V,_⟩:=jr.1 j;simp only[]at V;obtain⟨i,o,Z,g,_⟩:=hp.of V;have A:=(de.1 Z).1;rw[<-g]at j;have:=(DX hp hs A).1 j;rw[show Region.ready .any l.toArray x=[]from hv]at this;simp at this
 |i::L,x,y,hs,hv=>by
  obtain⟨o,K,_⟩:=jr.1 hv.1;have A:i<l.length:=(de.1 K).1;exact⟨(DX hp hs A).2 hv.1,DY (hs.set hp A) hv.2⟩
theorem MC{P:Program}{Q:Exit->Act->World->Prop}{L:List Nat}{Z:Array Bool}{a:Act}{w:World}(Y:js l.toArray L Z)
 (h:wpOps P (fF ord l).toArray Q (L.map (fY ord)) a w):wpOps P l.toArray Q L a w:=by
 refine Aa (ops':=(fF ord l).toArray) (φ:=fY ord) L a w (fun i A=>?_) h;obtain⟨o,K⟩:=Ad Y i A;simp only[]at K;have M:=hp.at' K;refine⟨o,oX ord o,by simpa using K,rZ,⟨_,_,rfl⟩,fun a=>?_⟩;unfold Region.wanted oX;cases C:o.guard with
 |none=>rfl
 |some I=>
  obtain⟨j,b⟩:=I;have O:=(hp.pre i o K).2 j b C;have V:=hp.at' (aR O);simp only[];unfold yielded;simp only[List.getElem?_toArray,V,aR O];rfl
end
theorem T.beq_eq{U:Type}{F:U->U->Bool}(M:∀a b,F a b=true->a=b):∀{x y:T U},T.beq F x y=true->x=y
 | .e,.e,_=>rfl
 | .e,.n _ _ _,h=>by simp[T.beq]at h
 | .n _ _ _,.e,h=>by simp[T.beq]at h
 | .n v l r,.n Z K A,h=>by
   simp only[T.beq,dC]at h;rw[T.beq_eq M h.1.2,T.beq_eq M h.2];have i:=h.1.1;cases v<;>cases Z <;>simp only[cC]at i
   .rfl
   .rw[M _ _ i]
theorem MD{ops:List Oper}{m Z:ax}{z g:Hp}(h:zm ops m Z z g=true):(∀o∈ops,∀d,o.dst=some d->m.at d=Z.at d)/\z=g:=by
 unfold zm at h;simp only[dC,gS]at h;refine⟨fun o K d hd=>?_,?_⟩
 .have:=h.1.1 o K;rw[hd]at this;exact AV.beq_eq this
 .have i:=gP h.1.2;have Y:=T.beq_eq (fun a b=>HB.beq_eq) h.2;cases z;cases g;simp only[]at i Y;rw[i,Y]
section
variable {P:Program} {B:Bs} {cfg:Cfg}
theorem ME{N t:Nat}{E m:ax}{U:Option Tmp}{v:AV}(h:d9 N E U v=some m)(I:U≠some t):m.at t=E.at t:=by
 unfold d9 at h;split at h
 .rename_i d;split at h
  .simp only[aA]at h;rw[<-h,rR,ai (fun e=>I lB)]
  .simp at h
 .simp only[aA]at h;rw[<-h]
theorem DZ{ih:Task->Res}{f N t:Nat}{J:List Oper}:∀{rs:List Rec}{l:List Oper}{E E':ax}{H H':Hp},kM P cfg ih f N J rs l E H E' H'->(∀o∈l,o.dst≠some t)->E'.at t=E.at t
 |[],[],_,_,_,_,h,_=>by rw[h.1]
 |[],_::_,_,_,_,_,h,_=>by simp[kM]at h
 |_::_,[],_,_,_,_,h,_=>by simp[kM]at h
 |r::rs,o::l,E,E',H,H',h,ht=>by
  obtain⟨_,_,_,_,_,_,E1,hp,m⟩:=h;rw[DZ m (fun o K=>ht o (fp _ K)),ME hp (ht o fh)]
theorem D0{ih:Task->Res}{f N t:Nat}{ops:List Oper}{E Z:ax}{H H':Hp}{x:AX}(h:j0 P cfg ih f N ops E H=.done x Z H')(I:∀o∈ops,o.dst≠some t):x=.normal/\Z.at t=E.at t:=by
 unfold j0 at h;split at h
 .split at h
  .rename_i E1 H1 rs O;split at h
   .simp only[Res.done.injEq]at h;obtain⟨rfl,rfl,rfl⟩:=h;exact⟨rfl,DZ (ua O) I⟩
   .simp at h
  .simp at h
 .simp at h
theorem MF{J:List Nat}{l:List Oper}{o:Oper}(h:o∈fF J l):∃Z∈l,o.dst=Z.dst:=by
 unfold fF at h;rw[List.mem_filterMap]at h;obtain⟨i,_,g⟩:=h;split at g
 .rename_i Z K;simp only[aA]at g;subst g;exact⟨Z,i5 K,rfl⟩
 .simp at g
theorem D1{q p:Nat}{l:List Oper}{o:Oper}(h:o∈gN q p l):∃Y∈l,o.dst=Y.dst:=by
 obtain⟨i,A⟩:=z0.1 h;obtain⟨g,Z⟩:=DS A;obtain⟨z,V,⟨O,U⟩,_⟩:=uf (q:=q) (p:=p) Z;rw[A]at V;simp only[aA]at V;exact⟨g,i5 Z,by rw[V,U]⟩
theorem D2{ops:List Oper}{zdu r2:Res}{x:AX}{Z:ax}{H':Hp}(h:pV ops zdu r2=.done x Z H'):
 x=.normal/\zdu=.done .normal Z H'/\∃Y,r2=.done .normal Y H'/\∀o∈ops,∀d,o.dst=some d->Z.at d=Y.at d:=by
 unfold pV at h;split at h
 .split at h
  .rename_i K;simp only[Res.done.injEq]at h;obtain⟨rfl,rfl,rfl⟩:=h;obtain⟨i,g⟩:=MD K;subst g;exact⟨rfl,rfl,_,rfl,i⟩
  .simp at h
 .simp at h
theorem Ae{ih:Task->Res}{f N t:Nat}{E Y:ax}{H H':Hp}{x:AX}:∀{j:Plan}{ops:List Oper},zfx P cfg ih f N E H j ops=.done x Y H'->(∀o∈ops,o.dst≠some t)->Y.at t=E.at t
 | .text,ops,h,ht=>(D0 h ht).2
 | .perm ord,ops,h,ht=>by
   simp only[zfx]at h;split at h
   .exact(D0 h (fun o K=>by obtain⟨Z,i,g⟩:=MF K;rw[g];exact ht Z i)).2
   .simp at h
 | .split p q a b,ops,h,ht=>by
   simp only[zfx]at h;split at h
   .simp at h
   .obtain⟨_,i,_⟩:=D2 h;exact Ae i (fun o K=>by obtain⟨Z,i,g⟩:=D1 K;rw[g];exact ht Z i)
theorem i9.same{N Y:Nat}{G:Gh}{w:World}{x:AX}{m Z:ax}{H':Hp}(M:∀t,m.at t=Z.at t){e:Exit}{a:Act}{w':World}(h:i9 B N Y G w x Z H' e a w'):i9 B N Y G w x m H' e a w':=by
 obtain⟨i,V,g,o,U⟩:=h;exact⟨i,V,⟨g.size,fun t=>by rw[M];exact g.slots t⟩,o,U⟩
theorem Af(fit:Fit P){n:Nat}{ih:Task->Res}(m:Snd P B n ih){f N:Nat}{E:ax}{H:Hp}{G:Gh}{w:World}{a:Act}(h:R B H w G)(I:TR N G E a)(hd:a.defers=[]){Q:Exit->Act->World->Prop}:
 ∀(j:Plan) (l:List Oper) {E':ax}{H':Hp}{x:AX},zfx P B.cfg ih f N E H j l=.done x E' H'->(∀e A Z,i9 B N H.next G w x E' H' e A Z->Q e A Z)->∀L,js l.toArray L (Array.replicate l.length false) ->
  wpOps P l.toArray Q L a {w with drawn:=w.drawn+1}
 | .text,l,E',H',x,hr,hQ,L,hv=>z9 L _ _ a _ (by
  have:=DQ (ops:=l.toArray) fit m hr h I hd hQ;simpa using this) hv
 | .perm ord,l,E',H',x,hr,hQ,L,hv=>by
   simp only[zfx]at hr;split at hr
   .rename_i hp;have hp:=MB hp;refine MC hp hv (z9 _ _ _ a _ (DQ (ops:=(fF ord l).toArray) fit m hr h I hd hQ) ?_);refine DY hp ⟨aB,by simp[hp.length],fun i F=>?_⟩ hv;have:=(hp.lt i F).1;simp[hp.length,F,this]
   .simp at hr
 | .split p q pa pb,l,E',H',x,hr,hQ,L,hv=>by
   simp only[zfx]at hr;split at hr
   .simp at hr
   .rename_i O;have V:p≠q:=zq O;obtain⟨rfl,C,E2,g,h3⟩:=D2 hr;rcases DU V aB hv with M|z
    .exact DV hv (Af fit m h I hd pa _ C hQ L (by rw[wJ];exact M))
    .have U:∀t,E'.at t=E2.at t:=fun t=>by
      by_cases I:∃o∈l,o.dst=some t
      .obtain⟨o,K,hd⟩:=I;exact h3 o K t hd
      .have J:∀o∈l,o.dst≠some t:=fun o K hd=>I ⟨o,K,hd⟩;have Y:∀q p,∀o∈gN q p l,o.dst≠some t:=fun q p o K=>by obtain⟨o',g1,g2⟩:=D1 K;rw[g2];exact J o' g1
       rw[Ae C (Y _ _),Ae g (Y _ _)]
     exact DV hv (Af fit m h I hd pb _ g (fun e A Z hp=>hQ _ _ _ (i9.same U hp)) L (by rw[wJ];exact z))
theorem MG(fit:Fit P){n:Nat}{ih:Task->Res}(m:Snd P B n ih){f N id:Nat}{ops:Array Oper}{E Z:ax}{H H':Hp}{G:Gh}{w:World}{x:AX}{a:Act}{j:Plan}(hr:zfx P B.cfg ih f N E H j ops.toList=.done x Z H')
 (h:R B H w G) (I:TR N G E a) (hd:a.defers=[]):Code.wp P (.region id ops true) (i9 B N H.next G w x Z H') a w:=by
 refine My fit.mixed fun L g=>?_;have:=Af fit m h I hd j ops.toList hr (fun _ _ _ hp=>hp) L (by simpa using g);simpa using this
end
structure Grow (w:World) (F:Nat->Nat->Option Value) (w':World) (F':Nat->Nat->Option Value):Prop where
 below:Below w.heap.size w w'
 more:∀b o v,F b o=some v->F' b o=some v
 icy:∀b o v,F' b o=some v->F b o=some v\/w.heap.size<=b
 frz:∀b o v,F' b o=some v->w'.cell? ⟨b,o,none⟩=some v
def bc(P:Program)(ρ:Nat->Int)(f:FuncId)(args:List AV)(r:AV):Prop:=
 (∃V,P.funcs[f]?=some V/\V.body.isSome=true)/\∀(G:Gh) (w:World) (vs:List Value),G.ρ=ρ->(∀b o v,G.F b o=some v->w.cell? ⟨b,o,none⟩=some v)->bW G args vs ->
   Calls P f vs.toArray w (fun e Y=>∃v Z,e=.returned v/\VR {G with F:=Z} r v/\Grow w G.F Y Z)
def MH(P:Program)(B:Bs):Prop:=∀f args r,B.cfg.call f args=some r->bc P B.ρ f args r
theorem Ag{w w':World}(h:Below w.heap.size w w'){b o:Nat}(z:b<w.heap.size):w'.cell? ⟨b,o,none⟩=w.cell? ⟨b,o,none⟩/\w'.frozen? ⟨b,o,none⟩=w.frozen? ⟨b,o,none⟩:=
 ⟨by simp only[World.cell?,h.block b z],h.frozen (p:=⟨b,o,none⟩) z⟩
theorem R.grow{B:Bs}{H:Hp}{w w':World}{G:Gh}{Y:Nat->Nat->Option Value}(h:R B H w G)(g:Grow w G.F w' Y):Step B H.next G w H w' {G with F:=Y}:=by
 have L:Ext G {G with F:=Y}:=⟨fun _ _ h=>h,g.more,rfl⟩;have M:∀{b o:Nat}{v:Value},w.cell? ⟨b,o,none⟩=some v->w'.cell? ⟨b,o,none⟩=some v:=fun hc=>by rw[(Ag g.below (lZ hc)).1];exact hc
 refine⟨?_,L,⟨g.below.os,g.below.tape,g.below.output,g.below.size,fun k A _=>g.below.block k A⟩,fun r b o x hr=>.inl hr,fun _ _ h=>.inl h,aM _,fun b o v J=>(g.icy b o v J).imp id fun z=>eT h.base z⟩;exact{
  base:=eT h.base g.below.size
  dom:=h.dom
  lt:=fun r b o x hr=>⟨(h.lt r b o x hr).1,gz (h.lt r b o x hr).2 g.below.size⟩
  cells:=fun r b o x V imm K hr hc j c O=>by
   obtain⟨v,i,U⟩:=h.cells r b o x V imm K hr hc j c O;exact⟨v,M i,U.mono L⟩
  imm:=fun r b o x V imm K hr hc j O Z=>let ⟨v,J⟩:=h.imm r b o x V imm K hr hc j O Z;⟨v,g.more _ _ _ J⟩
  ext:=h.ext
  fits:=h.fits
  room:=fun r b o x V imm K hr hc j O Z=>by
   obtain⟨⟨v,i⟩,U,h3⟩:=h.room r b o x V imm K hr hc j O Z;have z:=(h.lt r b o x hr).2;refine⟨⟨v,M i⟩,by rw[(Ag g.below z).2];exact U,?_⟩;show Y b (o+j)=none;cases hF:Y b (o+j)with
   |none=>rfl
   |some u=>rcases g.icy _ _ _ hF with I|I
            ·rw[h3]at I;simp at I
            .omega
  apart:=h.apart
  map:=fun r b o x m hr hc=>by
   obtain⟨ms,C,i,U⟩:=h.map r b o x m hr hc;exact⟨ms,C,by rw[g.below.block b (h.lt r b o x hr).2];exact i,U.mono L⟩
  mapApart:=h.mapApart
  frz:=g.frz
  val:=h.val
  sym:=h.sym}
theorem Ah(z:Nat):∀(n:Nat) (l:List AV),(jd z n l).length=n
 |0,_=>rfl
 |n+1,l=>by simp[jd,Ah z n]
theorem ui(z:Nat):∀(n:Nat) (l:List AV) (i:Nat) (Z:List AV),l.length=n*z->(jd z n l)[i]?=some Z->Z.length=z/\∀(j:Nat) c,Z[j]?=some c->l[i*z+j]?=some c
 |0,_,i,Z,_,h=>by simp[jd]at h
 |n+1,l,i,Z,hl,h=>by
  rw[lz,wI]at hl;simp only[jd]at h;cases i with
  |zero=>
   simp at h;subst h;refine⟨rV,fun j c O=>?_⟩;rw[mQ]at O;split at O
   .rw[tZ,bC];exact O
   .simp at O
  |succ i=>
   obtain⟨Y,g⟩:=ui z n (l.drop z) i Z wG ja;refine⟨Y,fun j c O=>?_⟩;have:=g j c O;rw[nW]at this;rw[lz,wI,show i*z+z+j=z+(i*z+j) by omega];exact this
theorem wK{B:Bs}{w:World}{g:AV->Hp->Option (AV×Hp)}
 (C:∀(v:AV) (H:Hp) (q:AV) (H':Hp) (G:Gh) (x:Value),R B H w G->VR G v x->g v H=some (q,H')->∃i,Step B H.next G w H' w i/\VR i q x) :
 ∀(Y:List AV) (vs:List Value) (H:Hp) (I:List AV) (H':Hp) (G:Gh),R B H w G->bW G Y vs->iC g Y H=some (I,H')->∃i,Step B H.next G w H' w i/\bW i I vs
 |[],vs,H,I,H',G,h,hv,hi=>by
  simp only[iC,cr]at hi;obtain⟨rfl,rfl⟩:=hi;exact⟨G,jm h,hv⟩
 |c::Y,[],H,I,H',G,h,hv,hi=>by have:=hv.1;simp at this
 |c::Y,v::vs,H,I,H',G,h,hv,hi=>by
  simp only[iC]at hi;split at hi
  .rename_i d H1 U;split at hi
   .rename_i V O M;simp only[cr]at hi;obtain⟨rfl,rfl⟩:=hi;obtain⟨L,K⟩:=hv.of_cons;obtain⟨J,A,zdu⟩:=C c H d H1 G v h L U;obtain⟨F,Z,r2⟩:=wK C Y vs H1 V O J A.r (K.mono A.ext) M;exact⟨F,A.trans Z,jG (zdu.mono Z.ext) r2⟩
   .simp at hi
  .simp at hi
theorem wL{B:Bs}{w:World}:∀(n:Nat) (v:AV) (H:Hp) (q:AV) (H':Hp) (G:Gh) (x:Value),R B H w G->VR G v x->fG n v H=some (q,H')->∃G',Step B H.next G w H' w G'/\VR G' q x
 |0,_,_,_,_,_,_,_,_,h=>by simp[fG]at h
 |n+1,v,H,q,H',G,x,h,hv,A=>by
  unfold fG at A;split at A
  .rename_i r V Y z;split at A
   .rename_i cs I tip K;split at A
    .rename_i F;simp only[dC]at F;have hle1:=t4 F.1;have hle2:=t4 F.2;split at A
     .rename_i l H1 C;simp only[cr]at A;obtain⟨rfl,rfl⟩:=A;cases hv with
      |sl hr hl hcx=>
       rename_i b o xx cap;have O:=h.cells r b o xx cs I tip hr K;have s1:=tV h hr K (n:=max I (V+Y*z)) ac ac tip id;obtain⟨Z,g,ho2⟩:=O.list;have hlen:((cs.drop V).take (Y*z)).length=Y*z:=by rw[iX,iD];omega
       obtain⟨G2,s2,r2⟩:=wK (wL n) _ ((Z.drop V).take (Y*z)) _ l H1 _ s1.r (((g.drop V).take (Y*z)).mono s1.ext) C;refine⟨G2,s1.trans s2,?_⟩;have hll:l.length=Y*z:=by
        have e1:=r2.1;have e2:=((g.drop V).take (Y*z)).1;rw[hlen]at e2;omega
       have hlc:=Ah z Y l;have hovl:Z.length=cs.length:=g.1.symm;have hat:∀m,m<Y*z->∃v,Z[V+m]?=some v/\G2.F b (o+V+m)=some v/\∀c,l[m]?=some c->VR G2 c v:=fun m hm=>by
        have L:V+m<Z.length:=ac;refine⟨Z[V+m],aR L,?_,fun c hc=>?_⟩
        .refine s2.ext.F _ _ _ ?_;have M:=ho2 (V+m) Z[V+m] (aR L);show(G.ice w b o (max I (V+Y*z))).F b (o+V+m)=some Z[V+m];simp only[Gh.ice];rw[<-io]at M;split
         .rename_i v' hv';have:=h.frz _ _ _ hv';rw[M]at this;exact this.symm
         .rw[az ⟨mP,ac,ac⟩];exact M
        .refine r2.2 m c _ hc ?_;rw[mQ,az hm,nW];exact aR L
       have hin:∀i j,i<Y->j<z->i*z+j<Y*z:=fun i j A hj=>by
        calc i*z+j<i*z+z:=by omega
         _=(i+1)*z:=by rw[lz,wI]
         _<=Y*z:=rX _ A
       have key:VR G2 (.lst (jd z Y l)) (.slice (some ⟨b,o+V,none⟩) (jd z Y l).length cap):=by
        refine .lst (fun i j=>(Z[V+(i*z+j)]?).getD undef) (z:=z) (fun i J U=>(ui z Y l i J hll U).1) (fun i j A hj=>?_) (fun i j J c U hcj=>?_) (by rw[hlc];exact hl)
        .rw[hlc]at A;obtain⟨v,e1,e2,_⟩:=hat _ (hin i j A hj);rw[e1,io (o+V)];exact e2
        .have hm:=(ui z Y l i J hll U).2 j c hcj;have L:=(de.1 hm).1;obtain⟨v,e1,_,e3⟩:=hat (i*z+j) ac;rw[e1];exact e3 c hm
       rw[hlc]at key;exact key
     .simp at A
    .simp at A
   .simp at A
  .rename_i cs;split at A
   .rename_i ds H1 C;simp only[cr]at A;obtain⟨rfl,rfl⟩:=A;cases hv with
    |agg hl hvs=>
     obtain⟨G',s,r⟩:=wK (wL n) cs _ H ds H1 G h ⟨hl,hvs⟩ C;exact⟨G',s,.agg r.1 r.2⟩
   .simp at A
  .simp at A
  .simp at A
  .simp only[cr]at A;obtain⟨rfl,rfl⟩:=A;exact⟨G,jm h,hv⟩
section
variable {P:Program} {B:Bs} {G:Gh} {H H':Hp} {w:World}
theorem D3:∀(args:List AV) (i:Nat) (E:ax) (t:Nat),(zds i args E).at t=if i<=t/\t<i+args.length then args.getD (t-i) zev else E.at t
 |[],i,E,t=>by
  simp only[zds,jF,mT];rw[ai ac]
 |v::vs,i,E,t=>by
  simp only[zds,D3 vs (i+1),dq];by_cases Z:i+1<=t/\t<i+1+vs.length
  .rw[az Z,az ac,show t-i=(t-(i+1))+1 by omega];rfl
  .rw[ai Z,rR];by_cases g:t=i
   .subst g;rw[az rfl,az ac];simp
   .rw[ai g,ai ac]
theorem Ai:∀(d t:Nat),ax.at (tO d) t=zev
 |0,_=>rfl
 |d+1,t=>by
  unfold ax.at tO;rw[p7];cases h:Nat.beq t 0 with
  |true=>rfl
  |false=>
   rw[zfR];cases g:Nat.beq (Nat.mod t 2) 1 with
   |true=>exact Ai d _
   |false=>exact Ai d _
theorem MI(N t:Nat):ax.at (pW N) t=zev:=Ai _ _
theorem TR.start{args:List AV}{vs:List Value}(h:bW G args vs)(z:Nat):
 TR (max z args.length) G (zds 0 args (pW (max z args.length))) {tmps:=vs.toArray++Array.replicate (z-vs.toArray.size) undef,defers:=[] }:=by
 have F:=h.1;refine⟨cf,fun t=>?_⟩;rw[D3];simp only[cG,fR,bC,ww];by_cases I:t<args.length
 .rw[az I];have Z:args.getD t zev=args[t]:=by simp[List.getD,I]
  rw[Z];have:(vs.toArray++Array.replicate (z-vs.toArray.size) undef).getD t undef=vs[t]' ac:=by
   rw[gR,Array.getElem?_append_left cf];simp[show t<vs.length by omega]
  rw[this];exact h.2 t _ _ (aR I) (aR ac)
 .rw[ai I,MI];have:(vs.toArray++Array.replicate (z-vs.toArray.size) undef).getD t undef=undef:=by
   rw[gR,Array.getElem?_append_right cf];simp only[DM];split<;>rfl
  rw[this];exact tT G
theorem MJ(h:R B H w G){N:Nat}{E:ax}{a:Act}(Z:TR N G E a){r:ResultVar}{c:AV}(hr:zfa P E H r=some c):
 ∃v,(match r with
  | .tmp t=>pure (a.tmps.getD t undef)
  | .cell x t=>do loadVar t (<-asAddr (a.tmps.getD x undef)):Sem Value).run P w=.ok v w/\VR G c v:=by
 cases r with
 |tmp t=>
  simp only[zfa,aA]at hr;subst hr;exact⟨_,rfl,Z.slots t⟩
 |cell x t=>
  simp only[zfa]at hr;have I:=Z.slots x;obtain⟨v,i,g⟩:=Dl (P:=P) h I hr;refine⟨v,?_,g⟩;show(do loadVar t (<-asAddr (a.tmps.getD x undef)):Sem Value).run P w=.ok v w;generalize a.tmps.getD x undef=U at I i⊢;generalize E.at x=Y at I hr;cases I<;>simp[zeX]at hr<;>simpa [Instr.loadAt,Instr.sureAddr,asAddr]using i
theorem D4(h:R B H w G){N:Nat}{E:ax}{a:Act}(I:TR N G E a):∀{rs:List ResultVar}{Y:List AV},ze0 P E H rs=some Y ->
 ∃vs,(rs.mapM (fun
  | .tmp t=>pure (a.tmps.getD t undef)
  | .cell x t=>do loadVar t (<-asAddr (a.tmps.getD x undef)):ResultVar->Sem Value)).run P w=.ok vs w/\bW G Y vs
 |[],Y,hr=>by
  simp only[ze0,aA]at hr;subst hr;exact⟨[],aB,lY G⟩
 |r::rs,Y,hr=>by
  simp only[ze0]at hr;split at hr
  .rename_i c L i g;simp only[aA]at hr;subst hr;obtain⟨v,V,Z⟩:=MJ (P:=P) h I i;obtain⟨vs,zeb,k2⟩:=D4 h I g;refine⟨v::vs,?_,jG Z k2⟩;rw[List.mapM_cons];simp only[dO,V,dW,zeb,iE]
  .simp at hr
theorem D5(h:R B H w G){N:Nat}{E:ax}{a:Act}(I:TR N G E a){fn:Func}{r:AV}(hr:rL P fn.results.toList E H=.val r H'):
 H'=H/\∃v,(results fn a.tmps).run P w=.ok v w/\VR G r v:=by
 unfold rL at hr;split at hr
 .rename_i Y M;simp only[Res.val.injEq]at hr;obtain⟨rfl,rfl⟩:=hr;obtain⟨vs,i,g⟩:=D4 (P:=P) h I M;refine⟨rfl,?_⟩;have O:(results fn a.tmps).run P w=.ok (if h:vs.toArray.size=1 then vs.toArray[0]else .tuple vs.toArray) w:=by
   unfold results;rw[Array.mapM_eq_mapM_toList];simp only[dO,Sem.run_map];exact kL (fun r:Result (List Value)=>(r.andThen fun a Z=>Result.ok a.toArray Z).andThen fun a Z=>Sem.run P (pure (if h:a.size=1 then a[0]else Value.tuple a)) Z) i
  refine⟨_,O,?_⟩
  match Y,vs,g with
  |[],[],g=>exact .tup (vs:=[]) rfl aB
  |[c],[v],g=>exact g.of_cons.1
  |c::c'::Y,v::v'::vs,g=>
   have:¬(v::v'::vs).toArray.size=1:=aB;rw[dif_neg this];exact .tup g.1 g.2
  |[],_::_,g=>have:=g.1;simp at this
  |[_],[],g=>have:=g.1;simp at this
  |[_],_::_::_,g=>have:=g.1;simp at this
  |_::_::_,[],g=>have:=g.1;simp at this
  |_::_::_,[_],g=>have:=g.1;simp at this
 .simp at hr
theorem Aj(L:Fit P){n:Nat}{ih:Task->Res}(m:Snd P B n ih){f:FuncId}{args:List AV}{r:AV}(K:zfX P ih f args H=.val r H'){vs:List Value}(h:R B H w G)(J:bW G args vs):
 (∃V,P.funcs[f]?=some V/\V.body.isSome=true)/\Calls P f vs.toArray w (fun e U=>∃v i,e=.returned v/\VR i r v/\Step B H.next G w H' U i):=by
 unfold zfX at K;split at K
 .rename_i V F;split at K
  .rename_i c hc;refine⟨⟨V,F,by rw[hc];rfl⟩,calls_of_wp F hc ?_⟩;have Y:=TR.start J V.ntmps;split at K
   .rename_i E1 H1 A;refine o9 (fun e I U M=>?_) (m.code _ _ _ _ _ _ _ _ A G w _ h Y rfl);obtain⟨rfl,i,Z,j,hd⟩:=M;obtain⟨rfl,v,O,g⟩:=D5 (P:=P) j.r Z K;exact⟨hd,v,O,v,i,rfl,g,j⟩
   .rename_i E1 H1 A;refine o9 (fun e I U M=>?_) (m.code _ _ _ _ _ _ _ _ A G w _ h Y rfl);obtain⟨rfl,i,Z,j,hd⟩:=M;obtain⟨rfl,v,O,g⟩:=D5 (P:=P) j.r Z K;exact⟨hd,v,O,v,i,rfl,g,j⟩
   .simp at K
  .simp at K
 .simp at K
theorem Ak{n:Nat}{ih:Task->Res}(C:Snd P B n ih){f N:Nat}{b:Code}{r:Res}{x:AX}{Z:ax}(K:lj ih f N b r=.done x Z H'):
 ∃F E1 H1,r=.done F E1 H1/\((F=.normal/\ih (.code f N b E1 H1)=.done x Z H')\/(F≠.normal/\x=F/\Z=E1/\H'=H1)):=by
 unfold lj at K;split at K
 .rename_i E1 H1;exact⟨.normal,E1,H1,rfl,.inl ⟨rfl,K⟩⟩
 .rename_i M;subst K;exact⟨x,Z,H',rfl,.inr ⟨fun e=>by subst e;exact M _ _ rfl,rfl,rfl,rfl⟩⟩
theorem MK(fit:Fit P){n:Nat}{ih:Task->Res}(m:Snd P B n ih){f N:Nat}{c:Code}{E:ax}{x:AX}{C:ax}(K:step P B.cfg ih (.code f N c E H)=.done x C H')
 {a:Act} (h:R B H w G) (Y:TR N G E a) (hd:a.defers=[]):Code.wp P c (i9 B N H.next G w x C H') a w:=by
 cases c with
 |skip=>
  simp only[step,Res.done.injEq]at K;obtain⟨rfl,rfl,rfl⟩:=K;exact wp_skip ⟨rfl,G,Y,jm h,hd⟩
 |region id ops draw=>
  cases draw with
  |false=>
   exact wp_region_list (zS fit m ops.toList K h Y hd (fun _ _ _ hp=>hp))
  |true=>exact MG fit m K h Y hd
 |seq p q=>
  obtain⟨F,E1,H1,V,g⟩:=Ak m K;refine wp_seq (o9 (fun e A O M=>?_) (m.code _ _ _ _ _ _ _ _ V G w a h Y hd));obtain⟨rfl,i,Z,j,I⟩:=M;rcases g with⟨rfl,g⟩|⟨U,rfl,rfl,rfl⟩
  .exact o9 (fun e a w M=>wE j M) (m.code _ _ _ _ _ _ _ _ g i O A j.r Z I)
  .cases x with
   |normal=>exact(U rfl).elim
   |exit id=>exact⟨rfl,i,Z,j,I⟩
   |ret=>exact⟨rfl,i,Z,j,I⟩
 |cond y p q=>
  simp only[step,pX]at K;split at K
  .rename_i L;have z:=zR Y L;have:a.eval y=.bool true:=by generalize a.eval y=v at z;cases z;rfl
   exact wp_cond_true this (m.code _ _ _ _ _ _ _ _ K G w a h Y hd)
  .rename_i L;have z:=zR Y L;have:a.eval y=.bool false:=by generalize a.eval y=v at z;cases z;rfl
   exact wp_cond_false this (m.code _ _ _ _ _ _ _ _ K G w a h Y hd)
  .simp at K
 |block id p=>
  simp only[step]at K;cases V:ih (.code f N p E H)with
  |done F E1 H1=>
   rw[V]at K;refine wp_block (o9 (fun e A O M=>?_) (m.code _ _ _ _ _ _ _ _ V G w a h Y hd));obtain⟨rfl,i,Z,j,I⟩:=M;cases F with
   |normal=>
    simp only[zfT,Res.done.injEq]at K;obtain⟨rfl,rfl,rfl⟩:=K;exact⟨rfl,i,Z,j,I⟩
   |ret=>
    simp only[zfT,Res.done.injEq]at K;obtain⟨rfl,rfl,rfl⟩:=K;exact⟨rfl,i,Z,j,I⟩
   |exit J=>
    simp only[zfT]at K;cases z:Nat.beq J id with
    |true=>
     rw[z]at K;simp only[Res.done.injEq]at K;obtain⟨rfl,rfl,rfl⟩:=K;have:=gP z;subst this;simp only[zP,Exit.inBlock,bT];exact⟨rfl,i,Z,j,I⟩
    |false=>
     rw[z]at K;simp only[Res.done.injEq]at K;obtain⟨rfl,rfl,rfl⟩:=K;have:=zq z;simp only[zP,Exit.inBlock];rw[ai this];exact⟨rfl,i,Z,j,I⟩
  |val v H1=>rw[V]at K;simp[zfT]at K
  |fail=>rw[V]at K;simp[zfT]at K
 |loop p=>
  refine wp_loop_rounds (n+1) ?_;rw[rounds_succ];obtain⟨F,E1,H1,V,g⟩:=Ak m K;refine o9 (fun e A O M=>?_) (m.code _ _ _ _ _ _ _ _ V G w a h Y hd);obtain⟨rfl,i,Z,j,I⟩:=M;rcases g with⟨rfl,g⟩|⟨U,rfl,rfl,rfl⟩
  .exact zQ (fun e a w M=>wE j M) (m.loop _ _ _ _ _ _ _ _ g i O A j.r Z I)
  .cases x with
   |normal=>exact(U rfl).elim
   |exit id=>exact⟨rfl,i,Z,j,I⟩
   |ret=>exact⟨rfl,i,Z,j,I⟩
 |exit id=>
  simp only[step,Res.done.injEq]at K;obtain⟨rfl,rfl,rfl⟩:=K;exact wp_exit ⟨rfl,G,Y,jm h,hd⟩
 |ret=>
  simp only[step,Res.done.injEq]at K;obtain⟨rfl,rfl,rfl⟩:=K;exact wp_ret ⟨rfl,G,Y,jm h,hd⟩
 |rangeFunc _ _ _ _=>simp[step]at K
 |scope _=>simp[step]at K
 |label _=>simp[step]at K
 |goto _=>simp[step]at K
 |refuse _=>simp[step]at K
theorem ML(Y:Fit P){n:Nat}{ih:Task->Res}(m:Snd P B n ih){f N:Nat}{c:Code}{E:ax}{x:AX}{V:ax}(U:step P B.cfg ih (.code f N (.loop c) E H)=.done x V H')
 {a:Act} (h:R B H w G) (O:TR N G E a) (hd:a.defers=[]):Code.rounds P c (i9 B N H.next G w x V H') (n+1) a w:=by
 rw[rounds_succ];obtain⟨F,E1,H1,J,g⟩:=Ak m U;refine o9 (fun e A L M=>?_) (m.code _ _ _ _ _ _ _ _ J G w a h O hd);obtain⟨rfl,i,K,j,I⟩:=M;rcases g with⟨rfl,g⟩|⟨Z,rfl,rfl,rfl⟩
 .exact zQ (fun e a w M=>wE j M) (m.loop _ _ _ _ _ _ _ _ g i L A j.r K I)
 .cases x with
  |normal=>exact(Z rfl).elim
  |exit id=>exact⟨rfl,i,K,j,I⟩
  |ret=>exact⟨rfl,i,K,j,I⟩
theorem D6(fit:Fit P)(hc:MH P B):∀n,Snd P B n (ev P B.cfg n)
 |0=>⟨fun _ _ _ _ _ h=>by simp[ev]at h,fun _ _ _ _ _ _ _ _ h=>by simp[ev]at h,fun _ _ _ _ _ _ _ _ h=>by simp[ev]at h⟩
 |n+1=>by
  have m:=D6 fit hc n;have he:ev P B.cfg (n+1)=step P B.cfg (ev P B.cfg n):=rfl;rw[he];refine⟨fun f args H r H' K G w vs h L=>?_,fun f N c E H x E' H' K G w a h I hd=>MK fit m K h I hd,fun f N c E H x E' H' K G w a h I hd=>ML fit m K h I hd⟩;have F:∀{G:Gh}{args:List AV}{vs:List Value}{H:Hp}{A:AV},B.cfg.call f args=some A->R B H w G->bW G args vs ->
   (∃V,P.funcs[f]?=some V/\V.body.isSome=true)/\Calls P f vs.toArray w (fun e Y=>∃v i,e=.returned v/\VR i A v/\Step B H.next G w H Y i):=fun{G args vs H A} hr h L=>by
   obtain⟨C,g⟩:=hc f args A hr;refine⟨C,(g G w vs h.val h.frz L).mono fun e Y o=>?_⟩;obtain⟨v,F',rfl,M,hg⟩:=o;exact⟨v,_,rfl,M,h.grow hg⟩
  have Z:∀{G:Gh}{args:List AV}{vs:List Value}{H H':Hp}{r:AV},lk P B.cfg (ev P B.cfg n) f args H=.val r H'->R B H w G->bW G args vs ->
   (∃V,P.funcs[f]?=some V/\V.body.isSome=true)/\Calls P f vs.toArray w (fun e Y=>∃v i,e=.returned v/\VR i r v/\Step B H.next G w H' Y i):=fun{G args vs H H' r} K h L=>by
   unfold lk at K;split at K
   .unfold tP at K;split at K
    .rename_i O H1 U;split at K
     .rename_i A hr;simp only[Res.val.injEq]at K;obtain⟨rfl,rfl⟩:=K;obtain⟨G1,s1,zdu⟩:=wK (wL 100) args vs H O H1 G h L U;obtain⟨C,g⟩:=F hr s1.r zdu;refine⟨C,g.mono fun e Y o=>?_⟩;obtain⟨v,i,rfl,M,j⟩:=o;exact⟨v,i,rfl,M,s1.trans j⟩
     .exact Aj fit m K h L
    .exact Aj fit m K h L
   .exact Aj fit m K h L
  simp only[step]at K;split at K
  .rename_i A hr;simp only[Res.val.injEq]at K;obtain⟨rfl,rfl⟩:=K;exact F hr h L
  .unfold rM at K;split at K
   .rename_i v1 H1 hz J;obtain⟨g1,g2⟩:=Z J h L;refine⟨g1,g2.mono fun e Y o=>?_⟩;obtain⟨v,i,rfl,M,j⟩:=o;cases z:fG 100 v1 H1 with
    |none=>rw[z]at K;simp[ze8]at K
    |some p=>
     obtain⟨q,H2⟩:=p;rw[z]at K;simp only[ze8,Res.val.injEq]at K;obtain⟨rfl,rfl⟩:=K;obtain⟨G2,s2,r2⟩:=wL 100 v1 H1 _ _ i v j.r M z;exact⟨v,G2,rfl,r2,j.trans s2⟩
   .exact Z K h L
end
open Go Go.RowKit Go.WideShapes Go.ChangeShapes
theorem MM(r:Nat):zd3.get r=none:=rfl
theorem R.start{w:World}{G:Gh}{cfg:Cfg}(m:∀b o v,G.F b o=some v->w.cell? ⟨b,o,none⟩=some v)(z:∀r,G.β r=none)(i:kJ cfg.dec G.ρ):R ⟨w.heap.size,G.ρ,cfg⟩ zd3 w G:=by
 refine⟨aM _,?_,?_,?_,?_,?_,?_,?_,?_,?_,m,rfl,i,?_⟩<;>intros<;>simp_all
theorem r1{g:AV->Option AV}:∀{Y I:List AV},iceL g Y=some I->I.length=Y.length/\∀(i:Nat) d,I[i]?=some d->∃c,Y[i]?=some c/\g c=some d
 |[],I,h=>by
  simp only[iceL,aA]at h;subst h;exact⟨rfl,aB⟩
 |c::Y,I,h=>by
  simp only[iceL]at h;split at h
  .rename_i d V Z U;simp only[aA]at h;subst h;obtain⟨o,O⟩:=r1 U;refine⟨by simp[o],fun i e M=>?_⟩;cases i with
   |zero=>simp at M;subst M;exact⟨c,rfl,Z⟩
   |succ i=>exact O i e rZ
  .simp at h
theorem D7{g:AV->Option AV}:∀{Y I:List (List AV)},oY g Y=some I->I.length=Y.length/\∀(i:Nat) d,I[i]?=some d->∃c,Y[i]?=some c/\iceL g c=some d
 |[],I,h=>by
  simp only[oY,aA]at h;subst h;exact⟨rfl,aB⟩
 |c::Y,I,h=>by
  simp only[oY]at h;split at h
  .rename_i d V Z U;simp only[aA]at h;subst h;obtain⟨o,O⟩:=D7 U;refine⟨by simp[o],fun i e M=>?_⟩;cases i with
   |zero=>simp at M;subst M;exact⟨c,rfl,Z⟩
   |succ i=>exact O i e rZ
  .simp at h
theorem uj{H:Hp}{G G2:Gh}{w:World}(C:G2.ρ=G.ρ)(hF:∀b o v,G.F b o=some v->G2.F b o=some v)
 (M:∀r b o x A imm tip,G.β r=some (b,o,x)->H.get r=some (.cells A imm tip)->gC G w b o A/\∀j v,w.cell? ⟨b,o+j,none⟩=some v->G2.F b (o+j)=some v) :
 ∀(n:Nat) (v:AV) (x:Value) (q:AV),VR G v x->iceV H n v=some q->VR G2 q x
 |0,_,_,_,_,h=>by simp[iceV]at h
 |n+1,v,x,q,hv,h=>by
  have F:∀{A ds:List AV}{vs:List Value},bW G A vs->iceL (iceV H n) A=some ds->bW G2 ds vs:=fun{A ds vs} V hi=>by
   obtain⟨h1,h2⟩:=r1 hi;refine⟨by rw[h1];exact V.1,fun i d u hd hu=>?_⟩;obtain⟨c,hc,hcd⟩:=h2 i d hd;exact uj C hF M n c u d (V.2 i c u hc hu) hcd
  cases hv with
  |int k a=>simp only[iceV,aA]at h;subst h;exact .int _ _
  |sx k e=>simp only[iceV,aA]at h;subst h;rw[<-C];exact .sx _ _
  |bool b=>simp only[iceV,aA]at h;subst h;exact .bool _
  |str s l hs=>simp only[iceV,aA]at h;subst h;exact .str _ _ hs
  |nilP=>simp only[iceV,aA]at h;subst h;exact .nilP
  |nilM=>simp only[iceV,aA]at h;subst h;exact .nilM
  |nilF=>simp only[iceV,aA]at h;subst h;exact .nilF
  |nilS=>simp only[iceV,aA]at h;subst h;exact .nilS
  |ptr _=>simp[iceV]at h
  |iptr _ _ _=>simp[iceV]at h
  |map _=>simp[iceV]at h
  |clo _ _=>simp[iceV]at h
  |agg hl V=>
   simp only[iceV]at h;split at h
   .rename_i ds hds;simp only[aA]at h;subst h;have:=F ⟨hl,V⟩ hds;exact .agg this.1 this.2
   .simp at h
  |tup hl V=>
   simp only[iceV]at h;split at h
   .rename_i ds hds;simp only[aA]at h;subst h;have:=F ⟨hl,V⟩ hds;exact .tup this.1 this.2
   .simp at h
  |lst0 a cap=>
   simp only[iceV,oY,aA]at h;subst h;exact .lst0 _ _
  |lst vs hz hFx hvx hc=>
   rename_i xs b o cap z;simp only[iceV]at h;split at h
   .rename_i ys hys;simp only[aA]at h;subst h;obtain⟨h1,h2⟩:=D7 hys;rw[<-h1];refine .lst vs (z:=z) (fun i Z hr=>?_) (fun i j hi hj=>hF _ _ _ (hFx i j (by rw[<-h1];exact hi) hj)) (fun i j Z c hr hcj=>?_) (by rw[h1];exact hc)
    .obtain⟨c,J,hc2⟩:=h2 i Z hr;rw[(r1 hc2).1];exact hz i c J
    .obtain⟨c0,J,hc2⟩:=h2 i Z hr;obtain⟨c1,hc3,hc4⟩:=(r1 hc2).2 j c hcj;exact uj C hF M n c1 (vs i j) c (hvx i j c0 c1 J hc3) hc4
   .simp at h
  |sl hr hl hcx=>
   rename_i r U Y z b o xx cap;simp only[iceV]at h;split at h
   .rename_i A imm tip hg;split at h
    .rename_i l hil;split at h
     .rename_i g;simp only[aA]at h;subst h;obtain⟨hh,hnew⟩:=M r b o xx A imm tip hr hg;obtain⟨h1,h2⟩:=r1 hil;have O:∀(m:Nat) c,l[m]?=some c->∃v,w.cell? ⟨b,o+U+m,none⟩=some v/\VR G2 c v:=fun m c hm=>by
       obtain⟨c0,I,J⟩:=h2 m c hm;rw[mQ]at I;split at I
       .rw[nW]at I;obtain⟨v,L,hv2⟩:=hh _ _ I;exact⟨v,by rw[io];exact L,uj C hF M n c0 v c hv2 J⟩
       .simp at I
      have hlc:=Ah z Y l;have hin:∀i j,i<Y->j<z->i*z+j<l.length:=fun i j hi hj=>by
       rw[g]
       calc i*z+j<i*z+z:=by omega
        _=(i+1)*z:=by rw[lz,wI]
        _<=Y*z:=rX _ hi
      have key:VR G2 (.lst (jd z Y l)) (.slice (some ⟨b,o+U,none⟩) (jd z Y l).length cap):=by
       refine .lst (fun i j=>(w.cell? ⟨b,o+U+(i*z+j),none⟩).getD undef) (z:=z) (fun i Z K=>(ui z Y l i Z g K).1) (fun i j hi hj=>?_) (fun i j Z c K hcj=>?_) (by rw[hlc];exact hl)
       .rw[hlc]at hi;have hm:=hin i j hi hj;obtain⟨v,L,_⟩:=O (i*z+j) _ (aR hm);rw[L];have:=hnew (U+(i*z+j)) v (by rw[<-io];exact L);rw[show o+U+i*z+j=o+(U+(i*z+j)) by omega];exact this
       .have hm:=(ui z Y l i Z g K).2 j c hcj;obtain⟨v,L,hv2⟩:=O (i*z+j) c hm;rw[L];exact hv2
      rw[hlc]at key;exact key
     .simp at h
    .simp at h
   .simp at h
theorem MN(w:World){G G2:Gh}(Z:G2.ρ=G.ρ)(A:∀b o v,G.F b o=some v->G2.F b o=some v){m:Nat}{args:List AV}(h:nU m args=true){vs:List Value}(L:bW G args vs):bW G2 args vs:=by
 unfold nU at h;split at h
 .rename_i O V;have:=zf1 h;subst this;obtain⟨I,g⟩:=r1 V;refine⟨L.1,fun i c v hc Y=>?_⟩;obtain⟨c0,M,U⟩:=g i c hc;rw[hc]at M;simp only[aA]at M;subst M;exact uj (H:=zd3) (w:=w) Z A (fun r b o x J j K _ C=>by simp[MM]at C) m c v c (L.2 i c v hc Y) U
 .simp at h
theorem Al{P:Program}{ih:Task->Res}{f:FuncId}{args:List AV}{H H':Hp}{r:AV}(h:zfX P ih f args H=.val r H'):∃V,P.funcs[f]?=some V/\V.body.isSome=true:=by
 unfold zfX at h;split at h
 .rename_i V F;split at h
  .rename_i c z;exact⟨V,F,by simp[z]⟩
  .simp at h
 .simp at h
theorem MO{P:Program}{cfg:Cfg}{ρ:Nat->Int}(O:∀f args r,cfg.call f args=some r->bc P ρ f args r){n:Nat}{f:FuncId}{args:List AV}{H H':Hp}{r:AV}(h:ev P cfg n (.call f args H)=.val r H'):
 ∃V,P.funcs[f]?=some V/\V.body.isSome=true:=by
 cases n with
 |zero=>simp[ev]at h
 |succ n=>
  have M:ev P cfg (n+1)=step P cfg (ev P cfg n):=rfl;rw[M]at h;simp only[step]at h;split at h
  .rename_i A hr;exact(O f args A hr).1
  .have j:∀{r:AV}{H':Hp},lk P cfg (ev P cfg n) f args H=.val r H'->∃V,P.funcs[f]?=some V/\V.body.isSome=true:=fun{r H'} h=>by
    unfold lk at h;split at h
    .unfold tP at h;split at h
     .split at h
      .rename_i hr;exact(O _ _ _ hr).1
      .exact Al h
     .exact Al h
    .exact Al h
   unfold rM at h;split at h
   .rename_i L;exact j L
   .exact j h
theorem Am{P:Program}(fit:Fit P){cfg:Cfg}{ρ:Nat->Int}(C:kJ cfg.dec ρ)(F:∀f args r,cfg.call f args=some r->bc P ρ f args r){n m k:Nat}{f:FuncId}{args:List AV}{r:AV}
 (A:nU k args=true) (h:tQ P cfg n m f args=some r):bc P ρ f args r:=by
 unfold tQ at h;split at h
 .rename_i v0 H' g;refine⟨MO F g,fun G w vs U V L=>?_⟩;subst U;have J:bW {G with β:=fun _=>none} args vs:=MN w (G:=G) (G2:={G with β:=fun _=>none}) rfl (fun _ _ _ h=>h) A L;have I:R ⟨w.heap.size,G.ρ,cfg⟩ zd3 w {G with β:=fun _=>none}:=R.start (G:={G with β:=fun _=>none}) V (fun _=>rfl) C;refine((D6 (B:=⟨w.heap.size,G.ρ,cfg⟩) fit F n).call f args zd3 _ H' g _ w vs I J).2.mono fun e Z z=>?_;obtain⟨x,G',rfl,hx,K⟩:=z;have i:Below w.heap.size w Z:=⟨K.fr.os,K.fr.tape,K.fr.output,K.fr.size,fun k hk=>K.fr.block k hk (fun r b o x hr=>by simp at hr)⟩;refine⟨x,fun b o=>if b<w.heap.size then G.F b o else Z.cell? ⟨b,o,none⟩,rfl,?_,i,fun b o v L=>?_,fun b o v L=>?_,fun b o v L=>?_⟩
  .refine uj (G:=G') (w:=Z) (H:=H') ?_ (fun b o v L=>?_) (fun r b o x cs O M hr hg=>?_) m v0 x r hx h
   .exact K.ext.ρ.symm
   .rcases K.icy b o v L with Y|Y
    .show(if b<w.heap.size then G.F b o else Z.cell? ⟨b,o,none⟩)=some v;rw[az (lZ (V b o v Y))];exact Y
    .show(if b<w.heap.size then G.F b o else Z.cell? ⟨b,o,none⟩)=some v;rw[ai (by have:w.heap.size<=b:=Y;omega)];exact K.r.frz b o v L
   .refine⟨K.r.cells r b o x cs O M hr hg,fun j v hj=>?_⟩;have Y:w.heap.size<=b:=(K.r.lt r b o x hr).1;show(if b<w.heap.size then G.F b (o+j)else Z.cell? ⟨b,o+j,none⟩)=some v;rw[ai ac];exact hj
  .rw[az (lZ (V b o v L))];exact L
  .split at L
   .exact .inl L
   .exact .inr ac
  .split at L
   .rename_i hb;rw[(Ag i hb).1];exact V b o v L
   .exact L
 .simp at h
theorem D8{P:Program}{ρ:Nat->Int}{f:FuncId}{args:List AV}{b:Bool}(h:bc P ρ f args (.bool b)){vs:List Value}{w:World}{F:Nat->Nat->Option Value}
 (A:∀b o v,F b o=some v->w.cell? ⟨b,o,none⟩=some v) (L:bW ⟨fun _=>none,F,ρ⟩ args vs) :
 Calls P f vs.toArray w (fun e Z=>e=.returned (.bool b)/\Below w.heap.size w Z):=by
 refine(h.2 ⟨fun _=>none,F,ρ⟩ w vs rfl A L).mono fun e Z Y=>?_;obtain⟨v,V,rfl,hr,C⟩:=Y;cases hr;exact⟨rfl,C.below⟩
def An:Res->Bool
 | .val (.bool true) _=>true
 |_=>false
theorem MP{P:Program}(fit:Fit P){cfg:Cfg}{ρ:Nat->Int}(i:kJ cfg.dec ρ)(O:∀f args r,cfg.call f args=some r->bc P ρ f args r){n k:Nat}{f:FuncId}{args:List AV}
 (Y:nU k args=true) (h:An (ev P cfg n (.call f args zd3))=true):bc P ρ f args (.bool true):=by
 refine Am fit i O (n:=n) (m:=1) Y ?_;unfold tQ;unfold An at h;split at h
 .rename_i H M;rw[M];rfl
 .simp at h
theorem MQ{P:Program}(fit:Fit P){cfg:Cfg}{ρ:Nat->Int}(i:kJ cfg.dec ρ)(O:∀f args r,cfg.call f args=some r->bc P ρ f args r){n m k:Nat}{f:FuncId}{args:List AV}{r:AV}
 (Y:nU k args=true) (h:zn P cfg n m f args r=true):bc P ρ f args r:=by
 unfold zn at h;split at h
 .rename_i q F;rw[<-AV.beq_eq h];exact Am fit i O Y F
 .simp at h
theorem lE(ρ:Nat->Int):kJ (fun _ _ _=>none) ρ:=fun _ _ _ _ _ h=>jp
def j5(P:Program)(ρ:Nat->Int):List (FuncId×List AV×AV)->Prop
 |[]=>True
 |p::l=>bc P ρ p.1 p.2.1 p.2.2/\j5 P ρ l
theorem wM{P:Program}{ρ:Nat->Int}:∀{l:List (FuncId×List AV×AV)},j5 P ρ l->∀f args r,pY l f args=some r->bc P ρ f args r
 |[],_,_,_,_,h=>by simp[pY]at h
 |p::l,hk,f,args,r,h=>by
  simp only[pY]at h;split at h
  .rename_i m;split at h
   .rename_i J;simp only[aA]at h;subst h;rw[<-gP m,<-zf1 J];exact hk.1
   .exact wM hk.2 f args r h
  .exact wM hk.2 f args r h
def uk:List (Nat×Nat×Plan)->FuncId->Nat->Plan
 |[],_,_=>.text
 |p::l,f,id=>match Nat.beq p.1 f with
  |true=>match Nat.beq p.2.1 id with
   |true=>p.2.2
   |false=>uk l f id
  |false=>uk l f id
def MR(pls:List (Nat×Nat×Plan))(l:List (FuncId×List AV×AV)):Cfg:={keep:=fun _=>false,call:=pY l,ice:=fun f=>l.any fun p=>Nat.beq p.1 f,plan:=uk pls}
theorem zf6{P:Program}(fit:Fit P){ρ:Nat->Int}{pls:List (Nat×Nat×Plan)}{l:List (FuncId×List AV×AV)}(F:j5 P ρ l){n m k:Nat}{f:FuncId}{args:List AV}{r:AV}
 (Y:nU k args=true) (h:zn P (MR pls l) n m f args r=true):bc P ρ f args r:=MQ fit (lE ρ) (wM F) Y h
def Ao:Cfg:={keep:=fun _=>false}
theorem MT{P:Program}{ρ:Nat->Int}:∀f args r,Ao.call f args=some r->bc P ρ f args r:=fun _ _ _ h=>by simp[Ao]at h
def D9(P:Program):Bool:=P.funcs.all (fun V=>!(V.body.isSome&&V.name == "runtime.NumGoroutine"))&&P.follows .mixedOrders
theorem Fit.of{P:Program}(h:D9 P=true):Fit P:=by
 simp only[D9,dC]at h;refine⟨fun f V m z=>?_,h.2⟩;have i:=h.1;rw[zY]at i;have:=i V (by exact Array.mem_of_getElem? m);simpa [z]using this
theorem closed{P:Program}(fit:Fit P){n f:Nat}(h:An (ev P Ao n (.call f [] zd3))=true){w:World}:
 Calls P f #[] w (fun e Z=>e=.returned (.bool true)/\Below w.heap.size w Z):=
 D8 (ρ:=fun _=>0) (F:=fun _ _=>none) (MP fit (lE _) MT (k:=1) rfl h) (fun _ _ _ h=>jp) (lY _)
section
variable {H:Type} {enc:TypeId × Value -> H} {P:Program}
theorem MU{f:Func}{s:ChangeSpec}{apart Y m o:Bool}{W O:World}{args:Array Value}{v:Value}{L A:List (DataW H)}{C K pv:List MemPlace}
 (g:DataW.Whole enc P f.params.toList s.vars apart W args.toList L A C)
 (U:∀(b:Nat) (V:Nat->Bool) (hd:Bool),DataW.TrodAll enc P O b V hd f.resultTypes.toList (v.resultList f.resultTypes.size) (s.fn H (L++A)).results [])
 (I:∀V:Nat->Bool,(∀p∈C,V p.block=true)->DataW.TrodAll enc P O 0 V true f.params.toList args.toList (s.fn H (L++A)).args K)
 (z:∀V:Nat->Bool,(∀p∈C,V p.block=true)->DataW.TrodVars enc P O V s.vars (s.fn H (L++A)).vars pv)
 (Z:C=K++pv) (hb:Below W.heap.size W O)
 (hok:∀(j:Nat) (t:TypeId) (r:Value),f.resultTypes[j]?=some t->(v.resultList f.resultTypes.size)[j]?=some r->Value.okWide P O .any 0 t r) :
 s.post enc P f apart Y m o W args v O:=by
 have F:∀p∈C,p.block<W.heap.size:=fun p hp=>g.lt p hp;have M:∀p∈C,(fun b=>decide (b<W.heap.size)) p.block=true:=fun p hp=>by simpa using F p hp
 refine⟨L,A,C,[],K,pv,g,U _ _ _,I _ M,z _ M,World.keptBut_mono (fun p hp=>⟨hp,?_⟩) (hb.frame (·∈ C)),fun _=>?_⟩
 .rw[Z,oa]at hp;exact Or.inr hp
 .obtain⟨_,_,_,_,_,hz,hn⟩:=g;refine⟨hok,_,_,([]++K)++pv,⟨[]++K,pv,trodAll_append (I _ (fun _ _=>rfl)) (U _ _ _),z _ (fun _ _=>rfl),rfl,?_,?_⟩,?_⟩
  .intro b J hp;have i:MemPlace.cell b J∈C:=by rw[Z];simpa using hp
   rw[hb.frozen (F _ i)];exact hz b J i
  .intro ha;have:=hn ha;rw[Z]at this;simpa using this
  .intro p hp _;rw[Z];simpa using hp
end
end Go.Ab
