/- Parts: AbDraw, AbPlan, AbCon, AbSound, AbLaw. -/
import Derived.Below
import Derived.ChangeSame
import Derived.Orders
import Derived.Test.YtpbcimfiofmoeaaGreatPCC
set_option linter.unusedSimpArgs false
set_option linter.unusedVariables false
set_option linter.unusedSectionVars false
set_option linter.defProp false
set_option maxHeartbeats 32000000
namespace Go.Ab
set_option maxRecDepth 20000
open Go
theorem jv{P:Prop}(h:P:=by simpa using h):P:=h
theorem nD{P:Prop}(h:P:=by rw[e]):P:=h
theorem lL{P:Prop}(h:P:=by simp at h):P:=h
theorem G3{P:Prop}(h:P:=by rw[V.size];exact(List.getElem?_eq_some_iff.1 I).1):P:=h
theorem zA{P:Prop}(h:P:=by simpa using O):P:=h
theorem G4{P:Prop}(h:P:=by rw[hs];have:=(List.getElem?_eq_some_iff.1 Z).1;simpa using this):P:=h
theorem zB{P:Prop}(h:P:=by rw[List.length_drop];omega):P:=h
def eP:=@List.mem_cons
def pM:=@List.mem_append
def CW:=@List.mem_flatMap
def kZ:=@List.mem_range
def jT:=@Bool.not_true
def gH:=@Bool.false_or
def oX:=@List.mem_filter
def pN:=@Array.getElem?_eq_getElem
def oY:=@Bool.not_eq_true'
def CX:=@Array.all_eq_true_iff_forall_mem
def oB:=@Bool.or_eq_true
def lc:=@List.mem_map
def wW:=@Nat.lt_or_ge
def CY:=@Array.getElem?_eq_none
def oZ:=@List.any_eq_false
def zC:=@Nat.lt_trichotomy
def wX:=@List.eq_nil_iff_forall_not_mem
def gI:=@List.getElem?_eq_none
def G5:=@Array.getElem?_replicate
def o0:=@Bool.true_or
def dJ:=@List.mem_cons_self
def dO:=@List.mem_cons_of_mem
def r0:=@List.map_append
def CZ:=@List.mem_iff_getElem?
def tD:=@List.map_map
def uW:=@Bool.and_self
def wY:=@Nat.one_mul
def kA:=@true_and
end Go.Ab
namespace Go.Ab
set_option maxRecDepth 20000
open Go Go.RowKit
theorem C0{i:Nat}:∀{l Z:List Nat},i∈uG Z l↔i∈Z\/i∈l
 |[],Z=>by simp[uG]
 |x::xs,Z=>by
  simp only[uG];split
  .rename_i h;have C:x∈Z:=jv;rw[C0,eP];exact⟨fun h=>h.elim .inl (fun h=>.inr (.inr h)),fun h=>h.elim .inl (fun h=>h.elim (fun e=>.inl (by subst e;exact C)) .inr)⟩
  .rw[C0,eP,eP];exact⟨fun h=>h.elim (fun h=>h.elim (fun e=>.inr (.inl e)) .inl) (fun h=>.inr (.inr h)),fun h=>h.elim (fun h=>.inl (.inr h)) (fun h=>h.elim (fun e=>.inl (.inl e)) .inr)⟩
theorem P8{i:Nat}{l:List Nat}:i∈wu l↔i∈l:=by unfold wu;rw[C0];simp
theorem C1:∀(l:List Oper) (Z:List (List Nat)) (i:Nat),i<Z.length->(iw l Z).getD i []=Z.getD i []
 |[],Z,i,_=>rfl
 |o::l,Z,i,h=>by
  simp only[iw];rw[C1 l _ i cC];simp[List.getD,je h]
theorem G6:∀(l:List Oper) (Z:List (List Nat)) (j:Nat) (o:Oper),l[j]?=some o ->
 ∃O:List (List Nat),O.length=Z.length+j/\(∀i,i<O.length->(iw l Z).getD i []=O.getD i [])/\(iw l Z).getD (Z.length+j) []=wu (preds o++(preds o).flatMap fun i=>O.getD i [])
 |[],_,_,_,h=>by simp at h
 |o::l,Z,0,o',h=>by
  simp at h;subst h;refine⟨Z,rfl,fun i I=>C1 _ _ i I,?_⟩;simp only[iw,qT];rw[C1 l _ Z.length au];simp[List.getD]
 |o::l,Z,j+1,o',h=>by
  obtain⟨O,Y,g,m⟩:=G6 l (Z++[wu (preds o++(preds o).flatMap fun i=>Z.getD i [])]) j o' jv;simp only[fG,dg,eM]at Y m;refine⟨O,ac,g,?_⟩;simp only[iw];rw[show Z.length+(j+1)=Z.length+(0+1)+j by omega];exact m
theorem P9{l:List Oper}{j:Nat}{o:Oper}(U:l[j]?=some o)(J:∀p∈preds o,p<j){i:Nat}:
 i∈(iw l []).getD j []↔i∈preds o\/∃p∈preds o,i∈(iw l []).getD p []:=by
 obtain⟨O,Y,V,m⟩:=G6 l [] j o U;simp only[eM,b9]at Y m;rw[m,P8,pM,CW];constructor
 .rintro(h|⟨p,g,Z⟩)
  .exact .inl h
  .exact .inr ⟨p,g,by rw[V p (by rw[Y];exact J p g)];exact Z⟩
 .rintro(h|⟨p,g,Z⟩)
  .exact .inl h
  .exact .inr ⟨p,g,by rw[<-V p (by rw[Y];exact J p g)];exact Z⟩
structure CalmD (l:List Oper):Prop where
 lt:∀j o,l[j]?=some o->∀p∈preds o,p<j
 guard:∀j o g b,l[j]?=some o->o.guard=some (g,b)->g∈(iw l []).getD j []
 clash:∀i j p q,i<j->l[i]?=some p->l[j]?=some q->Ab.clash l p q=true->i∈(iw l []).getD j []
theorem Qa{l:List Oper}(h:pJ l=true):CalmD l:=by
 unfold pJ at h;simp only[gF,kZ]at h;have U:∀j o,l[j]?=some o->(∀p∈preds o,p<j)/\(∀g b,o.guard=some (g,b)->g∈(iw l []).getD j [])/\∀i p,i<j->l[i]?=some p->Ab.clash l p o=true->i∈(iw l []).getD j []:=fun j o Z=>by
  have:=h j (eG.1 Z).1;rw[Z]at this;simp only[co,gF,iB,kZ]at this;obtain⟨⟨M,V⟩,m⟩:=this;refine⟨M,fun g b J=>?_,fun i p I hp hc=>?_⟩
  .rw[J]at V;simpa using V
  .have:=m i I;rw[hp]at this;simp only[hc,jT,gH]at this;simpa using this
 exact⟨fun j o Z=>(U j o Z).1,fun j o g b Z=>(U j o Z).2.1 g b,fun i j p q Y I O=>(U j q O).2.2 i p Y I⟩
theorem C2{l:List Oper}(U:CalmD l){D:Nat->Prop}(M:∀j,D j->∀o,l[j]?=some o->∀p∈preds o,D p):
 ∀(j:Nat) o,l[j]?=some o->(∀p∈preds o,D p)->∀i∈(iw l []).getD j [],D i:=by
 intro j;induction j using Nat.strongRecOn with
 |_ j ih=>
  intro o Y hp i I;rcases(P9 Y (U.lt j o Y)).1 I with h|⟨p,g,V⟩
  .exact hp i h
  .have O:=U.lt j o Y p g;have K:=(eG.1 Y).1;have Z:l[p]?=some (l[p]' ac):=aR ac;exact ih p O _ Z (fun q L=>M p (hp p g) _ Z q L) i V
theorem oC{l:List Oper}{i:Nat}:i∈jr l↔∃o,l[i]?=some o/\mI o=true:=by
 unfold jr;rw[oX,kZ];constructor
 .rintro⟨Z,g⟩;rw[aR Z]at g;exact⟨_,aR Z,g⟩
 .rintro⟨o,Z,g⟩;exact⟨(eG.1 Z).1,by rw[Z];exact g⟩
theorem lM{ops:Array Oper}{Y:Array Bool}{i:Nat}:i∈Region.ready .any ops Y↔∃o,ops.toList[i]?=some o/\Y.getD i true=false/\∀p∈preds o,Y.getD p false=true:=by
 unfold Region.ready preds;rw[oX,kZ,wR];constructor
 .rintro⟨Z,g⟩;rw[pN Z]at g;simp only[co,oY,jh,bS,CX,oB]at g;refine⟨_,pN Z,g.1,fun p hp=>?_⟩;simp only[lc,oX]at hp;obtain⟨e,⟨m,U⟩,rfl⟩:=hp;rcases g.2 e uS with h|h
  .rw[U]at h;simp at h
  .exact h
 .rintro⟨o,Z,g,O⟩;have I:i<ops.size:=by
   rcases wW i ops.size with h|h
   .exact h
   .rw[CY h]at Z;simp at Z
  refine⟨I,?_⟩;rw[Z];simp only[co,oY,jh,bS,CX,oB];refine⟨g,fun e V=>?_⟩;cases M:Region.binds .any e with
  |false=>exact .inl rfl
  |true=>exact .inr (O e.on (by simp only[lc,oX];exact⟨e,⟨wD,M⟩,rfl⟩))
theorem C3{l:List Oper}:∀(k s:Nat),s+k=l.length->∃m,s<=m/\m<=l.length/\(m=l.length\/m∈jr l)/\∀j,s<=j->j<m->j∉jr l
 |0,s,hs=>⟨s,aE _,ac,.inl ac,fun j i g=>ac⟩
 |k+1,s,hs=>by
  by_cases h:s∈jr l
  .exact⟨s,aE _,ac,.inr h,fun j i g=>ac⟩
  .obtain⟨m,i,g,Y,O⟩:=C3 (l:=l) k (s+1) ac;refine⟨m,ac,g,Y,fun j V Z=>?_⟩;by_cases e:j=s
   .subst e;exact h
   .exact O j ac Z
section
variable {P:Program} {B:Bs} {cfg:Cfg}
structure Ctx (P:Program) (cfg:Cfg) (ih:Task->Res) (f N:Nat) (l:List Oper) (E0:aw) (zfM:Hp) (E':aw) (H':Hp) (rs:List Rec):Prop where
 calm:CalmD l
 len:rs.length=l.length
 at':∀(i:Nat) (r:Rec),rs[i]?=some r->∃o,l[i]?=some o/\AtD P cfg ih f N l o r (f7 rs E' i) (f7 rs E' (i+1)) (zf3 rs H' i) (zf3 rs H' (i+1))
 zeroE:f7 rs E' 0=E0
 zeroH:zf3 rs H' 0=zfM
 next:∀i,i<l.length->(zf3 rs H' i).next<=(zf3 rs H' (i+1)).next
 look:∀(i:Nat) (r:Rec),rs[i]?=some r->r.did=true->∀m,(m∈jr l\/m=l.length)->(∀e∈jr l,e∈(iw l []).getD i []->e<m)->(∀e∈jr l,i∈(iw l []).getD e []->m<=e) ->
  zdQ P cfg r (zf3 rs H' m)=true
theorem Qb{ih:Task->Res}{f N:Nat}{l:List Oper}{E0 E':aw}{zfM H':Hp}{rs:List Rec}(hc:pJ l=true)(hr:jq P cfg ih f N l l E0 zfM=.done E' H' rs)(K:ti P cfg (od l) rs H'=true):
 Ctx P cfg ih f N l E0 zfM E' H' rs:=by
 have V:=wV hr;obtain⟨z1,z2⟩:=CT V;have L:=CS V;unfold ti at K;simp only[co,gF]at K;refine⟨Qa hc,L,fun i r I=>tB V I,z1,z2,fun i I=>?_,fun i r I hd m hm h1 h2=>?_⟩
 .have hi':i<rs.length:=by omega
  have Y:=aR hi';obtain⟨o,_,J⟩:=tB V Y;have h3:=wQ (K.1 _ (lJ Y));rw[J.eH,J.eH']at h3;exact h3
 .obtain⟨o,ho,J⟩:=tB V I;have Z:y9 (iw l []) (jr l) i m=true:=by
   unfold y9;simp only[oY,gG,oZ,co,not_and];refine⟨fun e C z hle=>?_,fun e C z hlt=>?_⟩
   .have:=h1 e C wE;have:=wQ hle;omega
   .have:=h2 e C wE;have:e<m:=by simpa [jQ]using hlt
    omega
  have U:∀k,zhh o.op=k->(k=.read\/k=.make)->(i,m)∈od l:=fun k j hor=>by
   unfold od;rw[CW];refine⟨i,kZ.2 (eG.1 ho).1,?_⟩;rw[ho];have M:(i,m)∈((jr l++[l.length]).filter (y9 (iw l []) (jr l) i)).map fun m=>(i,m):=
    lc.2 ⟨m,oX.2 ⟨by simpa using hm,Z⟩,rfl⟩
   rcases hor with rfl|rfl<;>simp only[j]<;>exact M
  have g:(i,m)∈od l->zdQ P cfg r (zf3 rs H' m)=true:=fun h=>by
   have:=K.2 _ h;simp only[I,hd,jT,gH]at this;exact this
  have O:r.o=o:=J.eo;cases j:zhh o.op with
  |read=>exact g (U _ j (.inl rfl))
  |make=>exact g (U _ j (.inr rfl))
  |calm=>unfold zdQ;rw[O,j]
  |act=>unfold zdQ;rw[O,j]
section
variable {ih:Task -> Res} {f N:Nat} {ops:Array Oper} {E0 E':aw} {zfM H':Hp} {rs:List Rec} (cx:Ctx P cfg ih f N ops.toList E0 zfM E' H' rs)
include cx
theorem Ctx.record{i:Nat}{o:Oper}(j:ops.toList[i]?=some o):∃r,rs[i]?=some r/\AtD P cfg ih f N ops.toList o r (f7 rs E' i) (f7 rs E' (i+1)) (zf3 rs H' i) (zf3 rs H' (i+1)):=by
 have I:i<rs.length:=by rw[cx.len];exact(eG.1 j).1
 obtain⟨M,Z,g⟩:=cx.at' i _ (aR I);rw[j]at Z;simp only[az]at Z;subst Z;exact⟨_,aR I,g⟩
theorem Ctx.gap:∀(d s:Nat),s+d<=ops.toList.length->(∀j,s<=j->j<s+d->j∉jr ops.toList) ->
 (zf3 rs H' s).next<=(zf3 rs H' (s+d)).next/\∀r,r<(zf3 rs H' s).next->(zf3 rs H' (s+d)).get r=(zf3 rs H' s).get r
 |0,s,_,_=>⟨aE _,fun _ _=>rfl⟩
 |d+1,s,hs,hn=>by
  obtain⟨L,Y⟩:=Ctx.gap d s ac (fun j V m=>hn j V ac);have O:s+d<ops.toList.length:=ac;obtain⟨r,hr,o⟩:=cx.record (aR O);have Z:mI (ops.toList[s+d])=false:=by
   cases g:mI (ops.toList[s+d])with
   |false=>rfl
   |true=>exact(hn (s+d) ac ac (oC.2 ⟨_,aR O,g⟩)).elim
  have i:zf3 rs H' (s+d+1)=zf3 rs H' (s+d)\/∃U,zf3 rs H' (s+d+1)=(zf3 rs H' (s+d)).alloc U:=by
   cases hd:r.did with
   |true=>exact P7 Z (o.yes hd)
   |false=>exact .inl (o.no hd).2
  rw[show s+(d+1)=s+d+1 by omega];rcases i with e|⟨U,e⟩
  .rw[e];exact⟨L,Y⟩
  .rw[e];refine⟨cC,fun k M=>?_⟩;rw[zfk,af ac];exact Y k M
theorem Ctx.nextMono:∀(d s:Nat),s+d<=ops.toList.length->(zf3 rs H' s).next<=(zf3 rs H' (s+d)).next
 |0,_,_=>aE _
 |d+1,s,hs=>cJ (Ctx.nextMono d s ac) (by rw[show s+(d+1)=s+d+1 by omega];exact cx.next _ ac)
theorem Ctx.slotAt(t:Nat):∀s,s<=ops.toList.length ->
 (∃(i:Nat) (r:Rec) (o:Oper),i<s/\rs[i]?=some r/\ops.toList[i]?=some o/\o.dst=some t/\(∀(j:Nat) (M:Oper),j<s->ops.toList[j]?=some M->M.dst=some t->j<=i)/\(f7 rs E' s).at t=r.val) \/
 ((∀(j:Nat) (M:Oper),j<s->ops.toList[j]?=some M->M.dst≠some t)/\(f7 rs E' s).at t=E0.at t)
 |0,_=>.inr ⟨fun j M O=>ac,by rw[cx.zeroE]⟩
 |s+1,hs=>by
  have U:ops.toList[s]?=some (ops.toList[s]' ac):=aR ac;obtain⟨r,hr,I⟩:=cx.record U;have z:=I.put;have Y:=Ctx.slotAt t s ac;by_cases hd:(ops.toList[s]' ac).dst=some t
  .refine .inl ⟨s,r,_,ac,hr,U,hd,fun j M O _ _=>ac,?_⟩;rw[hd]at z;simp only[fk]at z;split at z
   .simp only[az]at z;rw[<-z,uN,aq rfl]
   .simp at z
  .have g:(f7 rs E' (s+1)).at t=(f7 rs E' s).at t:=by
    cases C:(ops.toList[s]' ac).dst with
    |none=>
     rw[C]at z;simp only[fk,az]at z;rw[<-z]
    |some d=>
     rw[C]at z hd;simp only[fk]at z;split at z
     .simp only[az]at z;rw[<-z,uN,af (fun e=>hd nD)]
     .simp at z
   rw[g];rcases Y with⟨i,m,M,J,K,h3,h4,h5,h6⟩|⟨J,K⟩
   .refine .inl ⟨i,m,M,ac,K,h3,h4,fun j L O Z V=>?_,h6⟩;by_cases e:j=s
    .subst e;rw[U]at Z;simp only[az]at Z;subst Z;exact(hd V).elim
    .exact h5 j L ac Z V
   .refine .inr ⟨fun j M O Z=>?_,K⟩;by_cases e:j=s
    .subst e;rw[U]at Z;simp only[az]at Z;subst Z;exact hd
    .exact J j M ac Z
end
def fU(Y:Array Bool)(j:Nat):Prop:=Y.getD j false=true
def uX(rs:List Rec)(l:List Oper)(Z:aw)(D:Nat->Prop)(G:Gh)(a:Act):Prop:=∀t,
 (∃(i:Nat) (r:Rec) (o:Oper),D i/\rs[i]?=some r/\l[i]?=some o/\o.dst=some t/\(∀(j:Nat) (M:Oper),D j->l[j]?=some M->M.dst=some t->j<=i)/\VR G r.val (a.tmps.getD t undef)) \/
 ((∀(j:Nat) (M:Oper),D j->l[j]?=some M->M.dst≠some t)/\VR G (Z.at t) (a.tmps.getD t undef))
theorem uX.agree{ih:Task->Res}{f N:Nat}{ops:Array Oper}{z E':aw}{zfM H':Hp}{rs:List Rec}(cx:Ctx P cfg ih f N ops.toList z zfM E' H' rs){D:Nat->Prop}{G:Gh}{a:Act}(hs:uX rs ops.toList z D G a){t s:Nat}
 (L:s<=ops.toList.length) (Z:∀(j:Nat) (o:Oper),ops.toList[j]?=some o->o.dst=some t->(D j↔j<s)):VR G ((f7 rs E' s).at t) (a.tmps.getD t undef):=by
 rcases cx.slotAt t s L with⟨i,r,o,K,J,I,C,h5,h6⟩|⟨K,J⟩
 .rw[h6];have g:=(Z i o I C).2 K;rcases hs t with⟨Y,r',M,m,V,U,O,g5,g6⟩|⟨m,_⟩
  .have e1:=h5 Y M ((Z Y M U O).1 m) U O;have e2:=g5 i o g I C;have:Y=i:=ac;subst this;rw[J]at V;simp only[az]at V;subst V;exact g6
  .exact(m i o g I C).elim
 .rw[J];rcases hs t with⟨Y,r',M,m,V,U,O,g5,g6⟩|⟨_,V⟩
  .exact(K Y M ((Z Y M U O).1 m) U O).elim
  .exact V
structure InvD (rs:List Rec) (l:List Oper) (N:Nat) (B:Bs) (nx0:Nat) (E0:aw) (H':Hp) (G0:Gh) (w0:World) (listed:Array Bool) (a:Act) (w:World) (m:Nat) (G:Gh):Prop where
 size:listed.size=l.length
 closed:∀j,fU listed j->∀o,l[j]?=some o->∀p∈preds o,fU listed p
 le:m<=l.length
 act:m=l.length\/m∈jr l
 notyet:¬fU listed m
 acts:∀e∈jr l,e<m->fU listed e
 step:Step B nx0 G0 w0 (zf3 rs H' m) w G
 low:∀r p,G.β r=some p->r<nx0\/∃j,fU listed j/\j<l.length/\(zf3 rs H' j).next<=r/\r<(zf3 rs H' (j+1)).next
 slots:uX rs l E0 (fU listed) G a
 frame:a.tmps.size=N
 defers:a.defers=[]
theorem fU.set{Y:Array Bool}{i:Nat}(I:i<Y.size)(j:Nat):fU (Y.setIfInBounds i true) j↔j=i\/fU Y j:=by
 unfold fU;rw[ju,ju,uL];by_cases e:i=j
 .subst e;simp[I]
 .rw[af e];constructor
  .exact fun h=>.inr h
  .rintro(h|h)
   .exact(e h.symm).elim
   .exact h
def mc:=@fU.set
theorem uX.put{rs:List Rec}{l:List Oper}{E0:aw}{Y:Array Bool}{G L:Gh}{a:Act}(hs:uX rs l E0 (fU Y) G a)(he:Ext G L){i:Nat}(I:i<Y.size){o:Oper}(K:l[i]?=some o){r:Rec}(hr:rs[i]?=some r)
 {v:Value} (hv:VR L r.val v) (hd:∀d,o.dst=some d->d<a.tmps.size/\∀(j:Nat) (M:Oper),fU Y j->l[j]?=some M->M.dst=some d->j<=i):uX rs l E0 (fU (Y.setIfInBounds i true)) L (a.put o.dst v):=by
 intro t;by_cases C:o.dst=some t
 .obtain⟨h1,h2⟩:=hd t C;refine .inl ⟨i,r,o,(mc I i).2 (.inl rfl),hr,K,C,fun j M U Z V=>?_,?_⟩
  .rcases(mc I j).1 U with e|U
   .omega
   .exact h2 j M U Z V
  .rw[C];simp only[Act.put];simpa [Array.getD,h1]using hv
 .have g:(a.put o.dst v).tmps.getD t undef=a.tmps.getD t undef:=by
   cases O:o.dst with
   |none=>rfl
   |some d=>
    rw[O]at C;have hne:d≠t:=fun e=>C nD;simp only[Act.put,ju,uL];rw[af hne]
  rw[g];rcases hs t with⟨i',r',M,m,z,g3,g4,g5,g6⟩|⟨m,z⟩
  .refine .inl ⟨i',r',M,(mc I i').2 (.inr m),z,g3,g4,fun j J U Z V=>?_,g6.mono he⟩;rcases(mc I j).1 U with e|U
   .subst e;rw[K]at Z;simp only[az]at Z;subst Z;exact(C V).elim
   .exact g5 j J U Z V
  .refine .inr ⟨fun j M U Z V=>?_,z.mono he⟩;rcases(mc I j).1 U with e|U
   .subst e;rw[K]at Z;simp only[az]at Z;subst Z;exact(C V).elim
   .exact m j M U Z V
theorem C4{Z:List Oper}{o:Oper}{t:Nat}:t∈rT Z o↔o.dst=some t\/(Operand.tmp t)∈o.op.operands.toList\/∃g b M,o.guard=some (g,b)/\Z[g]?=some M/\M.dst=some t:=by
 unfold rT Gn;simp only[pM,Option.mem_toList,List.mem_filterMap];constructor
 .rintro((h|⟨x,C,h⟩)|h)
  .exact .inl h
  .cases x<;>simp at h;subst h;exact .inr (.inl C)
  .cases J:o.guard with
   |none=>rw[J]at h;simp at h
   |some p=>
    obtain⟨g,b⟩:=p;rw[J]at h;simp only[Option.mem_toList,fH]at h;obtain⟨M,i,Y⟩:=h;exact .inr (.inr ⟨g,b,M,rfl,i,Y⟩)
 .rintro(h|h|⟨g,b,M,i,Y,m⟩)
  .exact .inl (.inl h)
  .exact .inl (.inr ⟨_,h,rfl⟩)
  .refine .inr ?_;rw[i];simp[Y,m]
theorem G7{Z:List Oper}{p q:Oper}{d:Nat}(h:(p.dst=some d/\d∈rT Z q)\/(q.dst=some d/\d∈rT Z p)):Ab.clash Z p q=true:=by
 unfold Ab.clash;rcases h with⟨i,g⟩|⟨i,g⟩
 .rw[i];simp[g]
 .rw[i];simp[g]
theorem Step.trans'{L:Nat}{H' K:Hp}{G g V:Gh}{w w' Y:World}(h:Step B L G w H' w' g)(k:Step B L g w' K Y V):Step B L G w K Y V:=
 ⟨k.r,h.ext.trans k.ext,h.fr.trans k.fr h.new,h.new.trans k.new h.fr.size,fun r p hr=>by
  rcases k.low r p hr with i|i
  .exact h.low r p i
  .exact .inr i,k.mono,fun b o v U=>by
  rcases k.icy b o v U with i|i
  .exact h.icy b o v i
  .exact .inr i⟩
theorem Step.weaken{L i:Nat}{H':Hp}{G g:Gh}{w w':World}(h:Step B L G w H' w' g)(z:i<=L):Step B i G w H' w' g:=
 ⟨h.r,h.ext,h.fr,h.new,fun r p hr=>(h.low r p hr).imp id (fun e=>cJ z e),cJ z h.mono,h.icy⟩
theorem Snd.fail(P:Program)(B:Bs):Snd P B 0 (fun _=>.fail):=
 ⟨fun _ _ _ _ _ h=>lL,fun _ _ _ _ _ _ _ _ h=>lL,fun _ _ _ _ _ _ _ _ h=>lL⟩
theorem Qc(fit:Fit P){n:Nat}{ih:Task->Res}(hih:Snd P B n ih){f N nx0:Nat}{ops:Array Oper}{E0 E':aw}{zfM H':Hp}{rs:List Rec}(cx:Ctx P B.cfg ih f N ops.toList E0 zfM E' H' rs)(hnx:zfM.next=nx0){G0 G:Gh}{w0 w:World}
 {Y:Array Bool}{a:Act}{m:Nat} (Z:InvD rs ops.toList N B nx0 E0 H' G0 w0 Y a w m G) {i:Nat} (hi:i∈Region.ready .any ops Y) {K:Act->World->Prop}{Q:Exit->Act->World->Prop}
 (hK:∀a' w' m' G',InvD rs ops.toList N B nx0 E0 H' G0 w0 (Y.setIfInBounds i true) a' w' m' G'->K a' w'):wpOp P ops Q i K a w:=by
 obtain⟨o,ho,hun,hpr⟩:=lM.1 hi;obtain⟨r,hr,ha⟩:=cx.record ho;have hil:i<ops.toList.length:=(eG.1 ho).1;have U:i<Y.size:=by rw[Z.size];exact hil
 have hnot:¬fU Y i:=fun hd=>by
  unfold fU at hd;rw[ju,pN U]at hd;rw[ju,pN U]at hun;simp only[bS]at hd hun;rw[hd]at hun;simp at hun
 -- what comes before i is done;what comes behind it is not
 have J:∀j∈(iw ops.toList []).getD i [],fU Y j:=C2 cx.calm Z.closed i o ho hpr;have hbehind:∀j,fU Y j->∀oj,ops.toList[j]?=some oj->i∉(iw ops.toList []).getD j []:=fun j hj oj hoj hm=>
  hnot (C2 cx.calm Z.closed j oj hoj (Z.closed j hj oj hoj) i hm)
 -- the writers of the slots that i names
 have hagree:∀t∈rT ops.toList o,∀(j:Nat) (oj:Oper),ops.toList[j]?=some oj->oj.dst=some t->(fU Y j↔j<i):=fun t ht j oj hoj hjd=>by
  constructor
  .intro hj;rcases zC j i with h|h|h
   .exact h
   .subst h;exact(hnot hj).elim
   .exact(hbehind j hj oj hoj (cx.calm.clash i j o oj h ho hoj (G7 (.inr ⟨hjd,ht⟩)))).elim
  .intro hj;exact J j (cx.calm.clash j i oj o hj hoj ho (G7 (.inl ⟨hjd,ht⟩)))
 have hslot:∀t∈rT ops.toList o,VR G ((f7 rs E' i).at t) (a.tmps.getD t undef):=fun t ht=>Z.slots.agree cx (Nat.le_of_lt hil) (hagree t ht);have z:tA G (f7 rs E' i) a o.op.operands:=fun x hx c hc=>by
  cases x with
  |tmp t=>simp only[zfl,az]at hc;subst hc;exact hslot t (C4.2 (.inr (.inl (by simpa using hx))))
  |const v=>exact uO hc
  |global g=>simp[zfl]at hc
  |func f=>simp only[zfl,az]at hc;subst hc;exact .clo (vs:=[]) rfl au
 have hwant:=GX (G:=G) (E:=f7 rs E' i) (a:=a) (ops:=ops) (o:=o) (fun g b d hg hd=>by
  simp only[fH]at hd;obtain⟨o',h1,h2⟩:=hd;exact hslot d (C4.2 (.inr (.inr ⟨g,b,o',hg,by rw[wR];exact h1,h2⟩))))
 have hdst:∀d,o.dst=some d->d<a.tmps.size/\∀(j:Nat) (o':Oper),fU Y j->ops.toList[j]?=some o'->o'.dst=some d->j<=i:=fun d hd=>by
  refine⟨?_,fun j o' hj hjo hjd=>Nat.le_of_lt ((hagree d (C4.2 (.inl hd)) j o' hjo hjd).1 hj)⟩;have hp:=ha.put;rw[hd]at hp;simp only[fk]at hp;split at hp
  .rename_i hb;rw[Z.frame];simpa [jQ]using hb
  .simp at hp
 have hclosed':∀j,fU (Y.setIfInBounds i true) j->∀oj,ops.toList[j]?=some oj->∀p∈preds oj,fU (Y.setIfInBounds i true) p:=fun j hj oj hoj p hp=>by
  rcases(mc U j).1 hj with rfl|hj
  .rw[ho]at hoj;simp only[az]at hoj;subst hoj;exact(mc U p).2 (.inr (hpr p hp))
  .exact(mc U p).2 (.inr (Z.closed j hj oj hoj p hp))
 -- an act comes up in its turn
 have hturn:mI o=true->i=m:=fun hact=>by
  have L:i∈jr ops.toList:=oC.2 ⟨o,ho,hact⟩;rcases zC i m with h|h|h
  .exact(hnot (Z.acts i L h)).elim
  .exact h
  .rcases Z.act with e|e
   .omega
   .obtain⟨om,C,V⟩:=oC.1 e;exact(Z.notyet (J m (cx.calm.clash m i om o h C ho (by unfold Ab.clash;simp[hact,V])))).elim
 -- how the invariant goes on
 have hfin:∀(v:Value) (w':World) (G':Gh) (X:Hp),VR G' r.val v->Step B nx0 G w X w' G' ->
  (∀k p,G'.β k=some p->G.β k=some p\/((zf3 rs H' i).next<=k/\k<(zf3 rs H' (i+1)).next)) ->
  ((i≠m/\X=zf3 rs H' m)\/(i=m/\X=zf3 rs H' (i+1)))->K (a.put o.dst v) w':=fun v w' G' X hv O hlow hX=>by
  have hslots':=Z.slots.put O.ext U ho hr hv hdst;have hlow':∀k p,G'.β k=some p->k<nx0\/∃j,fU (Y.setIfInBounds i true) j/\j<ops.toList.length/\(zf3 rs H' j).next<=k/\k<(zf3 rs H' (j+1)).next:=fun k p hk=>by
   rcases hlow k p hk with h|h
   .rcases Z.low k p h with h|⟨j,h1,h2⟩
    .exact .inl h
    .exact .inr ⟨j,(mc U j).2 (.inr h1),h2⟩
   .exact .inr ⟨i,(mc U i).2 (.inl rfl),hil,h⟩
  have hframe':(a.put o.dst v).tmps.size=N:=by rw[<-Z.frame];cases o.dst<;>simp[Act.put]
  have hdef':(a.put o.dst v).defers=[]:=by have:=Z.defers;cases o.dst<;>exact this
  rcases hX with⟨hne,rfl⟩|⟨rfl,rfl⟩
  .refine hK _ _ m G' ⟨by simpa using Z.size,hclosed',Z.le,Z.act,fun hd=>?_,fun e he hlt=>(mc U e).2 (.inr (Z.acts e he hlt)),Z.step.trans' O,hlow',hslots',hframe',hdef'⟩;rcases(mc U m).1 hd with h|h
   .exact hne h.symm
   .exact Z.notyet h
  ·-- the next act
   obtain⟨m',q1,q2,q3,q4⟩:=C3 (l:=ops.toList) (ops.toList.length-(i+1)) (i+1) ac;obtain⟨g1,g2⟩:=cx.gap (m'-(i+1)) (i+1) ac (fun j h1 h2=>q4 j h1 ac);rw[show i+1+(m'-(i+1))=m' by omega]at g1 g2;have hst2:Step B nx0 G0 w0 (zf3 rs H' m') w' G':=by
    have:=Z.step.trans' O;exact⟨this.r.more g1 g2,this.ext,this.fr,this.new,this.low,cJ this.mono g1,this.icy⟩
   have hact:∀e∈jr ops.toList,e<m'->fU (Y.setIfInBounds i true) e:=fun e he hlt=>by
    by_cases h:e<i
    .exact(mc U e).2 (.inr (Z.acts e he h))
    .by_cases h2:e=i
     .exact(mc U e).2 (.inl h2)
     .exact(q4 e ac hlt he).elim
   refine hK _ _ m' G' ⟨by simpa using Z.size,hclosed',q2,q3,fun hd=>?_,hact,hst2,hlow',hslots',hframe',hdef'⟩;rcases(mc U m').1 hd with h|h
   .omega
   ·-- m' is done though i,an act before it,was not
    have hm'l:m'<ops.toList.length:=by
     rcases wW m' ops.toList.length with h3|h3
     .exact h3
     .unfold fU at h;rw[ju,CY (by rw[Z.size];exact h3)]at h;simp at h
    rcases q3 with e|e
    .omega
    .obtain⟨om,C,V⟩:=oC.1 e;rcases Z.act with e2|e2
     .omega
     .obtain⟨oi,hoi,hacti⟩:=oC.1 e2;rw[ho]at hoi;simp only[az]at hoi;subst hoi;exact hbehind m' h om C (cx.calm.clash i m' o om ac ho C (by unfold Ab.clash;simp[hacti,V]))
 -- the range of m for the looks
 have hlo:∀e∈jr ops.toList,e∈(iw ops.toList []).getD i []->e<m:=fun e he hA=>by
  have hd:=J e hA;rcases wW e m with h|h
  .exact h
  .exfalso;rcases Z.act with e2|e2
   .have:=(oC.1 he);obtain⟨oe,hoe,_⟩:=this;have:=(eG.1 hoe).1;omega
   .by_cases e3:e=m
    .subst e3;exact Z.notyet hd
    .obtain⟨om,C,V⟩:=oC.1 e2;obtain⟨oe,hoe,hacte⟩:=oC.1 he;exact Z.notyet (C2 cx.calm Z.closed e oe hoe (Z.closed e hd oe hoe) m (cx.calm.clash m e om oe ac C hoe (by unfold Ab.clash;simp[V,hacte])))
 have hhi:∀e∈jr ops.toList,i∈(iw ops.toList []).getD e []->m<=e:=fun e he hA=>by
  rcases wW e m with h|h
  .obtain⟨oe,hoe,_⟩:=oC.1 he;exact(hbehind e (Z.acts e he h) oe hoe hA).elim
  .exact h
 unfold wpOp;rw[show ops[i]?=some o by rw[<-wR];exact ho];simp only[];have hnxm:nx0<=(zf3 rs H' m).next:=Z.step.mono
 have hsame:Step B nx0 G w (zf3 rs H' m) w G:=(lH Z.step.r).weaken hnxm;have hstill:∀(v:Value) (w':World) (G':Gh),i≠m->VR G' r.val v->Step B (zf3 rs H' m).next G w (zf3 rs H' m) w' G'->K (a.put o.dst v) w':=fun v w' G' L hv O=>
  hfin v w' G' _ hv (O.weaken hnxm) (fun k p hk=>by
   rcases O.low k p hk with h|h
   .exact .inl h
   .have:=O.r.dom k p hk;omega) (.inl ⟨L,rfl⟩)
 have hnotact:mI o=false->i≠m:=fun hna e=>by
  rcases Z.act with e2|e2
  .omega
  .obtain⟨om,C,V⟩:=oC.1 e2;rw[<-e,ho]at C;simp only[az]at C;subst C;rw[hna]at V;simp at V
 cases hd:r.did with
 |false=>
  have hw:Region.wanted o (yielded ops a.tmps)=false:=by rw[<-hwant,ha.want];exact hd
  rw[hw];simp only[dm,cS];obtain⟨hval,hheap⟩:=ha.no hd;by_cases L:i=m
  .subst L;exact hfin undef w G (zf3 rs H' (i+1)) (by rw[hval];exact wH G) (by rw[hheap];exact hsame) (fun k p hk=>.inl hk) (.inr ⟨rfl,rfl⟩)
  .exact hfin undef w G _ (by rw[hval];exact wH G) hsame (fun k p hk=>.inl hk) (.inl ⟨L,rfl⟩)
 |true=>
  have hw:Region.wanted o (yielded ops a.tmps)=true:=by rw[<-hwant,ha.want];exact hd
  rw[hw];simp only[cV];have hop:=ha.yes hd;refine .inl ?_;cases I:zhh o.op with
  |act=>
   have L:=hturn (by simp[mI,I]);subst L;refine zy fit hih Z.step.r z hop fun v w' G' hv O=>?_;refine hfin v w' G' _ hv (O.weaken hnxm) (fun k p hk=>?_) (.inr ⟨rfl,rfl⟩);rcases O.low k p hk with h|h
   .exact .inl h
   .exact .inr ⟨h,O.r.dom k p hk⟩
  |calm=>
   have hnc:∀c,o.op≠.call c:=fun c e=>by
    rw[e]at I;simp only[zhh]at I;split at I<;>simp at I
   have L:=hnotact (by simp[mI,I]);have hX:=(CU (P:=P) (by simp[qV,I]) ((tC hnc).1 hop)).2 (zf3 rs H' m);have hop':zgI P B.cfg ih f (f7 rs E' i) (zf3 rs H' m) o.op=.val r.val (zf3 rs H' m):=(tC hnc).2 hX;exact zy fit hih Z.step.r z hop' fun v w' G' hv O=>hstill v w' G' L hv O
  |read=>
   have L:=hnotact (by simp[mI,I]);have M:=cx.look i r hr hd m Z.act.symm hlo hhi;unfold zdQ at M;rw[ha.eo,I,ha.eE]at M;simp only[]at M;split at M
   .rename_i v1 H1 hop';have hv1:=AV.beq_eq M;subst hv1;have hH1:=CV (by simp[pL,I]) hop';subst hH1;exact zy fit (Snd.fail P B) Z.step.r z hop' fun v w' G' hv O=>hstill v w' G' L hv O
   .simp at M
  |make=>
   have L:=hnotact (by simp[mI,I]);have hnc:∀c,o.op≠.call c:=fun c e=>by
    rw[e]at I;simp only[zhh]at I;split at I<;>simp at I
   have hopA:=(tC hnc).1 hop;obtain⟨blk,obj,ext,v,hH1,hrun,hmade,hv⟩:=PZ (P:=P) (w:=w) (by simp[rU,I]) z hopA;have M:=cx.look i r hr hd m Z.act.symm hlo hhi;unfold zdQ at M;rw[ha.eo,I,ha.eH,ha.eH']at M;simp only[]at M;have hnext1:(zf3 rs H' (i+1)).next=(zf3 rs H' i).next+1:=by rw[hH1];rfl
   have hgetm:(zf3 rs H' m).get (zf3 rs H' i).next=some blk:=by
    split at M
    .rename_i b b' h1 h2;rw[HB.beq_eq M]at h1;rw[hH1,zfk,aq rfl]at h2;simp only[az]at h2;subst h2;exact h1
    .simp at M
   have hlt:i<m:=by
    rcases zC i m with h|h|h
    .exact h
    .exact(L h).elim
    .exfalso;rcases Z.act with e2|e2
     .omega
     .obtain⟨om,C,V⟩:=oC.1 e2;exact Z.notyet (J m (cx.calm.clash m i om o h C ho (by unfold Ab.clash;simp[V,rU,I])))
   have hr0:(zf3 rs H' i).next<(zf3 rs H' m).next:=by
    have:=cx.nextMono (m-(i+1)) (i+1) (by have:=Z.le;omega);rw[show i+1+(m-(i+1))=m by omega]at this;omega
   have hnx0:nx0<=(zf3 rs H' i).next:=by
    have:=cx.nextMono i 0 ac;rw[b9,cx.zeroH,hnx]at this;exact this
   have hno:∀q,G.β (zf3 rs H' i).next=some q->False:=fun q hq=>by
    rcases Z.low _ q hq with h|⟨j,h1,h2,h3,h4⟩
    .omega
    .rcases zC j i with h|h|h
     .have:=cx.nextMono (i-(j+1)) (j+1) ac;rw[show j+1+(i-(j+1))=i by omega]at this;omega
     .subst h;exact hnot h1
     .have:=cx.nextMono (j-(i+1)) (i+1) ac;rw[show i+1+(j-(i+1))=j by omega]at this;omega
   have O:=Gt Z.step.r hno hr0 hgetm hnx0 hmade;unfold Oper.wp;rw[hrun];refine hfin v _ _ _ (hv _ (zh1 _ _ _)) O (fun k p hk=>?_) (.inl ⟨L,rfl⟩);simp only[Gh.add]at hk;split at hk
   .rename_i e;exact .inr ⟨ac,ac⟩
   .exact .inl hk
theorem countP_set{Y:Array Bool}{i:Nat}(I:i<Y.size)(U:Y[i]=false):(Y.setIfInBounds i true).toList.countP (·=false)+1=Y.toList.countP (·=false):=by
 rw[GH,List.countP_set zj];have Z:Y.toList[i]' zj=false:=zb;have V:0<Y.toList.countP (·=false):=List.countP_pos_iff.2 ⟨false,by rw[<-Z];exact dI _,au⟩;rw[Z];simp only[jt,cV,l7,gE,dm,cS];omega
theorem Qd(fit:Fit P){n:Nat}{ih:Task->Res}(hih:Snd P B n ih){f N L:Nat}{ops:Array Oper}{E0 z:aw}{zfM H':Hp}{rs:List Rec}(cx:Ctx P B.cfg ih f N ops.toList E0 zfM z H' rs)(hnx:zfM.next=L){G0:Gh}{w0:World}
 (hE':f7 rs z ops.toList.length=z) (hH':zf3 rs H' ops.toList.length=H') {Q:Exit->Act->World->Prop} (hQ:∀e a w,kY B N L G0 w0 .normal z H' e a w->Q e a w) :
 ∀(Z:Nat) (Y:Array Bool) (a:Act) (w:World) (m:Nat) (G:Gh),InvD rs ops.toList N B L E0 H' G0 w0 Y a w m G->Y.toList.countP (·=false)<=Z->wpAny P .any ops Q Z Y a w:=by
 -- at the end all is done
 have K:∀(Y:Array Bool) (a:Act) (w:World) (m:Nat) (G:Gh),InvD rs ops.toList N B L E0 H' G0 w0 Y a w m G->Region.ready .any ops Y=[]->Q .normal a w:=fun Y a w m G V U=>by
  have J:∀j,j<ops.toList.length->fU Y j:=fun j=>by
   induction j using Nat.strongRecOn with
   |_ j ihj=>
    intro hj;have I:=aR hj;have C:j<Y.size:=by rw[V.size];exact hj
    cases hl:Y[j]with
    |true=>
     unfold fU;rw[ju,pN C,hl];rfl
    |false=>
     exfalso;have:j∈Region.ready .any ops Y:=lM.2 ⟨_,I,by rw[ju,pN C,hl];rfl,fun p hp=>by
      have hlt:=cx.calm.lt j _ I p hp;exact ihj p hlt ac⟩
     rw[U]at this;simp at this
  have hm:m=ops.toList.length:=by
   rcases V.act with e|e
   .exact e
   .obtain⟨om,hom,_⟩:=oC.1 e;exact(V.notyet (J m (eG.1 hom).1)).elim
  subst hm;have g:=V.step;rw[hH']at g;refine hQ _ _ _ ⟨rfl,G,⟨V.frame,fun t=>?_⟩,g,V.defers⟩;have:=V.slots.agree cx (t:=t) (aE _) (fun j oj hoj _=>⟨fun _=>(eG.1 hoj).1,fun h=>J j h⟩);rw[hE']at this;exact this
 intro Z;induction Z with
 |zero=>
  intro Y a w m G V hc;have U:Region.ready .any ops Y=[]:=by
   apply wX.2;intro i hi;obtain⟨o,I,O,_⟩:=lM.1 hi;have M:i<Y.size:=G3;rw[ju,pN M]at O;have:=countP_set M zA;omega
  exact⟨U,K Y a w m G V U⟩
 |succ Z ihf=>
  intro Y a w m G V hc;refine⟨fun U=>K Y a w m G V U,fun i hi=>?_⟩;obtain⟨o,I,O,_⟩:=lM.1 hi;have M:i<Y.size:=G3;rw[ju,pN M]at O;have hcs:=countP_set M zA;exact Qc fit hih cx hnx V hi (fun a' w' m' G' hI'=>ihf _ a' w' m' G' hI' ac)
theorem G8(fit:Fit P){n:Nat}{ih:Task->Res}(U:Snd P B n ih){f N:Nat}{ops:Array Oper}{E C:aw}{H H':Hp}{G:Gh}{w:World}{x:AX}{a:Act}(hr:mJ P B.cfg ih f N ops.toList E H=.done x C H')
 (h:R B H w G) (i:TR N G E a) (hd:a.defers=[]) {Q:Exit->Act->World->Prop} (hQ:∀e g w',kY B N H.next G w x C H' e g w'->Q e g w'):wpAny P .any ops Q ops.size (Array.replicate ops.size false) a {w with drawn:=w.drawn+1}:=by
 unfold mJ at hr;split at hr
 .rename_i M;split at hr
  .rename_i E1 H1 rs o;split at hr
   .rename_i Z;simp only[Res.done.injEq]at hr;obtain⟨rfl,rfl,rfl⟩:=hr;have cx:=Qb M o Z;have hlen:=cx.len;have K:f7 rs E1 ops.toList.length=E1:=by unfold f7;rw[gI ac]
    have J:zf3 rs H1 ops.toList.length=H1:=by unfold zf3;rw[gI ac]
    obtain⟨m,q1,q2,q3,q4⟩:=C3 (l:=ops.toList) ops.toList.length 0 ac;obtain⟨L,g2⟩:=cx.gap m 0 ac (fun j _ Y=>q4 j ac ac);rw[b9,cx.zeroH]at L g2;have I:R B H {w with drawn:=w.drawn+1} G:=h.heap rfl;have V:Step B H.next G w (zf3 rs H1 m) {w with drawn:=w.drawn+1} G:=
     ⟨I.more L g2,uM _,⟨rfl,rfl,rfl,aE _,fun _ _ _=>rfl⟩,tq _ _,fun _ _ h=>.inl h,L,fun _ _ _ h=>.inl h⟩
    have z:∀j,¬fU (Array.replicate ops.size false) j:=fun j Y=>by
     unfold fU at Y;rw[ju,G5]at Y;split at Y<;>simp at Y
    refine Qd fit U cx rfl K J hQ ops.size _ a _ m G
     ⟨au,fun j Y=>(z j Y).elim,q2,q3,z m,fun e he O=>(q4 e (dZ _) O he).elim,V,fun r p hr=>.inl (h.dom r p hr),fun t=>.inr ⟨fun j o' Y=>(z j Y).elim,i.slots t⟩,i.size,hd⟩ ?_
    exact cJ List.countP_le_length au
   .simp at hr
  .simp at hr
 .simp at hr
end
def lN(ops:Array Oper):List Nat->Array Bool->Prop
 |[],listed=>Region.ready .any ops listed=[]
 |i::L,listed=>i∈Region.ready .any ops listed/\lN ops L (listed.setIfInBounds i true)
theorem G9{ops:Array Oper}:∀(m t:Nat) (Y:Array Bool),Y.size=ops.size->Y.toList.countP (·=false)<=m->lN ops (Region.linearise.go .any ops m t Y []) Y
 |0,t,Y,hs,hc=>by
  show Region.ready .any ops Y=[];apply wX.2;intro i I;obtain⟨o,Z,j,_⟩:=lM.1 I;have U:i<Y.size:=G4;rw[ju,pN U]at j;have:=countP_set U (by simpa using j);omega
 |m+1,t,Y,hs,hc=>by
  simp only[Region.linearise.go];change lN ops (match (Region.ready .any ops Y)[t%(Region.ready .any ops Y).length]? with
   |some i=>Region.linearise.go .any ops m (t/(Region.ready .any ops Y).length) (Y.setIfInBounds i true) [i]
   |none=>[].reverse) Y
  cases I:(Region.ready .any ops Y)[t%(Region.ready .any ops Y).length]? with
  |none=>
   show Region.ready .any ops Y=[];cases hr:Region.ready .any ops Y with
   |nil=>rfl
   |cons x K=>
    rw[hr]at I;have O:t%(x::K).length<(x::K).length:=Nat.mod_lt _ au;simp at I;simp at O;omega
  |some i=>
   simp only[];rw[linearise_go_acc,List.reverse_singleton,List.singleton_append];have V:=lJ I;refine⟨V,G9 m _ _ (by simpa using hs) ?_⟩;obtain⟨o,Z,j,_⟩:=lM.1 V;have U:i<Y.size:=G4;rw[ju,pN U]at j;have:=countP_set U (by simpa using j);omega
section
variable {P:Program} {Q:Exit -> Act -> World -> Prop}
theorem C5{ops:Array Oper}:∀(L:List Nat) (m:Nat) (Y:Array Bool) (a:Act) (w:World),wpAny P .any ops Q m Y a w->lN ops L Y->wpOps P ops Q L a w
 |[],0,Y,a,w,h,_=>h.2
 |[],m+1,Y,a,w,h,hv=>h.1 hv
 |i::L,0,Y,a,w,h,hv=>by
  have Z:=hv.1;rw[h.1]at Z;simp at Z
 |i::L,m+1,Y,a,w,h,hv=>by
  rw[wpOps_cons];exact wpOp_mono (fun a w o=>C5 L m _ a w o hv.2) (h.2 i hv.1)
theorem Qe{ops:Array Oper}{id:Nat}{a:Act}{w:World}(V:P.follows .mixedOrders=true)
 (h:∀L,lN ops L (Array.replicate ops.size false)->wpOps P ops Q L a {w with drawn:=w.drawn+1}):(Code.region id ops true).wp P Q a w:=
 wp_region_draw fun t=>by
  simp only[Region.schedule,V,o0,cV];exact h _ (G9 ops.size t _ au (cJ List.countP_le_length au))
theorem C6{ops ops':Array Oper}{φ:Nat->Nat}:∀(L:List Nat) (a:Act) (w:World),
 (∀i∈L,∃o M,ops[i]?=some o/\ops'[φ i]?=some M/\(∃O C,M={o with after:=O,guard:=C})/\∀a:Act,Region.wanted M (yielded ops' a.tmps)=Region.wanted o (yielded ops a.tmps)) ->
 wpOps P ops' Q (L.map φ) a w->wpOps P ops Q L a w
 |[],_,_,_,h=>h
 |i::L,a,w,hr,h=>by
  rw[dE,wpOps_cons]at h;rw[wpOps_cons];obtain⟨o,M,Z,g,⟨O,C,m⟩,V⟩:=hr i dJ;have I:∀a w,wpOps P ops' Q (L.map φ) a w->wpOps P ops Q L a w:=fun a w=>C6 L a w (fun j Y=>hr j (dO _ Y));have K:=wpOp_mono I h;unfold wpOp at K⊢;rw[g]at K;rw[Z];simp only[]at K⊢;rw[V a]at K;subst m;exact K
end
theorem zD(q p:Nat)(l:List Oper):(js q p l).length=l.length:=by
 unfold js;split<;>simp
theorem wZ{q p:Nat}{l:List Oper}{i:Nat}{o:Oper}(h:l[i]?=some o):
 ∃M,(js q p l)[i]?=some M/\(∃O,M={o with after:=O})/\(i≠q->M=o)/\∀j,j∈preds M↔j∈preds o\/(i=q/\j=p):=by
 unfold js;have I:=(eG.1 h).1;by_cases e:i=q
 .subst e;rw[h];refine⟨_,List.getElem?_set_self I,⟨_,rfl⟩,fun z=>(z rfl).elim,fun j=>?_⟩;unfold preds;have:(o.after.push {on:=p,ground:=.data}).toList=o.after.toList++[{on:=p,ground:=.data}]:=au;rw[this,List.filter_append,r0,pM];have g:(List.filter (Region.binds .any) [({on:=p,ground:=.data}:Edge)])=[{on:=p,ground:=.data}]:=rfl;rw[g];simp
 .have C:∀Z,(l.set q Z)[i]?=some o:=fun Z=>by rw[List.getElem?_set_ne (fun h=>e h.symm)];exact h
  split
  .exact⟨o,C _,⟨o.after,rfl⟩,fun _=>rfl,fun j=>⟨.inl,fun h=>h.elim id (fun h=>(e h.1).elim)⟩⟩
  .exact⟨o,h,⟨o.after,rfl⟩,fun _=>rfl,fun j=>⟨.inl,fun h=>h.elim id (fun h=>(e h.1).elim)⟩⟩
theorem He{q p:Nat}{l:List Oper}{i:Nat}{M:Oper}(h:(js q p l)[i]?=some M):∃o,l[i]?=some o:=by
 have:=(eG.1 h).1;rw[zD]at this;exact⟨_,aR this⟩
theorem Qf{q p:Nat}{l:List Oper}(j:Nat):((js q p l)[j]?).bind (·.dst)=(l[j]?).bind (·.dst):=by
 cases h:l[j]? with
 |none=>
  rw[gI (by rw[zD];exact List.getElem?_eq_none_iff.1 h)]
 |some o=>
  obtain⟨M,i,⟨O,rfl⟩,_⟩:=wZ (q:=q) (p:=p) h;rw[i];rfl
theorem Hf{q p:Nat}{l:List Oper}{Y:Array Bool}{i:Nat}(h:i∈Region.ready .any (js q p l).toArray Y):i∈Region.ready .any l.toArray Y:=by
 obtain⟨L,Z,g,O⟩:=lM.1 h;simp only[]at Z;obtain⟨o,V⟩:=He Z;obtain⟨K,m,_,_,M⟩:=wZ (q:=q) (p:=p) V;rw[Z]at m;simp only[az]at m;subst m;exact lM.2 ⟨o,V,g,fun j U=>O j ((M j).2 (.inl U))⟩
theorem w1{q p:Nat}{l:List Oper}{Y:Array Bool}{i:Nat}(h:i∈Region.ready .any l.toArray Y)(J:i=q->Y.getD p false=true):i∈Region.ready .any (js q p l).toArray Y:=by
 obtain⟨o,Z,g,m⟩:=lM.1 h;simp only[]at Z;obtain⟨U,O,_,_,M⟩:=wZ (q:=q) (p:=p) Z;refine lM.2 ⟨U,O,g,fun j V=>?_⟩;rcases(M j).1 V with h|⟨L,rfl⟩
 .exact m j h
 .exact J L
theorem Qg{Y:Array Bool}{i p:Nat}(h:Y.getD p false=true):(Y.setIfInBounds i true).getD p false=true:=by
 simp only[ju,uL]at *;split
 .split
  .rfl
  .rename_i Z g;subst Z;rw[CY ac]at h;simp at h
 .exact h
theorem C7{q p:Nat}{l:List Oper}:∀{L:List Nat}{Y:Array Bool},Y.getD p false=true->lN l.toArray L Y->lN (js q p l).toArray L Y
 |[],Y,_,hv=>by
  show Region.ready .any (js q p l).toArray Y=[];apply wX.2;intro i I;have:=Hf I;rw[show Region.ready .any l.toArray Y=[]from hv]at this;simp at this
 |i::L,Y,hd,hv=>⟨w1 hv.1 (fun _=>hd),C7 (Qg hd) hv.2⟩
theorem Hg{p q:Nat}(O:p≠q){l:List Oper}:∀{L:List Nat}{Y:Array Bool},Y.size=l.length->lN l.toArray L Y->lN (js q p l).toArray L Y\/lN (js p q l).toArray L Y
 |[],Y,_,hv=>.inl <|by
  show Region.ready .any (js q p l).toArray Y=[];apply wX.2;intro i I;have:=Hf I;rw[show Region.ready .any l.toArray Y=[]from hv]at this;simp at this
 |i::L,Y,hs,hv=>by
  have Z:i<Y.size:=by
   obtain⟨o,j,_⟩:=lM.1 hv.1;rw[hs];exact(eG.1 j).1
  have U:(Y.setIfInBounds i true).getD i false=true:=by
   simp[ju,Z]
  by_cases V:i=q
  .subst V;exact .inr ⟨w1 hv.1 (fun e=>(O e.symm).elim),C7 U hv.2⟩
  .by_cases m:i=p
   .subst m;exact .inl ⟨w1 hv.1 (fun e=>(V e).elim),C7 U hv.2⟩
   .rcases Hg O (by simpa using hs) hv.2 with h|h
    .exact .inl ⟨w1 hv.1 (fun e=>(V e).elim),h⟩
    .exact .inr ⟨w1 hv.1 (fun e=>(m e).elim),h⟩
theorem C8{ops:Array Oper}:∀{L:List Nat}{Y:Array Bool},lN ops L Y->∀i∈L,∃o,ops.toList[i]?=some o
 |[],_,_,i,I=>by simp at I
 |j::L,Y,hv,i,I=>by
  rcases eP.1 I with rfl|I
  .obtain⟨o,Z,_⟩:=lM.1 hv.1;exact⟨o,Z⟩
  .exact C8 hv.2 i I
theorem Hh{P:Program}{Q:Exit->Act->World->Prop}{q p:Nat}{l:List Oper}{L:List Nat}{Y:Array Bool}{a:Act}{w:World}(U:lN l.toArray L Y)
 (h:wpOps P (js q p l).toArray Q L a w):wpOps P l.toArray Q L a w:=by
 refine C6 (ops':=(js q p l).toArray) (φ:=id) L a w (fun i I=>?_) jv;obtain⟨o,Z⟩:=C8 U i I;simp only[]at Z;obtain⟨M,m,⟨O,rfl⟩,_⟩:=wZ (q:=q) (p:=p) Z;refine⟨o,_,uJ,uS,⟨O,o.guard,rfl⟩,fun a=>?_⟩;have V:yielded (js q p l).toArray a.tmps=yielded l.toArray a.tmps:=funext fun j=>by
  unfold yielded;have:=Qf (q:=q) (p:=p) (l:=l) j;simp only[List.getElem?_toArray,this]
 rw[V];rfl
structure PermD (ord:List Nat) (l:List Oper):Prop where
 len:ord.length=l.length
 bk:∀k:Nat,k<l.length->∃i,ord[k]?=some i/\i<l.length/\iW ord i=k
 lt:∀i:Nat,i<l.length->iW ord i<l.length/\ord[iW ord i]?=some i
 pre:∀(i:Nat) o,l[i]?=some o->(∀p∈preds o,p<l.length)/\∀j b,o.guard=some (j,b)->j<l.length
theorem Qh{g:List Nat}{l:List Oper}(h:ww g l=true):PermD g l:=by
 unfold ww at h;simp only[co,gF,kZ]at h;obtain⟨⟨U,Y⟩,m⟩:=h;refine⟨jf U,fun k Z=>?_,fun i I=>?_,fun i o V=>?_⟩
 .have:=(Y k Z).1.1;split at this
  .rename_i i I;simp only[co]at this;exact⟨i,I,by simpa [jQ]using this.1,jf this.2⟩
  .simp at this
 .have O:=(Y i I).1.2;have K:=(Y i I).2;refine⟨by simpa [jQ]using O,?_⟩;split at K
  .rename_i k Z;rw[Z,jf K]
  .simp at K
 .have:=m o (lJ V);refine⟨fun p hp=>by simpa [jQ]using this.1 p hp,fun j b J=>?_⟩;have z:=this.2;rw[J]at z;simpa [jQ]using z
theorem Hk{i β:Type}{f:i->Option β}:∀{K:List i},(∀x∈K,(f x).isSome=true)->∀k:Nat,(K.filterMap f)[k]?=(K[k]?).bind f
 |[],_,k=>by simp
 |x::K,h,k=>by
  obtain⟨y,U⟩:=Option.isSome_iff_exists.1 (h x dJ);rw[List.filterMap_cons_some U];cases k with
  |zero=>simp[U]
  |succ k=>simp[Hk (fun x C=>h x (dO _ C)) k]
section
variable {ord:List Nat} {l:List Oper} (hp:PermD ord l)
include hp
theorem PermD.at'{i:Nat}{o:Oper}(h:l[i]?=some o):(iy ord l)[iW ord i]?=some (rV ord o):=by
 have I:=(eG.1 h).1;unfold iy;rw[Hk (fun x C=>?_)]
 .rw[(hp.lt i I).2];simp[h]
 .obtain⟨k,j⟩:=CZ.1 C;have M:k<l.length:=by rw[<-hp.len];exact(eG.1 j).1
  obtain⟨Y,Z,g,_⟩:=hp.bk k M;rw[j]at Z;simp only[az]at Z;subst Z;rw[aR g];rfl
theorem PermD.length:(iy ord l).length=l.length:=by
 have:∀k,k<l.length->((iy ord l)[k]?).isSome=true:=fun k j=>by
  obtain⟨i,Z,g,m⟩:=hp.bk k j;have:=hp.at' (aR g);rw[m]at this;rw[this];rfl
 refine Nat.le_antisymm (cJ (List.length_filterMap_le _ _) (by rw[hp.len];exact aE _)) ?_;rcases wW (iy ord l).length l.length with h|h
 .have:=this _ h;rw[gI (aE _)]at this;simp at this
 .exact h
theorem PermD.of{k:Nat}{M:Oper}(h:(iy ord l)[k]?=some M):∃i o,l[i]?=some o/\iW ord i=k/\M=rV ord o:=by
 have j:k<l.length:=by rw[<-hp.length];exact(eG.1 h).1
 obtain⟨i,Z,g,m⟩:=hp.bk k j;have:=hp.at' (aR g);rw[m,h]at this;simp only[az]at this;exact⟨i,_,aR g,m,this⟩
theorem PermD.inj{i j:Nat}(I:i<l.length)(Y:j<l.length)(h:iW ord i=iW ord j):i=j:=by
 have Z:=(hp.lt i I).2;rw[h,(hp.lt j Y).2]at Z;simpa using Z.symm
theorem PermD.preds{o:Oper}:Ab.preds (rV ord o)=(Ab.preds o).map (iW ord):=by
 unfold Ab.preds rV;simp only[tD];rw[List.filter_map];have:(Region.binds .any ∘ fun e:Edge=>{e with on:=iW ord e.on})=Region.binds .any:=rfl;rw[this,List.filter_filter];simp only[uW,tD];rfl
def w5(g:List Nat)(l:List Oper)(x y:Array Bool):Prop:=x.size=l.length/\y.size=l.length/\∀i,i<l.length->y[iW g i]?=x[i]?
theorem w5.set{x y:Array Bool}(h:w5 ord l x y){i:Nat}(I:i<l.length):w5 ord l (x.setIfInBounds i true) (y.setIfInBounds (iW ord i) true):=by
 refine⟨by simpa using h.1,by simpa using h.2.1,fun j Y=>?_⟩;simp only[uL];by_cases e:i=j
 .subst e;rw[aq rfl,aq rfl,aq (by rw[h.2.1];exact(hp.lt i I).1),aq (by rw[h.1];exact I)]
 .rw[af e,af (fun Z=>e (hp.inj I Y Z))];exact h.2.2 j Y
theorem Hl{x y:Array Bool}(h:w5 ord l x y){i:Nat}(I:i<l.length):iW ord i∈Region.ready .any (iy ord l).toArray y↔i∈Region.ready .any l.toArray x:=by
 have Z:=aR I;have z:=hp.at' Z;rw[lM,lM];simp only[];have hd:∀(j:Nat) (b:Bool),j<l.length->y.getD (iW ord j) b=x.getD j b:=fun j b O=>by
  simp only[ju,h.2.2 j O]
 constructor
 .rintro⟨M,m,Y,V⟩;rw[z]at m;simp only[az]at m;subst m;refine⟨_,Z,by rw[<-hd i true I];exact Y,fun p J=>?_⟩;rw[<-hd p false ((hp.pre i _ Z).1 p J)];exact V _ (by rw[hp.preds];exact List.mem_map_of_mem J)
 .rintro⟨M,m,Y,V⟩;rw[Z]at m;simp only[az]at m;subst m;refine⟨_,z,by rw[hd i true I];exact Y,fun p J=>?_⟩;rw[hp.preds]at J;obtain⟨U,g,rfl⟩:=lc.1 J;rw[hd U false ((hp.pre i _ Z).1 U g)];exact V U g
theorem Hm:∀{L:List Nat}{x y:Array Bool},w5 ord l x y->lN l.toArray L x->lN (iy ord l).toArray (L.map (iW ord)) y
 |[],x,y,hs,hv=>by
  show Region.ready .any (iy ord l).toArray y=[];apply wX.2;intro k j;obtain⟨M,m,_⟩:=lM.1 j;simp only[]at m;obtain⟨i,o,Z,g,_⟩:=hp.of m;have I:=(eG.1 Z).1;rw[<-g]at j;have:=(Hl hp hs I).1 j;rw[show Region.ready .any l.toArray x=[]from hv]at this;simp at this
 |i::L,x,y,hs,hv=>by
  obtain⟨o,Y,_⟩:=lM.1 hv.1;have I:i<l.length:=(eG.1 Y).1;exact⟨(Hl hp hs I).2 hv.1,Hm (hs.set hp I) hv.2⟩
theorem Qi{P:Program}{Q:Exit->Act->World->Prop}{L:List Nat}{Y:Array Bool}{a:Act}{w:World}(U:lN l.toArray L Y)
 (h:wpOps P (iy ord l).toArray Q (L.map (iW ord)) a w):wpOps P l.toArray Q L a w:=by
 refine C6 (ops':=(iy ord l).toArray) (φ:=iW ord) L a w (fun i I=>?_) h;obtain⟨o,Z⟩:=C8 U i I;simp only[]at Z;have z:=hp.at' Z;refine⟨o,rV ord o,uJ,wE,⟨_,_,rfl⟩,fun a=>?_⟩;unfold Region.wanted rV;cases J:o.guard with
 |none=>rfl
 |some O=>
  obtain⟨j,b⟩:=O;have V:=(hp.pre i o Z).2 j b J;have K:=hp.at' (aR V);simp only[];unfold yielded;simp only[List.getElem?_toArray,K,aR V];rfl
end
theorem T.beq_eq{i:Type}{U:i->i->Bool}(g:∀a b,U a b=true->a=b):∀{x y:T i},T.beq U x y=true->x=y
 | .e,.e,_=>rfl
 | .e,.n _ _ _,h=>by simp[T.beq]at h
 | .n _ _ _,.e,h=>by simp[T.beq]at h
 | .n v l r,.n O Y V,h=>by
   simp only[T.beq,co]at h;rw[T.beq_eq g h.1.2,T.beq_eq g h.2];have Z:=h.1.1;cases v<;>cases O <;>simp only[dm]at Z
   .rfl
   .rw[g _ _ Z]
theorem Qj{ops:List Oper}{Z Y:aw}{L J:Hp}(h:Cj ops Z Y L J=true):(∀o∈ops,∀d,o.dst=some d->Z.at d=Y.at d)/\L=J:=by
 unfold Cj at h;simp only[co,gF]at h;refine⟨fun o j d hd=>?_,?_⟩
 .have:=h.1.1 o j;rw[hd]at this;exact AV.beq_eq this
 .have i:=jf h.1.2;have g:=T.beq_eq (fun a b=>HB.beq_eq) h.2;cases L;cases J;simp only[]at i g;rw[i,g]
section
variable {P:Program} {B:Bs} {cfg:Cfg}
theorem Qk{N t:Nat}{E Z:aw}{K:Option Tmp}{v:AV}(h:fk N E K v=some Z)(C:K≠some t):Z.at t=E.at t:=by
 unfold fk at h;split at h
 .rename_i d;split at h
  .simp only[az]at h;rw[<-h,uN,af (fun e=>C nD)]
  .simp at h
 .simp only[az]at h;rw[<-h]
theorem Hn{ih:Task->Res}{f N t:Nat}{Z:List Oper}:∀{rs:List Rec}{l:List Oper}{E E':aw}{H H':Hp},nC P cfg ih f N Z rs l E H E' H'->(∀o∈l,o.dst≠some t)->E'.at t=E.at t
 |[],[],_,_,_,_,h,_=>by rw[h.1]
 |[],_::_,_,_,_,_,h,_=>by simp[nC]at h
 |_::_,[],_,_,_,_,h,_=>by simp[nC]at h
 |r::rs,o::l,E,E',H,H',h,ht=>by
  obtain⟨_,_,_,_,_,_,E1,hp,Y⟩:=h;rw[Hn Y (fun o j=>ht o (dO _ j)),Qk hp (ht o dJ)]
theorem Ho{ih:Task->Res}{f N t:Nat}{ops:List Oper}{E L:aw}{H H':Hp}{x:AX}(h:mJ P cfg ih f N ops E H=.done x L H')(C:∀o∈ops,o.dst≠some t):x=.normal/\L.at t=E.at t:=by
 unfold mJ at h;split at h
 .split at h
  .rename_i E1 H1 rs Z;split at h
   .simp only[Res.done.injEq]at h;obtain⟨rfl,rfl,rfl⟩:=h;exact⟨rfl,Hn (wV Z) C⟩
   .simp at h
  .simp at h
 .simp at h
theorem Qm{Z:List Nat}{l:List Oper}{o:Oper}(h:o∈iy Z l):∃M∈l,o.dst=M.dst:=by
 unfold iy at h;rw[List.mem_filterMap]at h;obtain⟨i,_,g⟩:=h;split at g
 .rename_i M j;simp only[az]at g;subst g;exact⟨M,lJ j,rfl⟩
 .simp at g
theorem Hr{q p:Nat}{l:List Oper}{o:Oper}(h:o∈js q p l):∃M∈l,o.dst=M.dst:=by
 obtain⟨i,I⟩:=CZ.1 h;obtain⟨Y,Z⟩:=He I;obtain⟨U,m,⟨O,V⟩,_⟩:=wZ (q:=q) (p:=p) Z;rw[I]at m;simp only[az]at m;exact⟨Y,lJ Z,by rw[m,V]⟩
theorem Ht{ops:List Oper}{C j:Res}{x:AX}{L:aw}{H':Hp}(h:tj ops C j=.done x L H'):
 x=.normal/\C=.done .normal L H'/\∃Z,j=.done .normal Z H'/\∀o∈ops,∀d,o.dst=some d->L.at d=Z.at d:=by
 unfold tj at h;split at h
 .split at h
  .rename_i K;simp only[Res.done.injEq]at h;obtain⟨rfl,rfl,rfl⟩:=h;obtain⟨i,g⟩:=Qj K;subst g;exact⟨rfl,rfl,_,rfl,i⟩
  .simp at h
 .simp at h
theorem C9{ih:Task->Res}{f N t:Nat}{E L:aw}{H H':Hp}{x:AX}:∀{U:Plan}{ops:List Oper},zhB P cfg ih f N E H U ops=.done x L H'->(∀o∈ops,o.dst≠some t)->L.at t=E.at t
 | .text,ops,h,ht=>(Ho h ht).2
 | .perm ord,ops,h,ht=>by
   simp only[zhB]at h;split at h
   .exact(Ho h (fun o j=>by obtain⟨M,i,g⟩:=Qm j;rw[g];exact ht M i)).2
   .simp at h
 | .split p q a b,ops,h,ht=>by
   simp only[zhB]at h;split at h
   .simp at h
   .obtain⟨_,i,_⟩:=Ht h;exact C9 i (fun o j=>by obtain⟨M,i,g⟩:=Hr j;rw[g];exact ht M i)
theorem kY.same{N L:Nat}{G:Gh}{w:World}{x:AX}{Z Y:aw}{H':Hp}(z:∀t,Z.at t=Y.at t){e:Exit}{a:Act}{w':World}(h:kY B N L G w x Y H' e a w'):kY B N L G w x Z H' e a w':=by
 obtain⟨i,V,g,m,O⟩:=h;exact⟨i,V,⟨g.size,fun t=>by rw[z];exact g.slots t⟩,m,O⟩
theorem Da(fit:Fit P){n:Nat}{ih:Task->Res}(j:Snd P B n ih){f N:Nat}{E:aw}{H:Hp}{G:Gh}{w:World}{a:Act}(h:R B H w G)(C:TR N G E a)(hd:a.defers=[]){Q:Exit->Act->World->Prop}:
 ∀(pl:Plan) (l:List Oper) {E':aw}{H':Hp}{x:AX},zhB P B.cfg ih f N E H pl l=.done x E' H'->(∀e V U,kY B N H.next G w x E' H' e V U->Q e V U)->∀L,lN l.toArray L (Array.replicate l.length false) ->
  wpOps P l.toArray Q L a {w with drawn:=w.drawn+1}
 | .text,l,E',H',x,hr,hQ,L,hv=>C5 L _ _ a _ (by
  have:=G8 (ops:=l.toArray) fit j hr h C hd hQ;simpa using this) hv
 | .perm ord,l,E',H',x,hr,hQ,L,hv=>by
   simp only[zhB]at hr;split at hr
   .rename_i hp;have hp:=Qh hp;refine Qi hp hv (C5 _ _ _ a _ (G8 (ops:=(iy ord l).toArray) fit j hr h C hd hQ) ?_);refine Hm hp ⟨au,by simp[hp.length],fun i I=>?_⟩ hv;have:=(hp.lt i I).1;simp[hp.length,I,this]
   .simp at hr
 | .split p q pa pb,l,E',H',x,hr,hQ,L,hv=>by
   simp only[zhB]at hr;split at hr
   .simp at hr
   .rename_i O;have K:p≠q:=Cn O;obtain⟨rfl,g,E2,h2,h3⟩:=Ht hr;rcases Hg K au hv with m|M
    .exact Hh hv (Da fit j h C hd pa _ g hQ L (by rw[zD];exact m))
    .have z:∀t,E'.at t=E2.at t:=fun t=>by
      by_cases C:∃o∈l,o.dst=some t
      .obtain⟨o,Y,hd⟩:=C;exact h3 o Y t hd
      .have J:∀o∈l,o.dst≠some t:=fun o Y hd=>C ⟨o,Y,hd⟩;have Z:∀q p,∀o∈js q p l,o.dst≠some t:=fun q p o Y=>by obtain⟨o',g1,g2⟩:=Hr Y;rw[g2];exact J o' g1
       rw[C9 g (Z _ _),C9 h2 (Z _ _)]
     exact Hh hv (Da fit j h C hd pb _ h2 (fun e V U hp=>hQ _ _ _ (kY.same z hp)) L (by rw[zD];exact M))
theorem Qn(fit:Fit P){n:Nat}{ih:Task->Res}(j:Snd P B n ih){f N id:Nat}{ops:Array Oper}{E Z:aw}{H H':Hp}{G:Gh}{w:World}{x:AX}{a:Act}{U:Plan}(hr:zhB P B.cfg ih f N E H U ops.toList=.done x Z H')
 (h:R B H w G) (C:TR N G E a) (hd:a.defers=[]):Code.wp P (.region id ops true) (kY B N H.next G w x Z H') a w:=by
 refine Qe fit.mixed fun L o=>?_;have:=Da fit j h C hd U ops.toList hr (fun _ _ _ hp=>hp) L zk;simpa using this
end
structure Grow (w:World) (F:Nat->Nat->Option Value) (w':World) (F':Nat->Nat->Option Value):Prop where
 below:Below w.heap.size w w'
 more:∀b o v,F b o=some v->F' b o=some v
 icy:∀b o v,F' b o=some v->F b o=some v\/w.heap.size<=b
 frz:∀b o v,F' b o=some v->w'.cell? ⟨b,o,none⟩=some v
def ce(P:Program)(ρ:Nat->Int)(f:FuncId)(j:List AV)(r:AV):Prop:=
 (∃Z,P.funcs[f]?=some Z/\Z.body.isSome=true)/\∀(G:Gh) (w:World) (vs:List Value),G.ρ=ρ->(∀b o v,G.F b o=some v->w.cell? ⟨b,o,none⟩=some v)->cn G j vs ->
   Calls P f vs.toArray w (fun e Y=>∃v V,e=.returned v/\VR {G with F:=V} r v/\Grow w G.F Y V)
def Qo(P:Program)(B:Bs):Prop:=∀f j r,B.cfg.call f j=some r->ce P B.ρ f j r
theorem Db{w w':World}(h:Below w.heap.size w w'){b o:Nat}(Z:b<w.heap.size):w'.cell? ⟨b,o,none⟩=w.cell? ⟨b,o,none⟩/\w'.frozen? ⟨b,o,none⟩=w.frozen? ⟨b,o,none⟩:=
 ⟨by simp only[World.cell?,h.block b Z],h.frozen (p:=⟨b,o,none⟩) Z⟩
theorem R.grow{B:Bs}{H:Hp}{w w':World}{G:Gh}{V:Nat->Nat->Option Value}(h:R B H w G)(g:Grow w G.F w' V):Step B H.next G w H w' {G with F:=V}:=by
 have L:Ext G {G with F:=V}:=⟨fun _ _ h=>h,g.more,rfl⟩;have m:∀{b o:Nat}{v:Value},w.cell? ⟨b,o,none⟩=some v->w'.cell? ⟨b,o,none⟩=some v:=fun hc=>by rw[(Db g.below (oy hc)).1];exact hc
 refine⟨?_,L,⟨g.below.os,g.below.tape,g.below.output,g.below.size,fun k z _=>g.below.block k z⟩,fun r b o x hr=>.inl hr,fun _ _ h=>.inl h,aE _,fun b o v K=>(g.icy b o v K).imp id fun J=>cJ h.base J⟩;exact{
  base:=cJ h.base g.below.size
  dom:=h.dom
  lt:=fun r b o x hr=>⟨(h.lt r b o x hr).1,nr (h.lt r b o x hr).2 g.below.size⟩
  cells:=fun r b o x Y imm I hr hc j c U=>by
   obtain⟨v,i,M⟩:=h.cells r b o x Y imm I hr hc j c U;exact⟨v,m i,M.mono L⟩
  imm:=fun r b o x Y imm I hr hc j U O=>let ⟨v,K⟩:=h.imm r b o x Y imm I hr hc j U O;⟨v,g.more _ _ _ K⟩
  ext:=h.ext
  fits:=h.fits
  room:=fun r b o x Y imm I hr hc j U O=>by
   obtain⟨⟨v,i⟩,M,h3⟩:=h.room r b o x Y imm I hr hc j U O;have J:=(h.lt r b o x hr).2;refine⟨⟨v,m i⟩,by rw[(Db g.below J).2];exact M,?_⟩;show V b (o+j)=none;cases hF:V b (o+j)with
   |none=>rfl
   |some u=>rcases g.icy _ _ _ hF with C|C
            ·rw[h3]at C;simp at C
            .omega
  apart:=h.apart
  map:=fun r b o x es hr hc=>by
   obtain⟨ms,Z,i,M⟩:=h.map r b o x es hr hc;exact⟨ms,Z,by rw[g.below.block b (h.lt r b o x hr).2];exact i,M.mono L⟩
  mapApart:=h.mapApart
  frz:=g.frz
  val:=h.val
  sym:=h.sym}
theorem Dc(z:Nat):∀(n:Nat) (l:List AV),(jN z n l).length=n
 |0,_=>rfl
 |n+1,l=>by simp[jN,Dc z n]
theorem w6(z:Nat):∀(n:Nat) (l:List AV) (i:Nat) (J:List AV),l.length=n*z->(jN z n l)[i]?=some J->J.length=z/\∀(j:Nat) c,J[j]?=some c->l[i*z+j]?=some c
 |0,_,i,J,_,h=>by simp[jN]at h
 |n+1,l,i,J,hl,h=>by
  rw[oz,wY]at hl;simp only[jN]at h;cases i with
  |zero=>
   simp at h;subst h;refine⟨rY,fun j c Y=>?_⟩;rw[pK]at Y;split at Y
   .rw[wO,b9];exact Y
   .simp at Y
  |succ i=>
   obtain⟨Z,g⟩:=w6 z n (l.drop z) i J zB jv;refine⟨Z,fun j c Y=>?_⟩;have:=g j c Y;rw[rX]at this;rw[oz,wY,show i*z+z+j=z+(i*z+j) by omega];exact this
theorem zE{B:Bs}{w:World}{g:AV->Hp->Option (AV×Hp)}
 (J:∀(v:AV) (H:Hp) (q:AV) (H':Hp) (G:Gh) (x:Value),R B H w G->VR G v x->g v H=some (q,H')->∃Z,Step B H.next G w H' w Z/\VR Z q x) :
 ∀(Y:List AV) (vs:List Value) (H:Hp) (V:List AV) (H':Hp) (G:Gh),R B H w G->cn G Y vs->kn g Y H=some (V,H')->∃Z,Step B H.next G w H' w Z/\cn Z V vs
 |[],vs,H,V,H',G,h,hv,hi=>by
  simp only[kn,cH]at hi;obtain⟨rfl,rfl⟩:=hi;exact⟨G,lH h,hv⟩
 |c::Y,[],H,V,H',G,h,hv,hi=>by have:=hv.1;simp at this
 |c::Y,v::vs,H,V,H',G,h,hv,hi=>by
  simp only[kn]at hi;split at hi
  .rename_i d H1 i;split at hi
   .rename_i U M K;simp only[cH]at hi;obtain⟨rfl,rfl⟩:=hi;obtain⟨m,I⟩:=hv.of_cons;obtain⟨C,O,z⟩:=J c H d H1 G v h m i;obtain⟨o,L,j⟩:=zE J Y vs H1 U M C O.r (I.mono O.ext) K;exact⟨o,O.trans L,ox (z.mono L.ext) j⟩
   .simp at hi
  .simp at hi
theorem zF{B:Bs}{w:World}:∀(n:Nat) (v:AV) (H:Hp) (q:AV) (H':Hp) (G:Gh) (x:Value),R B H w G->VR G v x->iz n v H=some (q,H')->∃G',Step B H.next G w H' w G'/\VR G' q x
 |0,_,_,_,_,_,_,_,_,h=>by simp[iz]at h
 |n+1,v,H,q,H',G,x,h,hv,I=>by
  unfold iz at I;split at I
  .rename_i r Z Y z;split at I
   .rename_i cs C tip K;split at I
    .rename_i g;simp only[co]at g;have hle1:=wQ g.1;have hle2:=wQ g.2;split at I
     .rename_i l H1 hil;simp only[cH]at I;obtain⟨rfl,rfl⟩:=I;cases hv with
      |sl hr hl hcx=>
       rename_i b o xx cap;have M:=h.cells r b o xx cs C tip hr K;have s1:=wJ h hr K (n:=max C (Z+Y*z)) ac ac tip id;obtain⟨O,ho1,ho2⟩:=M.list;have hlen:((cs.drop Z).take (Y*z)).length=Y*z:=by rw[jR,ku];omega
       obtain⟨G2,s2,r2⟩:=zE (zF n) _ ((O.drop Z).take (Y*z)) _ l H1 _ s1.r (((ho1.drop Z).take (Y*z)).mono s1.ext) hil;refine⟨G2,s1.trans s2,?_⟩;have hll:l.length=Y*z:=by
        have e1:=r2.1;have e2:=((ho1.drop Z).take (Y*z)).1;rw[hlen]at e2;omega
       have hlc:=Dc z Y l;have hovl:O.length=cs.length:=ho1.1.symm;have hat:∀m,m<Y*z->∃v,O[Z+m]?=some v/\G2.F b (o+Z+m)=some v/\∀c,l[m]?=some c->VR G2 c v:=fun m hm=>by
        have L:Z+m<O.length:=ac;refine⟨O[Z+m],aR L,?_,fun c hc=>?_⟩
        .refine s2.ext.F _ _ _ ?_;have V:=ho2 (Z+m) O[Z+m] (aR L);show(G.ice w b o (max C (Z+Y*z))).F b (o+Z+m)=some O[Z+m];simp only[Gh.ice];rw[<-jS]at V;split
         .rename_i v' hv';have:=h.frz _ _ _ hv';rw[V]at this;exact this.symm
         .rw[aq ⟨by trivial,ac,ac⟩];exact V
        .refine r2.2 m c _ hc ?_;rw[pK,aq hm,rX];exact aR L
       have hin:∀i j,i<Y->j<z->i*z+j<Y*z:=fun i j I hj=>by
        calc i*z+j<i*z+z:=by omega
         _=(i+1)*z:=by rw[oz,wY]
         _<=Y*z:=wN _ I
       have key:VR G2 (.lst (jN z Y l)) (.slice (some ⟨b,o+Z,none⟩) (jN z Y l).length cap):=by
        refine .lst (fun i j=>(O[Z+(i*z+j)]?).getD undef) (z:=z) (fun i J U=>(w6 z Y l i J hll U).1) (fun i j I hj=>?_) (fun i j J c U hcj=>?_) (by rw[hlc];exact hl)
        .rw[hlc]at I;obtain⟨v,e1,e2,_⟩:=hat _ (hin i j I hj);rw[e1,jS (o+Z)];exact e2
        .have hm:=(w6 z Y l i J hll U).2 j c hcj;have L:=(eG.1 hm).1;obtain⟨v,e1,_,e3⟩:=hat (i*z+j) ac;rw[e1];exact e3 c hm
       rw[hlc]at key;exact key
     .simp at I
    .simp at I
   .simp at I
  .rename_i cs;split at I
   .rename_i ds H1 hil;simp only[cH]at I;obtain⟨rfl,rfl⟩:=I;cases hv with
    |agg hl hvs=>
     obtain⟨G',s,r⟩:=zE (zF n) cs _ H ds H1 G h ⟨hl,hvs⟩ hil;exact⟨G',s,.agg r.1 r.2⟩
   .simp at I
  .simp at I
  .simp at I
  .simp only[cH]at I;obtain⟨rfl,rfl⟩:=I;exact⟨G,lH h,hv⟩
section
variable {P:Program} {B:Bs} {G:Gh} {H H':Hp} {w:World}
theorem Hu:∀(j:List AV) (i:Nat) (E:aw) (t:Nat),(zft i j E).at t=if i<=t/\t<i+j.length then j.getD (t-i) zgA else E.at t
 |[],i,E,t=>by
  simp only[zft,eM,qT];rw[af ac]
 |v::vs,i,E,t=>by
  simp only[zft,Hu vs (i+1),dg];by_cases Z:i+1<=t/\t<i+1+vs.length
  .rw[aq Z,aq ac,show t-i=(t-(i+1))+1 by omega];rfl
  .rw[af Z,uN];by_cases g:t=i
   .subst g;rw[aq rfl,aq ac];simp
   .rw[af g,af ac]
theorem Dd:∀(d t:Nat),aw.at (wy d) t=zgA
 |0,_=>rfl
 |d+1,t=>by
  unfold aw.at wy;rw[tt];cases h:Nat.beq t 0 with
  |true=>rfl
  |false=>
   rw[zhR];cases g:Nat.beq (Nat.mod t 2) 1 with
   |true=>exact Dd d _
   |false=>exact Dd d _
theorem Qp(N t:Nat):aw.at (tk N) t=zgA:=Dd _ _
theorem TR.start{j:List AV}{vs:List Value}(h:cn G j vs)(g:Nat):
 TR (max g j.length) G (zft 0 j (tk (max g j.length))) {tmps:=vs.toArray++Array.replicate (g-vs.toArray.size) undef,defers:=[] }:=by
 have L:=h.1;refine⟨cC,fun t=>?_⟩;rw[Hu];simp only[dZ,kA,b9,wP];by_cases C:t<j.length
 .rw[aq C];have Z:j.getD t zgA=j[t]:=by simp[List.getD,C]
  rw[Z];have:(vs.toArray++Array.replicate (g-vs.toArray.size) undef).getD t undef=vs[t]' ac:=by
   rw[ju,Array.getElem?_append_left cC];simp[show t<vs.length by omega]
  rw[this];exact h.2 t _ _ (aR C) (aR ac)
 .rw[af C,Qp];have:(vs.toArray++Array.replicate (g-vs.toArray.size) undef).getD t undef=undef:=by
   rw[ju,Array.getElem?_append_right cC];simp only[G5];split<;>rfl
  rw[this];exact wH G
theorem Qq(h:R B H w G){N:Nat}{E:aw}{a:Act}(Z:TR N G E a){r:ResultVar}{c:AV}(hr:zgN P E H r=some c):
 ∃v,(match r with
  | .tmp t=>pure (a.tmps.getD t undef)
  | .cell x t=>do loadVar t (<-asAddr (a.tmps.getD x undef)):Sem Value).run P w=.ok v w/\VR G c v:=by
 cases r with
 |tmp t=>
  simp only[zgN,az]at hr;subst hr;exact⟨_,rfl,Z.slots t⟩
 |cell x t=>
  simp only[zgN]at hr;have C:=Z.slots x;obtain⟨v,i,g⟩:=GC (P:=P) h C hr;refine⟨v,?_,g⟩;show(do loadVar t (<-asAddr (a.tmps.getD x undef)):Sem Value).run P w=.ok v w;generalize a.tmps.getD x undef=V at C i⊢;generalize E.at x=Y at C hr;cases C<;>simp[iU]at hr<;>simpa [Instr.loadAt,Instr.sureAddr,asAddr]using i
theorem Hv(h:R B H w G){N:Nat}{E:aw}{a:Act}(C:TR N G E a):∀{rs:List ResultVar}{g:List AV},zgD P E H rs=some g ->
 ∃vs,(rs.mapM (fun
  | .tmp t=>pure (a.tmps.getD t undef)
  | .cell x t=>do loadVar t (<-asAddr (a.tmps.getD x undef)):ResultVar->Sem Value)).run P w=.ok vs w/\cn G g vs
 |[],g,hr=>by
  simp only[zgD,az]at hr;subst hr;exact⟨[],au,oU G⟩
 |r::rs,g,hr=>by
  simp only[zgD]at hr;split at hr
  .rename_i c i Z Y;simp only[az]at hr;subst hr;obtain⟨v,m,V⟩:=Qq (P:=P) h C Z;obtain⟨vs,k1,U⟩:=Hv h C Y;refine⟨v::vs,?_,ox V U⟩;rw[List.mapM_cons];simp only[eI,m,eN,k1,ky]
  .simp at hr
theorem Hw(h:R B H w G){N:Nat}{E:aw}{a:Act}(C:TR N G E a){Z:Func}{r:AV}(hr:uH P Z.results.toList E H=.val r H'):
 H'=H/\∃v,(results Z a.tmps).run P w=.ok v w/\VR G r v:=by
 unfold uH at hr;split at hr
 .rename_i V i;simp only[Res.val.injEq]at hr;obtain⟨rfl,rfl⟩:=hr;obtain⟨vs,U,g⟩:=Hv (P:=P) h C i;refine⟨rfl,?_⟩;have o:(results Z a.tmps).run P w=.ok (if h:vs.toArray.size=1 then vs.toArray[0]else .tuple vs.toArray) w:=by
   unfold results;rw[Array.mapM_eq_mapM_toList];simp only[eI,Sem.run_map];exact kz (fun r:Result (List Value)=>(r.andThen fun a Y=>Result.ok a.toArray Y).andThen fun a Y=>Sem.run P (pure (if h:a.size=1 then a[0]else Value.tuple a)) Y) U
  refine⟨_,o,?_⟩
  match V,vs,g with
  |[],[],g=>exact .tup (vs:=[]) rfl au
  |[c],[v],g=>exact g.of_cons.1
  |c::c'::V,v::v'::vs,g=>
   have:¬(v::v'::vs).toArray.size=1:=au;rw[dif_neg this];exact .tup g.1 g.2
  |[],_::_,g=>have:=g.1;simp at this
  |[_],[],g=>have:=g.1;simp at this
  |[_],_::_::_,g=>have:=g.1;simp at this
  |_::_::_,[],g=>have:=g.1;simp at this
  |_::_::_,[_],g=>have:=g.1;simp at this
 .simp at hr
theorem De(z:Fit P){n:Nat}{ih:Task->Res}(V:Snd P B n ih){f:FuncId}{Z:List AV}{r:AV}(K:og P ih f Z H=.val r H'){vs:List Value}(h:R B H w G)(o:cn G Z vs):
 (∃U,P.funcs[f]?=some U/\U.body.isSome=true)/\Calls P f vs.toArray w (fun e M=>∃v g,e=.returned v/\VR g r v/\Step B H.next G w H' M g):=by
 unfold og at K;split at K
 .rename_i U L;split at K
  .rename_i c hc;refine⟨⟨U,L,by rw[hc];rfl⟩,calls_of_wp L hc ?_⟩;have O:=TR.start o U.ntmps;split at K
   .rename_i E1 H1 i;refine rZ (fun e m M J=>?_) (V.code _ _ _ _ _ _ _ _ i G w _ h O rfl);obtain⟨rfl,g,Y,j,hd⟩:=J;obtain⟨rfl,v,I,C⟩:=Hw (P:=P) j.r Y K;exact⟨hd,v,I,v,g,rfl,C,j⟩
   .rename_i E1 H1 i;refine rZ (fun e m M J=>?_) (V.code _ _ _ _ _ _ _ _ i G w _ h O rfl);obtain⟨rfl,g,Y,j,hd⟩:=J;obtain⟨rfl,v,I,C⟩:=Hw (P:=P) j.r Y K;exact⟨hd,v,I,v,g,rfl,C,j⟩
   .simp at K
  .simp at K
 .simp at K
theorem Df{n:Nat}{ih:Task->Res}(j:Snd P B n ih){f N:Nat}{b:Code}{r:Res}{x:AX}{L:aw}(K:oh ih f N b r=.done x L H'):
 ∃U E1 H1,r=.done U E1 H1/\((U=.normal/\ih (.code f N b E1 H1)=.done x L H')\/(U≠.normal/\x=U/\L=E1/\H'=H1)):=by
 unfold oh at K;split at K
 .rename_i E1 H1;exact⟨.normal,E1,H1,rfl,.inl ⟨rfl,K⟩⟩
 .rename_i Z;subst K;exact⟨x,L,H',rfl,.inr ⟨fun e=>by subst e;exact Z _ _ rfl,rfl,rfl,rfl⟩⟩
theorem Qr(fit:Fit P){n:Nat}{ih:Task->Res}(Z:Snd P B n ih){f N:Nat}{c:Code}{E:aw}{x:AX}{E':aw}(K:step P B.cfg ih (.code f N c E H)=.done x E' H')
 {a:Act} (h:R B H w G) (C:TR N G E a) (hd:a.defers=[]):Code.wp P c (kY B N H.next G w x E' H') a w:=by
 cases c with
 |skip=>
  simp only[step,Res.done.injEq]at K;obtain⟨rfl,rfl,rfl⟩:=K;exact wp_skip ⟨rfl,G,C,lH h,hd⟩
 |region id ops draw=>
  cases draw with
  |false=>
   exact wp_region_list (CR fit Z ops.toList K h C hd (fun _ _ _ hp=>hp))
  |true=>exact Qn fit Z K h C hd
 |seq p q=>
  obtain⟨z,E1,H1,U,O⟩:=Df Z K;refine wp_seq (rZ (fun e L J V=>?_) (Z.code _ _ _ _ _ _ _ _ U G w a h C hd));obtain⟨rfl,g,Y,j,i⟩:=V;rcases O with⟨rfl,O⟩|⟨M,rfl,rfl,rfl⟩
  .exact rZ (fun e a w V=>zx j V) (Z.code _ _ _ _ _ _ _ _ O g J L j.r Y i)
  .cases x with
   |normal=>exact(M rfl).elim
   |exit id=>exact⟨rfl,g,Y,j,i⟩
   |ret=>exact⟨rfl,g,Y,j,i⟩
 |cond y p q=>
  simp only[step,tl]at K;split at K
  .rename_i I;have o:=CQ C I;have:a.eval y=.bool true:=by generalize a.eval y=v at o;cases o;rfl
   exact wp_cond_true this (Z.code _ _ _ _ _ _ _ _ K G w a h C hd)
  .rename_i I;have o:=CQ C I;have:a.eval y=.bool false:=by generalize a.eval y=v at o;cases o;rfl
   exact wp_cond_false this (Z.code _ _ _ _ _ _ _ _ K G w a h C hd)
  .simp at K
 |block id p=>
  simp only[step]at K;cases U:ih (.code f N p E H)with
  |done z E1 H1=>
   rw[U]at K;refine wp_block (rZ (fun e L J V=>?_) (Z.code _ _ _ _ _ _ _ _ U G w a h C hd));obtain⟨rfl,g,Y,j,i⟩:=V;cases z with
   |normal=>
    simp only[zhU,Res.done.injEq]at K;obtain⟨rfl,rfl,rfl⟩:=K;exact⟨rfl,g,Y,j,i⟩
   |ret=>
    simp only[zhU,Res.done.injEq]at K;obtain⟨rfl,rfl,rfl⟩:=K;exact⟨rfl,g,Y,j,i⟩
   |exit m=>
    simp only[zhU]at K;cases o:Nat.beq m id with
    |true=>
     rw[o]at K;simp only[Res.done.injEq]at K;obtain⟨rfl,rfl,rfl⟩:=K;have:=jf o;subst this;simp only[CO,Exit.inBlock,cV];exact⟨rfl,g,Y,j,i⟩
    |false=>
     rw[o]at K;simp only[Res.done.injEq]at K;obtain⟨rfl,rfl,rfl⟩:=K;have:=Cn o;simp only[CO,Exit.inBlock];rw[af this];exact⟨rfl,g,Y,j,i⟩
  |val v H1=>rw[U]at K;simp[zhU]at K
  |fail=>rw[U]at K;simp[zhU]at K
 |loop p=>
  refine wp_loop_rounds (n+1) ?_;rw[rounds_succ];obtain⟨z,E1,H1,U,O⟩:=Df Z K;refine rZ (fun e L J V=>?_) (Z.code _ _ _ _ _ _ _ _ U G w a h C hd);obtain⟨rfl,g,Y,j,i⟩:=V;rcases O with⟨rfl,O⟩|⟨M,rfl,rfl,rfl⟩
  .exact CP (fun e a w V=>zx j V) (Z.loop _ _ _ _ _ _ _ _ O g J L j.r Y i)
  .cases x with
   |normal=>exact(M rfl).elim
   |exit id=>exact⟨rfl,g,Y,j,i⟩
   |ret=>exact⟨rfl,g,Y,j,i⟩
 |exit id=>
  simp only[step,Res.done.injEq]at K;obtain⟨rfl,rfl,rfl⟩:=K;exact wp_exit ⟨rfl,G,C,lH h,hd⟩
 |ret=>
  simp only[step,Res.done.injEq]at K;obtain⟨rfl,rfl,rfl⟩:=K;exact wp_ret ⟨rfl,G,C,lH h,hd⟩
 |rangeFunc _ _ _ _=>simp[step]at K
 |scope _=>simp[step]at K
 |label _=>simp[step]at K
 |goto _=>simp[step]at K
 |refuse _=>simp[step]at K
theorem Qs(M:Fit P){n:Nat}{ih:Task->Res}(Z:Snd P B n ih){f N:Nat}{c:Code}{E:aw}{x:AX}{L:aw}(K:step P B.cfg ih (.code f N (.loop c) E H)=.done x L H')
 {a:Act} (h:R B H w G) (C:TR N G E a) (hd:a.defers=[]):Code.rounds P c (kY B N H.next G w x L H') (n+1) a w:=by
 rw[rounds_succ];obtain⟨o,E1,H1,z,V⟩:=Df Z K;refine rZ (fun e J I g=>?_) (Z.code _ _ _ _ _ _ _ _ z G w a h C hd);obtain⟨rfl,U,Y,j,i⟩:=g;rcases V with⟨rfl,V⟩|⟨O,rfl,rfl,rfl⟩
 .exact CP (fun e a w g=>zx j g) (Z.loop _ _ _ _ _ _ _ _ V U I J j.r Y i)
 .cases x with
  |normal=>exact(O rfl).elim
  |exit id=>exact⟨rfl,U,Y,j,i⟩
  |ret=>exact⟨rfl,U,Y,j,i⟩
theorem Hx(fit:Fit P)(hc:Qo P B):∀n,Snd P B n (ev P B.cfg n)
 |0=>⟨fun _ _ _ _ _ h=>by simp[ev]at h,fun _ _ _ _ _ _ _ _ h=>by simp[ev]at h,fun _ _ _ _ _ _ _ _ h=>by simp[ev]at h⟩
 |n+1=>by
  have Y:=Hx fit hc n;have he:ev P B.cfg (n+1)=step P B.cfg (ev P B.cfg n):=rfl;rw[he];refine⟨fun f j H r H' K G w vs h U=>?_,fun f N c E H x E' H' K G w a h z hd=>Qr fit Y K h z hd,fun f N c E H x E' H' K G w a h z hd=>Qs fit Y K h z hd⟩;have m:∀{G:Gh}{j:List AV}{vs:List Value}{H:Hp}{L:AV},B.cfg.call f j=some L->R B H w G->cn G j vs ->
   (∃I,P.funcs[f]?=some I/\I.body.isSome=true)/\Calls P f vs.toArray w (fun e M=>∃v g,e=.returned v/\VR g L v/\Step B H.next G w H M g):=fun{G j vs H L} hr h U=>by
   obtain⟨h1,h2⟩:=hc f j L hr;refine⟨h1,(h2 G w vs h.val h.frz U).mono fun e M J=>?_⟩;obtain⟨v,F',rfl,Z,hg⟩:=J;exact⟨v,_,rfl,Z,h.grow hg⟩
  have O:∀{G:Gh}{j:List AV}{vs:List Value}{H H':Hp}{r:AV},ol P B.cfg (ev P B.cfg n) f j H=.val r H'->R B H w G->cn G j vs ->
   (∃I,P.funcs[f]?=some I/\I.body.isSome=true)/\Calls P f vs.toArray w (fun e M=>∃v g,e=.returned v/\VR g r v/\Step B H.next G w H' M g):=fun{G j vs H H' r} K h U=>by
   unfold ol at K;split at K
   .unfold wz at K;split at K
    .rename_i o H1 C;split at K
     .rename_i L hr;simp only[Res.val.injEq]at K;obtain⟨rfl,rfl⟩:=K;obtain⟨G1,s1,r1⟩:=zE (zF 100) j vs H o H1 G h U C;obtain⟨h1,h2⟩:=m hr s1.r r1;refine⟨h1,h2.mono fun e M J=>?_⟩;obtain⟨v,g,rfl,Z,V⟩:=J;exact⟨v,g,rfl,Z,s1.trans V⟩
     .exact De fit Y K h U
    .exact De fit Y K h U
   .exact De fit Y K h U
  simp only[step]at K;split at K
  .rename_i L hr;simp only[Res.val.injEq]at K;obtain⟨rfl,rfl⟩:=K;exact m hr h U
  .unfold uI at K;split at K
   .rename_i v1 H1 hz i;obtain⟨g1,g2⟩:=O i h U;refine⟨g1,g2.mono fun e M J=>?_⟩;obtain⟨v,g,rfl,Z,V⟩:=J;cases hi:iz 100 v1 H1 with
    |none=>rw[hi]at K;simp[gT]at K
    |some p=>
     obtain⟨q,H2⟩:=p;rw[hi]at K;simp only[gT,Res.val.injEq]at K;obtain⟨rfl,rfl⟩:=K;obtain⟨G2,s2,r2⟩:=zF 100 v1 H1 _ _ g v V.r Z hi;exact⟨v,G2,rfl,r2,V.trans s2⟩
   .exact O K h U
end
open Go Go.RowKit Go.WideShapes Go.ChangeShapes
theorem Qt(r:Nat):zfM.get r=none:=rfl
theorem R.start{w:World}{G:Gh}{cfg:Cfg}(i:∀b o v,G.F b o=some v->w.cell? ⟨b,o,none⟩=some v)(Y:∀r,G.β r=none)(Z:ny cfg.dec G.ρ):R ⟨w.heap.size,G.ρ,cfg⟩ zfM w G:=by
 refine⟨aE _,?_,?_,?_,?_,?_,?_,?_,?_,?_,i,rfl,Z,?_⟩<;>intros<;>simp_all
theorem uY{g:AV->Option AV}:∀{Y Z:List AV},iceL g Y=some Z->Z.length=Y.length/\∀(i:Nat) d,Z[i]?=some d->∃c,Y[i]?=some c/\g c=some d
 |[],Z,h=>by
  simp only[iceL,az]at h;subst h;exact⟨rfl,au⟩
 |c::Y,Z,h=>by
  simp only[iceL]at h;split at h
  .rename_i d U O M;simp only[az]at h;subst h;obtain⟨m,L⟩:=uY M;refine⟨by simp[m],fun i e V=>?_⟩;cases i with
   |zero=>simp at V;subst V;exact⟨c,rfl,O⟩
   |succ i=>exact L i e wD
  .simp at h
theorem Hy{g:AV->Option AV}:∀{Y Z:List (List AV)},rW g Y=some Z->Z.length=Y.length/\∀(i:Nat) d,Z[i]?=some d->∃c,Y[i]?=some c/\iceL g c=some d
 |[],Z,h=>by
  simp only[rW,az]at h;subst h;exact⟨rfl,au⟩
 |c::Y,Z,h=>by
  simp only[rW]at h;split at h
  .rename_i d U O M;simp only[az]at h;subst h;obtain⟨m,L⟩:=Hy M;refine⟨by simp[m],fun i e V=>?_⟩;cases i with
   |zero=>simp at V;subst V;exact⟨c,rfl,O⟩
   |succ i=>exact L i e wD
  .simp at h
theorem w7{H:Hp}{G G2:Gh}{w:World}(hρ:G2.ρ=G.ρ)(hF:∀b o v,G.F b o=some v->G2.F b o=some v)
 (I:∀r b o x cs imm tip,G.β r=some (b,o,x)->H.get r=some (.cells cs imm tip)->jg G w b o cs/\∀j v,w.cell? ⟨b,o+j,none⟩=some v->G2.F b (o+j)=some v) :
 ∀(n:Nat) (v:AV) (x:Value) (q:AV),VR G v x->iceV H n v=some q->VR G2 q x
 |0,_,_,_,_,h=>by simp[iceV]at h
 |n+1,v,x,q,hv,h=>by
  have M:∀{cs ds:List AV}{vs:List Value},cn G cs vs->iceL (iceV H n) cs=some ds->cn G2 ds vs:=fun{cs ds vs} C hi=>by
   obtain⟨h1,h2⟩:=uY hi;refine⟨by rw[h1];exact C.1,fun i d u hd hu=>?_⟩;obtain⟨c,hc,hcd⟩:=h2 i d hd;exact w7 hρ hF I n c u d (C.2 i c u hc hu) hcd
  cases hv with
  |int k a=>simp only[iceV,az]at h;subst h;exact .int _ _
  |sx k e=>simp only[iceV,az]at h;subst h;rw[<-hρ];exact .sx _ _
  |bool b=>simp only[iceV,az]at h;subst h;exact .bool _
  |str s l hs=>simp only[iceV,az]at h;subst h;exact .str _ _ hs
  |nilP=>simp only[iceV,az]at h;subst h;exact .nilP
  |nilM=>simp only[iceV,az]at h;subst h;exact .nilM
  |nilF=>simp only[iceV,az]at h;subst h;exact .nilF
  |nilS=>simp only[iceV,az]at h;subst h;exact .nilS
  |ptr _=>simp[iceV]at h
  |iptr _ _ _=>simp[iceV]at h
  |map _=>simp[iceV]at h
  |clo _ _=>simp[iceV]at h
  |agg hl C=>
   simp only[iceV]at h;split at h
   .rename_i ds hds;simp only[az]at h;subst h;have:=M ⟨hl,C⟩ hds;exact .agg this.1 this.2
   .simp at h
  |tup hl C=>
   simp only[iceV]at h;split at h
   .rename_i ds hds;simp only[az]at h;subst h;have:=M ⟨hl,C⟩ hds;exact .tup this.1 this.2
   .simp at h
  |lst0 a cap=>
   simp only[iceV,rW,az]at h;subst h;exact .lst0 _ _
  |lst vs hz hFx hvx hc=>
   rename_i xs b o cap z;simp only[iceV]at h;split at h
   .rename_i ys hys;simp only[az]at h;subst h;obtain⟨h1,h2⟩:=Hy hys;rw[<-h1];refine .lst vs (z:=z) (fun i J hr=>?_) (fun i j hi hj=>hF _ _ _ (hFx i j (by rw[<-h1];exact hi) hj)) (fun i j J c hr hcj=>?_) (by rw[h1];exact hc)
    .obtain⟨c,g,hc2⟩:=h2 i J hr;rw[(uY hc2).1];exact hz i c g
    .obtain⟨c0,g,hc2⟩:=h2 i J hr;obtain⟨c1,hc3,hc4⟩:=(uY hc2).2 j c hcj;exact w7 hρ hF I n c1 (vs i j) c (hvx i j c0 c1 g hc3) hc4
   .simp at h
  |sl hr hl hcx=>
   rename_i r Y Z z b o xx cap;simp only[iceV]at h;split at h
   .rename_i cs imm tip hg;split at h
    .rename_i l hil;split at h
     .rename_i L;simp only[az]at h;subst h;obtain⟨hh,hnew⟩:=I r b o xx cs imm tip hr hg;obtain⟨h1,h2⟩:=uY hil;have K:∀(m:Nat) c,l[m]?=some c->∃v,w.cell? ⟨b,o+Y+m,none⟩=some v/\VR G2 c v:=fun m c hm=>by
       obtain⟨c0,O,g⟩:=h2 m c hm;rw[pK]at O;split at O
       .rw[rX]at O;obtain⟨v,V,hv2⟩:=hh _ _ O;exact⟨v,by rw[jS];exact V,w7 hρ hF I n c0 v c hv2 g⟩
       .simp at O
      have hlc:=Dc z Z l;have hin:∀i j,i<Z->j<z->i*z+j<l.length:=fun i j hi hj=>by
       rw[L]
       calc i*z+j<i*z+z:=by omega
        _=(i+1)*z:=by rw[oz,wY]
        _<=Z*z:=wN _ hi
      have key:VR G2 (.lst (jN z Z l)) (.slice (some ⟨b,o+Y,none⟩) (jN z Z l).length cap):=by
       refine .lst (fun i j=>(w.cell? ⟨b,o+Y+(i*z+j),none⟩).getD undef) (z:=z) (fun i J U=>(w6 z Z l i J L U).1) (fun i j hi hj=>?_) (fun i j J c U hcj=>?_) (by rw[hlc];exact hl)
       .rw[hlc]at hi;have hm:=hin i j hi hj;obtain⟨v,V,_⟩:=K (i*z+j) _ (aR hm);rw[V];have:=hnew (Y+(i*z+j)) v (by rw[<-jS];exact V);rw[show o+Y+i*z+j=o+(Y+(i*z+j)) by omega];exact this
       .have hm:=(w6 z Z l i J L U).2 j c hcj;obtain⟨v,V,hv2⟩:=K (i*z+j) c hm;rw[V];exact hv2
      rw[hlc]at key;exact key
     .simp at h
    .simp at h
   .simp at h
theorem Qu(w:World){G G2:Gh}(Y:G2.ρ=G.ρ)(O:∀b o v,G.F b o=some v->G2.F b o=some v){m:Nat}{j:List AV}(h:qM m j=true){vs:List Value}(U:cn G j vs):cn G2 j vs:=by
 unfold qM at h;split at h
 .rename_i K L;have:=jO h;subst this;obtain⟨h1,C⟩:=uY L;refine⟨U.1,fun i c v hc V=>?_⟩;obtain⟨c0,Z,g⟩:=C i c hc;rw[hc]at Z;simp only[az]at Z;subst Z;exact w7 (H:=zfM) (w:=w) Y O (fun r b o x z M I _ J=>by simp[Qt]at J) m c v c (U.2 i c v hc V) g
 .simp at h
theorem Dg{P:Program}{ih:Task->Res}{f:FuncId}{j:List AV}{H H':Hp}{r:AV}(h:og P ih f j H=.val r H'):∃Z,P.funcs[f]?=some Z/\Z.body.isSome=true:=by
 unfold og at h;split at h
 .rename_i Z L;split at h
  .rename_i c o;exact⟨Z,L,by simp[o]⟩
  .simp at h
 .simp at h
theorem Qv{P:Program}{cfg:Cfg}{ρ:Nat->Int}(Y:∀f j r,cfg.call f j=some r->ce P ρ f j r){n:Nat}{f:FuncId}{j:List AV}{H H':Hp}{r:AV}(h:ev P cfg n (.call f j H)=.val r H'):
 ∃Z,P.funcs[f]?=some Z/\Z.body.isSome=true:=by
 cases n with
 |zero=>simp[ev]at h
 |succ n=>
  have V:ev P cfg (n+1)=step P cfg (ev P cfg n):=rfl;rw[V]at h;simp only[step]at h;split at h
  .rename_i O hr;exact(Y f j O hr).1
  .have g:∀{r:AV}{H':Hp},ol P cfg (ev P cfg n) f j H=.val r H'->∃Z,P.funcs[f]?=some Z/\Z.body.isSome=true:=fun{r H'} h=>by
    unfold ol at h;split at h
    .unfold wz at h;split at h
     .split at h
      .rename_i hr;exact(Y _ _ _ hr).1
      .exact Dg h
     .exact Dg h
    .exact Dg h
   unfold uI at h;split at h
   .rename_i U;exact g U
   .exact g h
theorem Dh{P:Program}(fit:Fit P){cfg:Cfg}{ρ:Nat->Int}(hD:ny cfg.dec ρ)(g:∀f Z r,cfg.call f Z=some r->ce P ρ f Z r){n m k:Nat}{f:FuncId}{Z:List AV}{r:AV}
 (hp:qM k Z=true) (h:wA P cfg n m f Z=some r):ce P ρ f Z r:=by
 unfold wA at h;split at h
 .rename_i v0 H' M;refine⟨Qv g M,fun G w vs L V U=>?_⟩;subst L;have C:cn {G with β:=fun _=>none} Z vs:=Qu w (G:=G) (G2:={G with β:=fun _=>none}) rfl (fun _ _ _ h=>h) hp U;have z:R ⟨w.heap.size,G.ρ,cfg⟩ zfM w {G with β:=fun _=>none}:=R.start (G:={G with β:=fun _=>none}) V (fun _=>rfl) hD;refine((Hx (B:=⟨w.heap.size,G.ρ,cfg⟩) fit g n).call f Z zfM _ H' M _ w vs z C).2.mono fun e Y hh=>?_;obtain⟨x,G',rfl,hx,K⟩:=hh;have O:Below w.heap.size w Y:=⟨K.fr.os,K.fr.tape,K.fr.output,K.fr.size,fun k hk=>K.fr.block k hk (fun r b o x hr=>by simp at hr)⟩;refine⟨x,fun b o=>if b<w.heap.size then G.F b o else Y.cell? ⟨b,o,none⟩,rfl,?_,O,fun b o v U=>?_,fun b o v U=>?_,fun b o v U=>?_⟩
  .refine w7 (G:=G') (w:=Y) (H:=H') ?_ (fun b o v U=>?_) (fun r b o x cs J I hr hg=>?_) m v0 x r hx h
   .exact K.ext.ρ.symm
   .rcases K.icy b o v U with i|i
    .show(if b<w.heap.size then G.F b o else Y.cell? ⟨b,o,none⟩)=some v;rw[aq (oy (V b o v i))];exact i
    .show(if b<w.heap.size then G.F b o else Y.cell? ⟨b,o,none⟩)=some v;rw[af (by have:w.heap.size<=b:=i;omega)];exact K.r.frz b o v U
   .refine⟨K.r.cells r b o x cs J I hr hg,fun j v hj=>?_⟩;have i:w.heap.size<=b:=(K.r.lt r b o x hr).1;show(if b<w.heap.size then G.F b (o+j)else Y.cell? ⟨b,o+j,none⟩)=some v;rw[af ac];exact hj
  .rw[aq (oy (V b o v U))];exact U
  .split at U
   .exact .inl U
   .exact .inr ac
  .split at U
   .rename_i hb;rw[(Db O hb).1];exact V b o v U
   .exact U
 .simp at h
theorem HA{P:Program}{ρ:Nat->Int}{f:FuncId}{j:List AV}{b:Bool}(h:ce P ρ f j (.bool b)){vs:List Value}{w:World}{F:Nat->Nat->Option Value}
 (i:∀b o v,F b o=some v->w.cell? ⟨b,o,none⟩=some v) (U:cn ⟨fun _=>none,F,ρ⟩ j vs) :
 Calls P f vs.toArray w (fun e Y=>e=.returned (.bool b)/\Below w.heap.size w Y):=by
 refine(h.2 ⟨fun _=>none,F,ρ⟩ w vs rfl i U).mono fun e Y m=>?_;obtain⟨v,V,rfl,hr,J⟩:=m;cases hr;exact⟨rfl,J.below⟩
def Di:Res->Bool
 | .val (.bool true) _=>true
 |_=>false
theorem Qw{P:Program}(fit:Fit P){cfg:Cfg}{ρ:Nat->Int}(Z:ny cfg.dec ρ)(Y:∀f j r,cfg.call f j=some r->ce P ρ f j r){n k:Nat}{f:FuncId}{j:List AV}
 (J:qM k j=true) (h:Di (ev P cfg n (.call f j zfM))=true):ce P ρ f j (.bool true):=by
 refine Dh fit Z Y (n:=n) (m:=1) J ?_;unfold wA;unfold Di at h;split at h
 .rename_i H g;rw[g];rfl
 .simp at h
theorem Qx{P:Program}(fit:Fit P){cfg:Cfg}{ρ:Nat->Int}(Z:ny cfg.dec ρ)(Y:∀f j r,cfg.call f j=some r->ce P ρ f j r){n m k:Nat}{f:FuncId}{j:List AV}{r:AV}
 (J:qM k j=true) (h:Ck P cfg n m f j r=true):ce P ρ f j r:=by
 unfold Ck at h;split at h
 .rename_i q L;rw[<-AV.beq_eq h];exact Dh fit Z Y J L
 .simp at h
theorem pO(ρ:Nat->Int):ny (fun _ _ _=>none) ρ:=fun _ _ _ _ _ h=>lL
def uZ(P:Program)(ρ:Nat->Int):List (FuncId×List AV×AV)->Prop
 |[]=>True
 |p::l=>ce P ρ p.1 p.2.1 p.2.2/\uZ P ρ l
theorem zG{P:Program}{ρ:Nat->Int}:∀{l:List (FuncId×List AV×AV)},uZ P ρ l->∀f j r,tm l f j=some r->ce P ρ f j r
 |[],_,_,_,_,h=>by simp[tm]at h
 |p::l,hk,f,j,r,h=>by
  simp only[tm]at h;split at h
  .rename_i i;split at h
   .rename_i o;simp only[az]at h;subst h;rw[<-jf i,<-jO o];exact hk.1
   .exact zG hk.2 f j r h
  .exact zG hk.2 f j r h
def w8:List (Nat×Nat×Plan)->FuncId->Nat->Plan
 |[],_,_=>.text
 |p::l,f,id=>match Nat.beq p.1 f with
  |true=>match Nat.beq p.2.1 id with
   |true=>p.2.2
   |false=>w8 l f id
  |false=>w8 l f id
def Qy(pls:List (Nat×Nat×Plan))(l:List (FuncId×List AV×AV)):Cfg:={keep:=fun _=>false,call:=tm l,ice:=fun f=>l.any fun p=>Nat.beq p.1 f,plan:=w8 pls}
theorem Qz{P:Program}(fit:Fit P){ρ:Nat->Int}{pls:List (Nat×Nat×Plan)}{l:List (FuncId×List AV×AV)}(L:uZ P ρ l){n m k:Nat}{f:FuncId}{j:List AV}{r:AV}
 (J:qM k j=true) (h:Ck P (Qy pls l) n m f j r=true):ce P ρ f j r:=Qx fit (pO ρ) (zG L) J h
def Dj:Cfg:={keep:=fun _=>false}
theorem QA{P:Program}{ρ:Nat->Int}:∀f j r,Dj.call f j=some r->ce P ρ f j r:=fun _ _ _ h=>by simp[Dj]at h
def HC(P:Program):Bool:=P.funcs.all (fun Z=>!(Z.body.isSome&&Z.name == "runtime.NumGoroutine"))&&P.follows .mixedOrders
theorem Fit.of{P:Program}(h:HC P=true):Fit P:=by
 simp only[HC,co]at h;refine⟨fun f Z Y o=>?_,h.2⟩;have i:=h.1;rw[CX]at i;have:=i Z (by exact Array.mem_of_getElem? Y);simpa [o]using this
theorem closed{P:Program}(fit:Fit P){n f:Nat}(h:Di (ev P Dj n (.call f [] zfM))=true){w:World}:
 Calls P f #[] w (fun e Y=>e=.returned (.bool true)/\Below w.heap.size w Y):=
 HA (ρ:=fun _=>0) (F:=fun _ _=>none) (Qw fit (pO _) QA (k:=1) rfl h) (fun _ _ _ h=>lL) (oU _)
section
variable {H:Type} {enc:TypeId × Value -> H} {P:Program}
theorem QB{f:Func}{s:ChangeSpec}{apart O V M:Bool}{W J:World}{Z:Array Value}{v:Value}{g I:List (DataW H)}{o C pv:List MemPlace}
 (hW:DataW.Whole enc P f.params.toList s.vars apart W Z.toList g I o)
 (z:∀(b:Nat) (K:Nat->Bool) (hd:Bool),DataW.TrodAll enc P J b K hd f.resultTypes.toList (v.resultList f.resultTypes.size) (s.fn H (g++I)).results [])
 (Y:∀K:Nat->Bool,(∀p∈o,K p.block=true)->DataW.TrodAll enc P J 0 K true f.params.toList Z.toList (s.fn H (g++I)).args C)
 (U:∀K:Nat->Bool,(∀p∈o,K p.block=true)->DataW.TrodVars enc P J K s.vars (s.fn H (g++I)).vars pv)
 (L:o=C++pv) (hb:Below W.heap.size W J)
 (hok:∀(j:Nat) (t:TypeId) (r:Value),f.resultTypes[j]?=some t->(v.resultList f.resultTypes.size)[j]?=some r->Value.okWide P J .any 0 t r) :
 s.post enc P f apart O V M W Z v J:=by
 have hlt:∀p∈o,p.block<W.heap.size:=fun p hp=>hW.lt p hp;have m:∀p∈o,(fun b=>decide (b<W.heap.size)) p.block=true:=fun p hp=>by simpa using hlt p hp
 refine⟨g,I,o,[],C,pv,hW,z _ _ _,Y _ m,U _ m,World.keptBut_mono (fun p hp=>⟨hp,?_⟩) (hb.frame (·∈ o)),fun _=>?_⟩
 .rw[L,pM]at hp;exact Or.inr hp
 .obtain⟨_,_,_,_,_,hz,hn⟩:=hW;refine⟨hok,_,_,([]++C)++pv,⟨[]++C,pv,trodAll_append (Y _ (fun _ _=>rfl)) (z _ _ _),U _ (fun _ _=>rfl),rfl,?_,?_⟩,?_⟩
  .intro b i hp;have hin:MemPlace.cell b i∈o:=by rw[L];simpa using hp
   rw[hb.frozen (hlt _ hin)];exact hz b i hin
  .intro ha;have:=hn ha;rw[L]at this;simpa using this
  .intro p hp _;rw[L];simpa using hp
end
end Go.Ab
