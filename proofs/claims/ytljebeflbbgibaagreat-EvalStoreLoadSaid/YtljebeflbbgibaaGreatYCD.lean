/- Parts: AbDraw, AbPlan, AbCon, AbSound, AbLaw. -/
import Derived.Below
import Derived.ChangeSame
import Derived.Orders
import Derived.Test.YtljebeflbbgibaaGreatYCC
set_option linter.unusedSimpArgs false
set_option linter.unusedVariables false
set_option linter.unusedSectionVars false
set_option linter.defProp false
set_option maxHeartbeats 32000000
namespace Go.Ab
set_option maxRecDepth 20000
open Go
theorem iW{P:Prop}(h:P:=by simpa using h):P:=h
theorem li{P:Prop}(h:P:=by rw[e]):P:=h
theorem iX{P:Prop}(h:P:=by simp at h):P:=h
theorem DL{P:Prop}(h:P:=by rw[Y.size];exact(List.getElem?_eq_some_iff.1 J).1):P:=h
theorem r8{P:Prop}(h:P:=by simpa using V):P:=h
theorem DM{P:Prop}(h:P:=by rw[hs];have:=(List.getElem?_eq_some_iff.1 J).1;simpa using this):P:=h
theorem wF{P:Prop}(h:P:=by rw[List.length_drop];omega):P:=h
def fk:=@List.mem_cons
def uh:=@List.mem_append
def zY:=@List.mem_flatMap
def iY:=@List.mem_range
def lj:=@Bool.not_true
def ji:=@Bool.false_or
def ui:=@List.mem_filter
def mD:=@Array.getElem?_eq_getElem
def lS:=@Bool.not_eq_true'
def zZ:=@Array.all_eq_true_iff_forall_mem
def nP:=@Bool.or_eq_true
def mE:=@List.mem_map
def uj:=@Nat.lt_or_ge
def z0:=@Array.getElem?_eq_none
def uk:=@List.any_eq_false
def wG:=@Nat.lt_trichotomy
def ul:=@List.eq_nil_iff_forall_not_mem
def fL:=@List.getElem?_eq_none
def DN:=@Array.getElem?_replicate
def mF:=@Bool.true_or
def e8:=@List.mem_cons_self
def fl:=@List.mem_cons_of_mem
def qi:=@List.map_append
def DO:=@List.getElem?_eq_none_iff
def z4:=@List.mem_iff_getElem?
def oL:=@List.map_map
def qj:=@Bool.and_self
def wH:=@Nat.one_mul
def fM:=@true_and
end Go.Ab
namespace Go.Ab
set_option maxRecDepth 20000
open Go Go.RowKit
theorem z5{i:Nat}:∀{l J:List Nat},i∈rQ J l↔i∈J\/i∈l
 |[],J=>by simp[rQ]
 |x::xs,J=>by
  simp only[rQ];split
  .rename_i h;have F:x∈J:=iW;rw[z5,fk];exact⟨fun h=>h.elim .inl (fun h=>.inr (.inr h)),fun h=>h.elim .inl (fun h=>h.elim (fun e=>.inl (by subst e;exact F)) .inr)⟩
  .rw[z5,fk,fk];exact⟨fun h=>h.elim (fun h=>h.elim (fun e=>.inr (.inl e)) .inl) (fun h=>.inr (.inr h)),fun h=>h.elim (fun h=>.inl (.inr h)) (fun h=>h.elim (fun e=>.inl (.inl e)) .inr)⟩
theorem Mb{i:Nat}{l:List Nat}:i∈tR l↔i∈l:=by unfold tR;rw[z5];simp
theorem z6:∀(l:List Oper) (J:List (List Nat)) (i:Nat),i<J.length->(fz l J).getD i []=J.getD i []
 |[],J,i,_=>rfl
 |o::l,J,i,h=>by
  simp only[fz];rw[z6 l _ i cp];simp[List.getD,je h]
theorem DP:∀(l:List Oper) (J:List (List Nat)) (j:Nat) (o:Oper),l[j]?=some o ->
 ∃K:List (List Nat),K.length=J.length+j/\(∀i,i<K.length->(fz l J).getD i []=K.getD i [])/\(fz l J).getD (J.length+j) []=tR (preds o++(preds o).flatMap fun i=>K.getD i [])
 |[],_,_,_,h=>by simp at h
 |o::l,J,0,o',h=>by
  simp at h;subst h;refine⟨J,rfl,fun i C=>z6 _ _ i C,?_⟩;simp only[fz,mA];rw[z6 l _ J.length aE];simp[List.getD]
 |o::l,J,j+1,o',h=>by
  obtain⟨K,Z,g,m⟩:=DP l (J++[tR (preds o++(preds o).flatMap fun i=>J.getD i [])]) j o' iW;simp only[fv,dl,jx]at Z m;refine⟨K,ac,g,?_⟩;simp only[fz];rw[show J.length+(j+1)=J.length+(0+1)+j by omega];exact m
theorem Mc{l:List Oper}{j:Nat}{o:Oper}(J:l[j]?=some o)(V:∀p∈preds o,p<j){i:Nat}:
 i∈(fz l []).getD j []↔i∈preds o\/∃p∈preds o,i∈(fz l []).getD p []:=by
 obtain⟨Y,Z,g,m⟩:=DP l [] j o J;simp only[jx,bz]at Z m;rw[m,Mb,uh,zY];constructor
 .rintro(h|⟨p,K,L⟩)
  .exact .inl h
  .exact .inr ⟨p,K,by rw[g p (by rw[Z];exact V p K)];exact L⟩
 .rintro(h|⟨p,K,L⟩)
  .exact .inl h
  .exact .inr ⟨p,K,by rw[<-g p (by rw[Z];exact V p K)];exact L⟩
structure CalmD (l:List Oper):Prop where
 lt:∀j o,l[j]?=some o->∀p∈preds o,p<j
 guard:∀j o g b,l[j]?=some o->o.guard=some (g,b)->g∈(fz l []).getD j []
 clash:∀i j p q,i<j->l[i]?=some p->l[j]?=some q->Ab.clash l p q=true->i∈(fz l []).getD j []
theorem Md{l:List Oper}(h:mq l=true):CalmD l:=by
 unfold mq at h;simp only[fT,iY]at h;have F:∀j o,l[j]?=some o->(∀p∈preds o,p<j)/\(∀g b,o.guard=some (g,b)->g∈(fz l []).getD j [])/\∀i p,i<j->l[i]?=some p->Ab.clash l p o=true->i∈(fz l []).getD j []:=fun j o J=>by
  have:=h j (dJ.1 J).1;rw[J]at this;simp only[dB,fT,jz,iY]at this;obtain⟨⟨Y,Z⟩,m⟩:=this;refine⟨Y,fun g b A=>?_,fun i p C hp hc=>?_⟩
  .rw[A]at Z;simpa using Z
  .have:=m i C;rw[hp]at this;simp only[hc,lj,ji]at this;simpa using this
 exact⟨fun j o J=>(F j o J).1,fun j o g b J=>(F j o J).2.1 g b,fun i j p q L C O=>(F j q O).2.2 i p L C⟩
theorem z7{l:List Oper}(O:CalmD l){D:Nat->Prop}(Z:∀j,D j->∀o,l[j]?=some o->∀p∈preds o,D p):
 ∀(j:Nat) o,l[j]?=some o->(∀p∈preds o,D p)->∀i∈(fz l []).getD j [],D i:=by
 intro j;induction j using Nat.strongRecOn with
 |_ j ih=>
  intro o J hp i C;rcases(Mc J (O.lt j o J)).1 C with h|⟨p,K,L⟩
  .exact hp i h
  .have z:=O.lt j o J p K;have I:=(dJ.1 J).1;have W:l[p]?=some (l[p]' ac):=aO ac;exact ih p z _ W (fun q Y=>Z p (hp p K) _ W q Y) i L
theorem lk{l:List Oper}{i:Nat}:i∈gI l↔∃o,l[i]?=some o/\jQ o=true:=by
 unfold gI;rw[ui,iY];constructor
 .rintro⟨Z,g⟩;rw[aO Z]at g;exact⟨_,aO Z,g⟩
 .rintro⟨o,Z,g⟩;exact⟨(dJ.1 Z).1,by rw[Z];exact g⟩
theorem jj{ops:Array Oper}{M:Array Bool}{i:Nat}:i∈Region.ready .any ops M↔∃o,ops.toList[i]?=some o/\M.getD i true=false/\∀p∈preds o,M.getD p false=true:=by
 unfold Region.ready preds;rw[ui,iY,uc];constructor
 .rintro⟨Z,g⟩;rw[mD Z]at g;simp only[dB,lS,jy,a8,zZ,nP]at g;refine⟨_,mD Z,g.1,fun p hp=>?_⟩;simp only[mE,ui]at hp;obtain⟨e,⟨j,m⟩,rfl⟩:=hp;rcases g.2 e (by simpa using j)with h|h
  .rw[m]at h;simp at h
  .exact h
 .rintro⟨o,Z,g,Y⟩;have C:i<ops.size:=by
   rcases uj i ops.size with h|h
   .exact h
   .rw[z0 h]at Z;simp at Z
  refine⟨C,?_⟩;rw[Z];simp only[dB,lS,jy,a8,zZ,nP];refine⟨g,fun e L=>?_⟩;cases z:Region.binds .any e with
  |false=>exact .inl rfl
  |true=>exact .inr (Y e.on (by simp only[mE,ui];exact⟨e,⟨oI,z⟩,rfl⟩))
theorem z8{l:List Oper}:∀(k s:Nat),s+k=l.length->∃m,s<=m/\m<=l.length/\(m=l.length\/m∈gI l)/\∀j,s<=j->j<m->j∉gI l
 |0,s,hs=>⟨s,aM _,ac,.inl ac,fun j i g=>ac⟩
 |k+1,s,hs=>by
  by_cases h:s∈gI l
  .exact⟨s,aM _,ac,.inr h,fun j i g=>ac⟩
  .obtain⟨m,i,g,Y,U⟩:=z8 (l:=l) k (s+1) ac;refine⟨m,ac,g,Y,fun j O Z=>?_⟩;by_cases e:j=s
   .subst e;exact h
   .exact U j ac Z
section
variable {P:Program} {B:Bs} {cfg:Cfg}
structure Ctx (P:Program) (cfg:Cfg) (ih:Task->Res) (f N:Nat) (l:List Oper) (E0:aw) (zdw:Hp) (E':aw) (H':Hp) (rs:List Rec):Prop where
 calm:CalmD l
 len:rs.length=l.length
 at':∀(i:Nat) (r:Rec),rs[i]?=some r->∃o,l[i]?=some o/\AtD P cfg ih f N l o r (zex rs E' i) (zex rs E' (i+1)) (zdy rs H' i) (zdy rs H' (i+1))
 zeroE:zex rs E' 0=E0
 zeroH:zdy rs H' 0=zdw
 next:∀i,i<l.length->(zdy rs H' i).next<=(zdy rs H' (i+1)).next
 look:∀(i:Nat) (r:Rec),rs[i]?=some r->r.did=true->∀m,(m∈gI l\/m=l.length)->(∀e∈gI l,e∈(fz l []).getD i []->e<m)->(∀e∈gI l,i∈(fz l []).getD e []->m<=e) ->
  zcJ P cfg r (zdy rs H' m)=true
theorem Me{ih:Task->Res}{f N:Nat}{l:List Oper}{E0 E':aw}{zdw H':Hp}{rs:List Rec}(hc:mq l=true)(hr:gH P cfg ih f N l l E0 zdw=.done E' H' rs)(I:pW P cfg (k2 l) rs H'=true):
 Ctx P cfg ih f N l E0 zdw E' H' rs:=by
 have M:=ug hr;obtain⟨z1,z2⟩:=zV M;have W:=zU M;unfold pW at I;simp only[dB,fT]at I;refine⟨Md hc,W,fun i r C=>qg M C,z1,z2,fun i C=>?_,fun i r C hd m hm h1 h2=>?_⟩
 .have hi':i<rs.length:=by omega
  have O:=aO hi';obtain⟨o,_,F⟩:=qg M O;have h3:=ub (I.1 _ (jU O));rw[F.eH,F.eH']at h3;exact h3
 .obtain⟨o,ho,F⟩:=qg M C;have Y:wg (fz l []) (gI l) i m=true:=by
   unfold wg;simp only[lS,lb,uk,dB,not_and];refine⟨fun e K J z=>?_,fun e K J A=>?_⟩
   .have:=h1 e K (by simpa using J);have:=ub z;omega
   .have:=h2 e K (by simpa using J);have:e<m:=by simpa [gL]using A
    omega
  have V:∀k,zeB o.op=k->(k=.read\/k=.make)->(i,m)∈k2 l:=fun k j g=>by
   unfold k2;rw[zY];refine⟨i,iY.2 (dJ.1 ho).1,?_⟩;rw[ho];have U:(i,m)∈((gI l++[l.length]).filter (wg (fz l []) (gI l) i)).map fun m=>(i,m):=
    mE.2 ⟨m,ui.2 ⟨by simpa using hm,Y⟩,rfl⟩
   rcases g with rfl|rfl<;>simp only[j]<;>exact U
  have Z:(i,m)∈k2 l->zcJ P cfg r (zdy rs H' m)=true:=fun h=>by
   have:=I.2 _ h;simp only[C,hd,lj,ji]at this;exact this
  have L:r.o=o:=F.eo;cases j:zeB o.op with
  |read=>exact Z (V _ j (.inl rfl))
  |make=>exact Z (V _ j (.inr rfl))
  |calm=>unfold zcJ;rw[L,j]
  |act=>unfold zcJ;rw[L,j]
section
variable {ih:Task -> Res} {f N:Nat} {ops:Array Oper} {E0 E':aw} {zdw H':Hp} {rs:List Rec} (cx:Ctx P cfg ih f N ops.toList E0 zdw E' H' rs)
include cx
theorem Ctx.record{i:Nat}{o:Oper}(J:ops.toList[i]?=some o):∃r,rs[i]?=some r/\AtD P cfg ih f N ops.toList o r (zex rs E' i) (zex rs E' (i+1)) (zdy rs H' i) (zdy rs H' (i+1)):=by
 have C:i<rs.length:=by rw[cx.len];exact(dJ.1 J).1
 obtain⟨U,Z,g⟩:=cx.at' i _ (aO C);rw[J]at Z;simp only[aA]at Z;subst Z;exact⟨_,aO C,g⟩
theorem Ctx.gap:∀(d s:Nat),s+d<=ops.toList.length->(∀j,s<=j->j<s+d->j∉gI ops.toList) ->
 (zdy rs H' s).next<=(zdy rs H' (s+d)).next/\∀r,r<(zdy rs H' s).next->(zdy rs H' (s+d)).get r=(zdy rs H' s).get r
 |0,s,_,_=>⟨aM _,fun _ _=>rfl⟩
 |d+1,s,hs,hn=>by
  obtain⟨M,Y⟩:=Ctx.gap d s ac (fun j O W=>hn j O ac);have z:s+d<ops.toList.length:=ac;obtain⟨r,hr,F⟩:=cx.record (aO z);have Z:jQ (ops.toList[s+d])=false:=by
   cases V:jQ (ops.toList[s+d])with
   |false=>rfl
   |true=>exact(hn (s+d) ac ac (lk.2 ⟨_,aO z,V⟩)).elim
  have i:zdy rs H' (s+d+1)=zdy rs H' (s+d)\/∃g,zdy rs H' (s+d+1)=(zdy rs H' (s+d)).alloc g:=by
   cases hd:r.did with
   |true=>exact Ma Z (F.yes hd)
   |false=>exact .inl (F.no hd).2
  rw[show s+(d+1)=s+d+1 by omega];rcases i with e|⟨g,e⟩
  .rw[e];exact⟨M,Y⟩
  .rw[e];refine⟨cp,fun k U=>?_⟩;rw[zcY,ah ac];exact Y k U
theorem Ctx.nextMono:∀(d s:Nat),s+d<=ops.toList.length->(zdy rs H' s).next<=(zdy rs H' (s+d)).next
 |0,_,_=>aM _
 |d+1,s,hs=>eP (Ctx.nextMono d s ac) (by rw[show s+(d+1)=s+d+1 by omega];exact cx.next _ ac)
theorem Ctx.slotAt(t:Nat):∀s,s<=ops.toList.length ->
 (∃(i:Nat) (r:Rec) (o:Oper),i<s/\rs[i]?=some r/\ops.toList[i]?=some o/\o.dst=some t/\(∀(j:Nat) (U:Oper),j<s->ops.toList[j]?=some U->U.dst=some t->j<=i)/\(zex rs E' s).at t=r.val) \/
 ((∀(j:Nat) (U:Oper),j<s->ops.toList[j]?=some U->U.dst≠some t)/\(zex rs E' s).at t=E0.at t)
 |0,_=>.inr ⟨fun j U Y=>ac,by rw[cx.zeroE]⟩
 |s+1,hs=>by
  have J:ops.toList[s]?=some (ops.toList[s]' ac):=aO ac;obtain⟨r,hr,F⟩:=cx.record J;have z:=F.put;have A:=Ctx.slotAt t s ac;by_cases hd:(ops.toList[s]' ac).dst=some t
  .refine .inl ⟨s,r,_,ac,hr,J,hd,fun j U Y _ _=>ac,?_⟩;rw[hd]at z;simp only[d9]at z;split at z
   .simp only[aA]at z;rw[<-z,rV,ay rfl]
   .simp at z
  .have m:(zex rs E' (s+1)).at t=(zex rs E' s).at t:=by
    cases O:(ops.toList[s]' ac).dst with
    |none=>
     rw[O]at z;simp only[d9,aA]at z;rw[<-z]
    |some d=>
     rw[O]at z hd;simp only[d9]at z;split at z
     .simp only[aA]at z;rw[<-z,rV,ah (fun e=>hd li)]
     .simp at z
   rw[m];rcases A with⟨i,L,U,V,g,K,I,C,h6⟩|⟨V,g⟩
   .refine .inl ⟨i,L,U,ac,g,K,I,fun j W Y M Z=>?_,h6⟩;by_cases e:j=s
    .subst e;rw[J]at M;simp only[aA]at M;subst M;exact(hd Z).elim
    .exact C j W ac M Z
   .refine .inr ⟨fun j U Y M=>?_,g⟩;by_cases e:j=s
    .subst e;rw[J]at M;simp only[aA]at M;subst M;exact hd
    .exact V j U ac M
end
def eG(M:Array Bool)(j:Nat):Prop:=M.getD j false=true
def sa(rs:List Rec)(l:List Oper)(M:aw)(D:Nat->Prop)(G:Gh)(a:Act):Prop:=∀t,
 (∃(i:Nat) (r:Rec) (o:Oper),D i/\rs[i]?=some r/\l[i]?=some o/\o.dst=some t/\(∀(j:Nat) (U:Oper),D j->l[j]?=some U->U.dst=some t->j<=i)/\VR G r.val (a.tmps.getD t undef)) \/
 ((∀(j:Nat) (U:Oper),D j->l[j]?=some U->U.dst≠some t)/\VR G (M.at t) (a.tmps.getD t undef))
theorem sa.agree{ih:Task->Res}{f N:Nat}{ops:Array Oper}{K I:aw}{zdw H':Hp}{rs:List Rec}(cx:Ctx P cfg ih f N ops.toList K zdw I H' rs){D:Nat->Prop}{G:Gh}{a:Act}(A:sa rs ops.toList K D G a){t s:Nat}
 (O:s<=ops.toList.length) (C:∀(j:Nat) (o:Oper),ops.toList[j]?=some o->o.dst=some t->(D j↔j<s)):VR G ((zex rs I s).at t) (a.tmps.getD t undef):=by
 rcases cx.slotAt t s O with⟨i,r,o,M,g,m,L,h5,h6⟩|⟨M,g⟩
 .rw[h6];have F:=(C i o m L).2 M;rcases A t with⟨Z,r',U,W,Y,V,J,z,g6⟩|⟨W,_⟩
  .have e1:=h5 Z U ((C Z U V J).1 W) V J;have e2:=z i o F m L;have:Z=i:=ac;subst this;rw[g]at Y;simp only[aA]at Y;subst Y;exact g6
  .exact(W i o F m L).elim
 .rw[g];rcases A t with⟨Z,r',U,W,Y,V,J,z,g6⟩|⟨_,Y⟩
  .exact(M Z U ((C Z U V J).1 W) V J).elim
  .exact Y
structure InvD (rs:List Rec) (l:List Oper) (N:Nat) (B:Bs) (nx0:Nat) (E0:aw) (H':Hp) (G0:Gh) (w0:World) (listed:Array Bool) (a:Act) (w:World) (m:Nat) (G:Gh):Prop where
 size:listed.size=l.length
 closed:∀j,eG listed j->∀o,l[j]?=some o->∀p∈preds o,eG listed p
 le:m<=l.length
 act:m=l.length\/m∈gI l
 notyet:¬eG listed m
 acts:∀e∈gI l,e<m->eG listed e
 step:Step B nx0 G0 w0 (zdy rs H' m) w G
 low:∀r p,G.β r=some p->r<nx0\/∃j,eG listed j/\j<l.length/\(zdy rs H' j).next<=r/\r<(zdy rs H' (j+1)).next
 slots:sa rs l E0 (eG listed) G a
 frame:a.tmps.size=N
 defers:a.defers=[]
theorem eG.set{M:Array Bool}{i:Nat}(C:i<M.size)(j:Nat):eG (M.setIfInBounds i true) j↔j=i\/eG M j:=by
 unfold eG;rw[gM,gM,p7];by_cases e:i=j
 .subst e;simp[C]
 .rw[ah e];constructor
  .exact fun h=>.inr h
  .rintro(h|h)
   .exact(e h.symm).elim
   .exact h
def jA:=@eG.set
theorem sa.put{rs:List Rec}{l:List Oper}{z:aw}{M:Array Bool}{G L:Gh}{a:Act}(hs:sa rs l z (eG M) G a)(g:Ext G L){i:Nat}(W:i<M.size){o:Oper}(J:l[i]?=some o){r:Rec}(hr:rs[i]?=some r)
 {v:Value} (hv:VR L r.val v) (hd:∀d,o.dst=some d->d<a.tmps.size/\∀(j:Nat) (U:Oper),eG M j->l[j]?=some U->U.dst=some d->j<=i):sa rs l z (eG (M.setIfInBounds i true)) L (a.put o.dst v):=by
 intro t;by_cases C:o.dst=some t
 .obtain⟨h1,h2⟩:=hd t C;refine .inl ⟨i,r,o,(jA W i).2 (.inl rfl),hr,J,C,fun j U O Z Y=>?_,?_⟩
  .rcases(jA W j).1 O with e|O
   .omega
   .exact h2 j U O Z Y
  .rw[C];simp only[Act.put];simpa [Array.getD,h1]using hv
 .have m:(a.put o.dst v).tmps.getD t undef=a.tmps.getD t undef:=by
   cases V:o.dst with
   |none=>rfl
   |some d=>
    rw[V]at C;have A:d≠t:=fun e=>C li;simp only[Act.put,gM,p7];rw[ah A]
  rw[m];rcases hs t with⟨i',r',U,I,F,g3,g4,g5,g6⟩|⟨I,F⟩
  .refine .inl ⟨i',r',U,(jA W i').2 (.inr I),F,g3,g4,fun j K O Z Y=>?_,g6.mono g⟩;rcases(jA W j).1 O with e|O
   .subst e;rw[J]at Z;simp only[aA]at Z;subst Z;exact(C Y).elim
   .exact g5 j K O Z Y
  .refine .inr ⟨fun j U O Z Y=>?_,F.mono g⟩;rcases(jA W j).1 O with e|O
   .subst e;rw[J]at Z;simp only[aA]at Z;subst Z;exact(C Y).elim
   .exact I j U O Z Y
theorem z9{C:List Oper}{o:Oper}{t:Nat}:t∈oE C o↔o.dst=some t\/(Operand.tmp t)∈o.op.operands.toList\/∃g b U,o.guard=some (g,b)/\C[g]?=some U/\U.dst=some t:=by
 unfold oE Da;simp only[uh,Option.mem_toList,List.mem_filterMap];constructor
 .rintro((h|⟨x,F,h⟩)|h)
  .exact .inl h
  .cases x<;>simp at h;subst h;exact .inr (.inl F)
  .cases A:o.guard with
   |none=>rw[A]at h;simp at h
   |some p=>
    obtain⟨g,b⟩:=p;rw[A]at h;simp only[Option.mem_toList,cj]at h;obtain⟨U,i,Z⟩:=h;exact .inr (.inr ⟨g,b,U,rfl,i,Z⟩)
 .rintro(h|h|⟨g,b,U,i,Z,m⟩)
  .exact .inl (.inl h)
  .exact .inl (.inr ⟨_,h,rfl⟩)
  .refine .inr ?_;rw[i];simp[Z,m]
theorem DQ{C:List Oper}{p q:Oper}{d:Nat}(h:(p.dst=some d/\d∈oE C q)\/(q.dst=some d/\d∈oE C p)):Ab.clash C p q=true:=by
 unfold Ab.clash;rcases h with⟨i,g⟩|⟨i,g⟩
 .rw[i];simp[g]
 .rw[i];simp[g]
theorem Step.trans'{Z:Nat}{H' U:Hp}{G Y V:Gh}{w w' W:World}(h:Step B Z G w H' w' Y)(k:Step B Z Y w' U W V):Step B Z G w U W V:=
 ⟨k.r,h.ext.trans k.ext,h.fr.trans k.fr h.new,h.new.trans k.new h.fr.size,fun r p hr=>by
  rcases k.low r p hr with i|i
  .exact h.low r p i
  .exact .inr i,k.mono,fun b o v L=>by
  rcases k.icy b o v L with i|i
  .exact h.icy b o v i
  .exact .inr i⟩
theorem Step.weaken{o I:Nat}{H':Hp}{G Z:Gh}{w w':World}(h:Step B o G w H' w' Z)(Y:I<=o):Step B I G w H' w' Z:=
 ⟨h.r,h.ext,h.fr,h.new,fun r p hr=>(h.low r p hr).imp id (fun e=>eP Y e),eP Y h.mono,h.icy⟩
theorem Snd.fail(P:Program)(B:Bs):Snd P B 0 (fun _=>.fail):=
 ⟨fun _ _ _ _ _ h=>iX,fun _ _ _ _ _ _ _ _ h=>iX,fun _ _ _ _ _ _ _ _ h=>iX⟩
theorem Mf(fit:Fit P){n:Nat}{ih:Task->Res}(hih:Snd P B n ih){f N nx0:Nat}{ops:Array Oper}{E0 E':aw}{zdw H':Hp}{rs:List Rec}(cx:Ctx P B.cfg ih f N ops.toList E0 zdw E' H' rs)(hnx:zdw.next=nx0){G0 G:Gh}{w0 w:World}
 {M:Array Bool}{a:Act}{m:Nat} (Y:InvD rs ops.toList N B nx0 E0 H' G0 w0 M a w m G) {i:Nat} (hi:i∈Region.ready .any ops M) {K:Act->World->Prop}{Q:Exit->Act->World->Prop}
 (hK:∀a' w' m' G',InvD rs ops.toList N B nx0 E0 H' G0 w0 (M.setIfInBounds i true) a' w' m' G'->K a' w'):wpOp P ops Q i K a w:=by
 obtain⟨o,ho,hun,hpr⟩:=jj.1 hi;obtain⟨r,hr,ha⟩:=cx.record ho;have hil:i<ops.toList.length:=(dJ.1 ho).1;have V:i<M.size:=by rw[Y.size];exact hil
 have hnot:¬eG M i:=fun hd=>by
  unfold eG at hd;rw[gM,mD V]at hd;rw[gM,mD V]at hun;simp only[a8]at hd hun;rw[hd]at hun;simp at hun
 -- what comes before i is done;what comes behind it is not
 have J:∀j∈(fz ops.toList []).getD i [],eG M j:=z7 cx.calm Y.closed i o ho hpr;have C:∀j,eG M j->∀oj,ops.toList[j]?=some oj->i∉(fz ops.toList []).getD j []:=fun j hj oj F hm=>
  hnot (z7 cx.calm Y.closed j oj F (Y.closed j hj oj F) i hm)
 -- the writers of the slots that i names
 have hagree:∀t∈oE ops.toList o,∀(j:Nat) (oj:Oper),ops.toList[j]?=some oj->oj.dst=some t->(eG M j↔j<i):=fun t ht j oj F hjd=>by
  constructor
  .intro hj;rcases wG j i with h|h|h
   .exact h
   .subst h;exact(hnot hj).elim
   .exact(C j hj oj F (cx.calm.clash i j o oj h ho F (DQ (.inr ⟨hjd,ht⟩)))).elim
  .intro hj;exact J j (cx.calm.clash j i oj o hj F ho (DQ (.inl ⟨hjd,ht⟩)))
 have hslot:∀t∈oE ops.toList o,VR G ((zex rs E' i).at t) (a.tmps.getD t undef):=fun t ht=>Y.slots.agree cx (Nat.le_of_lt hil) (hagree t ht);have z:qf G (zex rs E' i) a o.op.operands:=fun x hx c hc=>by
  cases x with
  |tmp t=>simp only[zcV,aA]at hc;subst hc;exact hslot t (z9.2 (.inr (.inl (by simpa using hx))))
  |const v=>exact rW hc
  |global g=>simp[zcV]at hc
  |func f=>simp only[zcV,aA]at hc;subst hc;exact .clo (vs:=[]) rfl aE
 have hwant:=DI (G:=G) (E:=zex rs E' i) (a:=a) (ops:=ops) (o:=o) (fun g b d hg hd=>by
  simp only[cj]at hd;obtain⟨o',h1,h2⟩:=hd;exact hslot d (z9.2 (.inr (.inr ⟨g,b,o',hg,by rw[uc];exact h1,h2⟩))))
 have hdst:∀d,o.dst=some d->d<a.tmps.size/\∀(j:Nat) (o':Oper),eG M j->ops.toList[j]?=some o'->o'.dst=some d->j<=i:=fun d hd=>by
  refine⟨?_,fun j o' hj hjo hjd=>Nat.le_of_lt ((hagree d (z9.2 (.inl hd)) j o' hjo hjd).1 hj)⟩;have hp:=ha.put;rw[hd]at hp;simp only[d9]at hp;split at hp
  .rename_i hb;rw[Y.frame];simpa [gL]using hb
  .simp at hp
 have hclosed':∀j,eG (M.setIfInBounds i true) j->∀oj,ops.toList[j]?=some oj->∀p∈preds oj,eG (M.setIfInBounds i true) p:=fun j hj oj F p hp=>by
  rcases(jA V j).1 hj with rfl|hj
  .rw[ho]at F;simp only[aA]at F;subst F;exact(jA V p).2 (.inr (hpr p hp))
  .exact(jA V p).2 (.inr (Y.closed j hj oj F p hp))
 -- an act comes up in its turn
 have hturn:jQ o=true->i=m:=fun hact=>by
  have O:i∈gI ops.toList:=lk.2 ⟨o,ho,hact⟩;rcases wG i m with h|h|h
  .exact(hnot (Y.acts i O h)).elim
  .exact h
  .rcases Y.act with e|e
   .omega
   .obtain⟨om,I,W⟩:=lk.1 e;exact(Y.notyet (J m (cx.calm.clash m i om o h I ho (by unfold Ab.clash;simp[hact,W])))).elim
 -- how the invariant goes on
 have hfin:∀(v:Value) (w':World) (G':Gh) (X:Hp),VR G' r.val v->Step B nx0 G w X w' G' ->
  (∀k p,G'.β k=some p->G.β k=some p\/((zdy rs H' i).next<=k/\k<(zdy rs H' (i+1)).next)) ->
  ((i≠m/\X=zdy rs H' m)\/(i=m/\X=zdy rs H' (i+1)))->K (a.put o.dst v) w':=fun v w' G' X hv U hlow hX=>by
  have hslots':=Y.slots.put U.ext V ho hr hv hdst;have hlow':∀k p,G'.β k=some p->k<nx0\/∃j,eG (M.setIfInBounds i true) j/\j<ops.toList.length/\(zdy rs H' j).next<=k/\k<(zdy rs H' (j+1)).next:=fun k p hk=>by
   rcases hlow k p hk with h|h
   .rcases Y.low k p h with h|⟨j,h1,h2⟩
    .exact .inl h
    .exact .inr ⟨j,(jA V j).2 (.inr h1),h2⟩
   .exact .inr ⟨i,(jA V i).2 (.inl rfl),hil,h⟩
  have hframe':(a.put o.dst v).tmps.size=N:=by rw[<-Y.frame];cases o.dst<;>simp[Act.put]
  have hdef':(a.put o.dst v).defers=[]:=by have:=Y.defers;cases o.dst<;>exact this
  rcases hX with⟨hne,rfl⟩|⟨rfl,rfl⟩
  .refine hK _ _ m G' ⟨by simpa using Y.size,hclosed',Y.le,Y.act,fun hd=>?_,fun e he hlt=>(jA V e).2 (.inr (Y.acts e he hlt)),Y.step.trans' U,hlow',hslots',hframe',hdef'⟩;rcases(jA V m).1 hd with h|h
   .exact hne h.symm
   .exact Y.notyet h
  ·-- the next act
   obtain⟨m',q1,q2,q3,q4⟩:=z8 (l:=ops.toList) (ops.toList.length-(i+1)) (i+1) ac;obtain⟨g1,g2⟩:=cx.gap (m'-(i+1)) (i+1) ac (fun j h1 h2=>q4 j h1 ac);rw[show i+1+(m'-(i+1))=m' by omega]at g1 g2;have hst2:Step B nx0 G0 w0 (zdy rs H' m') w' G':=by
    have:=Y.step.trans' U;exact⟨this.r.more g1 g2,this.ext,this.fr,this.new,this.low,eP this.mono g1,this.icy⟩
   have hact:∀e∈gI ops.toList,e<m'->eG (M.setIfInBounds i true) e:=fun e he hlt=>by
    by_cases h:e<i
    .exact(jA V e).2 (.inr (Y.acts e he h))
    .by_cases h2:e=i
     .exact(jA V e).2 (.inl h2)
     .exact(q4 e ac hlt he).elim
   refine hK _ _ m' G' ⟨by simpa using Y.size,hclosed',q2,q3,fun hd=>?_,hact,hst2,hlow',hslots',hframe',hdef'⟩;rcases(jA V m').1 hd with h|h
   .omega
   ·-- m' is done though i,an act before it,was not
    have hm'l:m'<ops.toList.length:=by
     rcases uj m' ops.toList.length with h3|h3
     .exact h3
     .unfold eG at h;rw[gM,z0 (by rw[Y.size];exact h3)]at h;simp at h
    rcases q3 with e|e
    .omega
    .obtain⟨om,I,W⟩:=lk.1 e;rcases Y.act with e2|e2
     .omega
     .obtain⟨oi,hoi,hacti⟩:=lk.1 e2;rw[ho]at hoi;simp only[aA]at hoi;subst hoi;exact C m' h om I (cx.calm.clash i m' o om ac ho I (by unfold Ab.clash;simp[hacti,W]))
 -- the range of m for the looks
 have hlo:∀e∈gI ops.toList,e∈(fz ops.toList []).getD i []->e<m:=fun e he hA=>by
  have hd:=J e hA;rcases uj e m with h|h
  .exact h
  .exfalso;rcases Y.act with e2|e2
   .have:=(lk.1 he);obtain⟨oe,hoe,_⟩:=this;have:=(dJ.1 hoe).1;omega
   .by_cases e3:e=m
    .subst e3;exact Y.notyet hd
    .obtain⟨om,I,W⟩:=lk.1 e2;obtain⟨oe,hoe,hacte⟩:=lk.1 he;exact Y.notyet (z7 cx.calm Y.closed e oe hoe (Y.closed e hd oe hoe) m (cx.calm.clash m e om oe ac I hoe (by unfold Ab.clash;simp[W,hacte])))
 have hhi:∀e∈gI ops.toList,i∈(fz ops.toList []).getD e []->m<=e:=fun e he hA=>by
  rcases uj e m with h|h
  .obtain⟨oe,hoe,_⟩:=lk.1 he;exact(C e (Y.acts e he h) oe hoe hA).elim
  .exact h
 unfold wpOp;rw[show ops[i]?=some o by rw[<-uc];exact ho];simp only[];have hnxm:nx0<=(zdy rs H' m).next:=Y.step.mono
 have hsame:Step B nx0 G w (zdy rs H' m) w G:=(jf Y.step.r).weaken hnxm;have hstill:∀(v:Value) (w':World) (G':Gh),i≠m->VR G' r.val v->Step B (zdy rs H' m).next G w (zdy rs H' m) w' G'->K (a.put o.dst v) w':=fun v w' G' O hv U=>
  hfin v w' G' _ hv (U.weaken hnxm) (fun k p hk=>by
   rcases U.low k p hk with h|h
   .exact .inl h
   .have:=U.r.dom k p hk;omega) (.inl ⟨O,rfl⟩)
 have A:jQ o=false->i≠m:=fun hna e=>by
  rcases Y.act with e2|e2
  .omega
  .obtain⟨om,I,W⟩:=lk.1 e2;rw[<-e,ho]at I;simp only[aA]at I;subst I;rw[hna]at W;simp at W
 cases hd:r.did with
 |false=>
  have hw:Region.wanted o (yielded ops a.tmps)=false:=by rw[<-hwant,ha.want];exact hd
  rw[hw];simp only[ct,cb];obtain⟨hval,hheap⟩:=ha.no hd;by_cases O:i=m
  .subst O;exact hfin undef w G (zdy rs H' (i+1)) (by rw[hval];exact tZ G) (by rw[hheap];exact hsame) (fun k p hk=>.inl hk) (.inr ⟨rfl,rfl⟩)
  .exact hfin undef w G _ (by rw[hval];exact tZ G) hsame (fun k p hk=>.inl hk) (.inl ⟨O,rfl⟩)
 |true=>
  have hw:Region.wanted o (yielded ops a.tmps)=true:=by rw[<-hwant,ha.want];exact hd
  rw[hw];simp only[bS];have hop:=ha.yes hd;refine .inl ?_;cases L:zeB o.op with
  |act=>
   have O:=hturn (by simp[jQ,L]);subst O;refine wE fit hih Y.step.r z hop fun v w' G' hv U=>?_;refine hfin v w' G' _ hv (U.weaken hnxm) (fun k p hk=>?_) (.inr ⟨rfl,rfl⟩);rcases U.low k p hk with h|h
   .exact .inl h
   .exact .inr ⟨h,U.r.dom k p hk⟩
  |calm=>
   have hnc:∀c,o.op≠.call c:=fun c e=>by
    rw[e]at L;simp only[zeB]at L;split at L<;>simp at L
   have O:=A (by simp[jQ,L]);have hX:=(zW (P:=P) (by simp[nO,L]) ((qh hnc).1 hop)).2 (zdy rs H' m);have hop':zd4 P B.cfg ih f (zex rs E' i) (zdy rs H' m) o.op=.val r.val (zdy rs H' m):=(qh hnc).2 hX;exact wE fit hih Y.step.r z hop' fun v w' G' hv U=>hstill v w' G' O hv U
  |read=>
   have O:=A (by simp[jQ,L]);have Z:=cx.look i r hr hd m Y.act.symm hlo hhi;unfold zcJ at Z;rw[ha.eo,L,ha.eE]at Z;simp only[]at Z;split at Z
   .rename_i v1 H1 hop';have hv1:=AV.beq_eq Z;subst hv1;have hH1:=zX (by simp[mC,L]) hop';subst hH1;exact wE fit (Snd.fail P B) Y.step.r z hop' fun v w' G' hv U=>hstill v w' G' O hv U
   .simp at Z
  |make=>
   have O:=A (by simp[jQ,L]);have hnc:∀c,o.op≠.call c:=fun c e=>by
    rw[e]at L;simp only[zeB]at L;split at L<;>simp at L
   have hopA:=(qh hnc).1 hop;obtain⟨blk,obj,ext,v,hH1,hrun,hmade,hv⟩:=L3 (P:=P) (w:=w) (by simp[oF,L]) z hopA;have Z:=cx.look i r hr hd m Y.act.symm hlo hhi;unfold zcJ at Z;rw[ha.eo,L,ha.eH,ha.eH']at Z;simp only[]at Z;have hnext1:(zdy rs H' (i+1)).next=(zdy rs H' i).next+1:=by rw[hH1];rfl
   have hgetm:(zdy rs H' m).get (zdy rs H' i).next=some blk:=by
    split at Z
    .rename_i b b' h1 h2;rw[HB.beq_eq Z]at h1;rw[hH1,zcY,ay rfl]at h2;simp only[aA]at h2;subst h2;exact h1
    .simp at Z
   have hlt:i<m:=by
    rcases wG i m with h|h|h
    .exact h
    .exact(O h).elim
    .exfalso;rcases Y.act with e2|e2
     .omega
     .obtain⟨om,I,W⟩:=lk.1 e2;exact Y.notyet (J m (cx.calm.clash m i om o h I ho (by unfold Ab.clash;simp[W,oF,L])))
   have hr0:(zdy rs H' i).next<(zdy rs H' m).next:=by
    have:=cx.nextMono (m-(i+1)) (i+1) (by have:=Y.le;omega);rw[show i+1+(m-(i+1))=m by omega]at this;omega
   have hnx0:nx0<=(zdy rs H' i).next:=by
    have:=cx.nextMono i 0 ac;rw[bz,cx.zeroH,hnx]at this;exact this
   have hno:∀q,G.β (zdy rs H' i).next=some q->False:=fun q hq=>by
    rcases Y.low _ q hq with h|⟨j,h1,h2,h3,h4⟩
    .omega
    .rcases wG j i with h|h|h
     .have:=cx.nextMono (i-(j+1)) (j+1) ac;rw[show j+1+(i-(j+1))=i by omega]at this;omega
     .subst h;exact hnot h1
     .have:=cx.nextMono (j-(i+1)) (i+1) ac;rw[show i+1+(j-(i+1))=j by omega]at this;omega
   have U:=De Y.step.r hno hr0 hgetm hnx0 hmade;unfold Oper.wp;rw[hrun];refine hfin v _ _ _ (hv _ (zfD _ _ _)) U (fun k p hk=>?_) (.inl ⟨O,rfl⟩);simp only[Gh.add]at hk;split at hk
   .rename_i e;exact .inr ⟨ac,ac⟩
   .exact .inl hk
theorem countP_set{M:Array Bool}{i:Nat}(C:i<M.size)(Y:M[i]=false):(M.setIfInBounds i true).toList.countP (·=false)+1=M.toList.countP (·=false):=by
 rw[Ds,List.countP_set (by simpa using C)];have Z:M.toList[i]'(by simpa using C)=false:=by simpa using Y
 have j:0<M.toList.countP (·=false):=List.countP_pos_iff.2 ⟨false,by rw[<-Z];exact dx _,aE⟩;rw[Z];simp only[k6,bS,k9,gl,ct,cb];omega
theorem Mg(fit:Fit P){n:Nat}{ih:Task->Res}(z:Snd P B n ih){f N O:Nat}{ops:Array Oper}{g C:aw}{zdw H':Hp}{rs:List Rec}(cx:Ctx P B.cfg ih f N ops.toList g zdw C H' rs)(hnx:zdw.next=O){G0:Gh}{w0:World}
 (hE':zex rs C ops.toList.length=C) (hH':zdy rs H' ops.toList.length=H') {Q:Exit->Act->World->Prop} (hQ:∀e a w,iV B N O G0 w0 .normal C H' e a w->Q e a w) :
 ∀(Z:Nat) (M:Array Bool) (a:Act) (w:World) (m:Nat) (G:Gh),InvD rs ops.toList N B O g H' G0 w0 M a w m G->M.toList.countP (·=false)<=Z->wpAny P .any ops Q Z M a w:=by
 -- at the end all is done
 have L:∀(M:Array Bool) (a:Act) (w:World) (m:Nat) (G:Gh),InvD rs ops.toList N B O g H' G0 w0 M a w m G->Region.ready .any ops M=[]->Q .normal a w:=fun M a w m G Y W=>by
  have K:∀j,j<ops.toList.length->eG M j:=fun j=>by
   induction j using Nat.strongRecOn with
   |_ j ihj=>
    intro hj;have J:=aO hj;have I:j<M.size:=by rw[Y.size];exact hj
    cases hl:M[j]with
    |true=>
     unfold eG;rw[gM,mD I,hl];rfl
    |false=>
     exfalso;have:j∈Region.ready .any ops M:=jj.2 ⟨_,J,by rw[gM,mD I,hl];rfl,fun p hp=>by
      have hlt:=cx.calm.lt j _ J p hp;exact ihj p hlt ac⟩
     rw[W]at this;simp at this
  have hm:m=ops.toList.length:=by
   rcases Y.act with e|e
   .exact e
   .obtain⟨om,hom,_⟩:=lk.1 e;exact(Y.notyet (K m (dJ.1 hom).1)).elim
  subst hm;have F:=Y.step;rw[hH']at F;refine hQ _ _ _ ⟨rfl,G,⟨Y.frame,fun t=>?_⟩,F,Y.defers⟩;have:=Y.slots.agree cx (t:=t) (aM _) (fun j oj hoj _=>⟨fun _=>(dJ.1 hoj).1,fun h=>K j h⟩);rw[hE']at this;exact this
 intro Z;induction Z with
 |zero=>
  intro M a w m G Y hc;have W:Region.ready .any ops M=[]:=by
   apply ul.2;intro i A;obtain⟨o,J,V,_⟩:=jj.1 A;have U:i<M.size:=DL;rw[gM,mD U]at V;have:=countP_set U r8;omega
  exact⟨W,L M a w m G Y W⟩
 |succ Z ihf=>
  intro M a w m G Y hc;refine⟨fun W=>L M a w m G Y W,fun i A=>?_⟩;obtain⟨o,J,V,_⟩:=jj.1 A;have U:i<M.size:=DL;rw[gM,mD U]at V;have hcs:=countP_set U r8;exact Mf fit z cx hnx Y A (fun a' w' m' G' hI'=>ihf _ a' w' m' G' hI' ac)
theorem DR(fit:Fit P){n:Nat}{ih:Task->Res}(J:Snd P B n ih){f N:Nat}{ops:Array Oper}{E V:aw}{H H':Hp}{G:Gh}{w:World}{x:AX}{a:Act}(hr:zfj P B.cfg ih f N ops.toList E H=.done x V H')
 (h:R B H w G) (M:TR N G E a) (hd:a.defers=[]) {Q:Exit->Act->World->Prop} (hQ:∀e L K,iV B N H.next G w x V H' e L K->Q e L K):wpAny P .any ops Q ops.size (Array.replicate ops.size false) a {w with drawn:=w.drawn+1}:=by
 unfold zfj at hr;split at hr
 .rename_i F;split at hr
  .rename_i E1 H1 rs g;split at hr
   .rename_i Z;simp only[Res.done.injEq]at hr;obtain⟨rfl,rfl,rfl⟩:=hr;have cx:=Me F g Z;have hlen:=cx.len;have I:zex rs E1 ops.toList.length=E1:=by unfold zex;rw[fL ac]
    have Y:zdy rs H1 ops.toList.length=H1:=by unfold zdy;rw[fL ac]
    obtain⟨m,q1,q2,q3,o⟩:=z8 (l:=ops.toList) ops.toList.length 0 ac;obtain⟨W,i⟩:=cx.gap m 0 ac (fun j _ O=>o j ac ac);rw[bz,cx.zeroH]at W i;have U:R B H {w with drawn:=w.drawn+1} G:=h.heap rfl;have A:Step B H.next G w (zdy rs H1 m) {w with drawn:=w.drawn+1} G:=
     ⟨U.more W i,rU _,⟨rfl,rfl,rfl,aM _,fun _ _ _=>rfl⟩,p8 _ _,fun _ _ h=>.inl h,W,fun _ _ _ h=>.inl h⟩
    have C:∀j,¬eG (Array.replicate ops.size false) j:=fun j O=>by
     unfold eG at O;rw[gM,DN]at O;split at O<;>simp at O
    refine Mg fit J cx rfl I Y hQ ops.size _ a _ m G
     ⟨aE,fun j O=>(C j O).elim,q2,q3,C m,fun e he z=>(o e (cN _) z he).elim,A,fun r p hr=>.inl (h.dom r p hr),fun t=>.inr ⟨fun j o' O=>(C j O).elim,M.slots t⟩,M.size,hd⟩ ?_
    exact eP List.countP_le_length aE
   .simp at hr
  .simp at hr
 .simp at hr
end
def jk(ops:Array Oper):List Nat->Array Bool->Prop
 |[],listed=>Region.ready .any ops listed=[]
 |i::L,listed=>i∈Region.ready .any ops listed/\jk ops L (listed.setIfInBounds i true)
theorem DS{ops:Array Oper}:∀(Z t:Nat) (M:Array Bool),M.size=ops.size->M.toList.countP (·=false)<=Z->jk ops (Region.linearise.go .any ops Z t M []) M
 |0,t,M,hs,hc=>by
  show Region.ready .any ops M=[];apply ul.2;intro i C;obtain⟨o,J,V,_⟩:=jj.1 C;have Y:i<M.size:=DM;rw[gM,mD Y]at V;have:=countP_set Y r8;omega
 |Z+1,t,M,hs,hc=>by
  simp only[Region.linearise.go];change jk ops (match (Region.ready .any ops M)[t%(Region.ready .any ops M).length]? with
   |some i=>Region.linearise.go .any ops Z (t/(Region.ready .any ops M).length) (M.setIfInBounds i true) [i]
   |none=>[].reverse) M
  cases C:(Region.ready .any ops M)[t%(Region.ready .any ops M).length]? with
  |none=>
   show Region.ready .any ops M=[];cases hr:Region.ready .any ops M with
   |nil=>rfl
   |cons x U=>
    rw[hr]at C;have z:t%(x::U).length<(x::U).length:=Nat.mod_lt _ aE;simp at C;simp at z;omega
  |some i=>
   simp only[];rw[linearise_go_acc,List.reverse_singleton,List.singleton_append];have W:=jU C;refine⟨W,DS Z _ _ (by simpa using hs) ?_⟩;obtain⟨o,J,V,_⟩:=jj.1 W;have Y:i<M.size:=DM;rw[gM,mD Y]at V;have:=countP_set Y r8;omega
section
variable {P:Program} {Q:Exit -> Act -> World -> Prop}
theorem Aa{ops:Array Oper}:∀(L:List Nat) (Z:Nat) (M:Array Bool) (a:Act) (w:World),wpAny P .any ops Q Z M a w->jk ops L M->wpOps P ops Q L a w
 |[],0,M,a,w,h,_=>h.2
 |[],Z+1,M,a,w,h,hv=>h.1 hv
 |i::L,0,M,a,w,h,hv=>by
  have Y:=hv.1;rw[h.1]at Y;simp at Y
 |i::L,Z+1,M,a,w,h,hv=>by
  rw[wpOps_cons];exact wpOp_mono (fun a w F=>Aa L Z _ a w F hv.2) (h.2 i hv.1)
theorem Mh{ops:Array Oper}{id:Nat}{a:Act}{w:World}(M:P.follows .mixedOrders=true)
 (h:∀L,jk ops L (Array.replicate ops.size false)->wpOps P ops Q L a {w with drawn:=w.drawn+1}):(Code.region id ops true).wp P Q a w:=
 wp_region_draw fun t=>by
  simp only[Region.schedule,M,mF,bS];exact h _ (DS ops.size t _ aE (eP List.countP_le_length aE))
theorem Ac{ops ops':Array Oper}{φ:Nat->Nat}:∀(L:List Nat) (a:Act) (w:World),
 (∀i∈L,∃o U,ops[i]?=some o/\ops'[φ i]?=some U/\(∃Y C,U={o with after:=Y,guard:=C})/\∀a:Act,Region.wanted U (yielded ops' a.tmps)=Region.wanted o (yielded ops a.tmps)) ->
 wpOps P ops' Q (L.map φ) a w->wpOps P ops Q L a w
 |[],_,_,_,h=>h
 |i::L,a,w,hr,h=>by
  rw[dO,wpOps_cons]at h;rw[wpOps_cons];obtain⟨o,U,W,g,⟨Y,C,m⟩,V⟩:=hr i e8;have F:∀a w,wpOps P ops' Q (L.map φ) a w->wpOps P ops Q L a w:=fun a w=>Ac L a w (fun j O=>hr j (fl _ O));have Z:=wpOp_mono F h;unfold wpOp at Z⊢;rw[g]at Z;rw[W];simp only[]at Z⊢;rw[V a]at Z;subst m;exact Z
end
theorem wI(q p:Nat)(l:List Oper):(gJ q p l).length=l.length:=by
 unfold gJ;split<;>simp
theorem um{q p:Nat}{l:List Oper}{i:Nat}{o:Oper}(h:l[i]?=some o):
 ∃U,(gJ q p l)[i]?=some U/\(∃W,U={o with after:=W})/\(i≠q->U=o)/\∀j,j∈preds U↔j∈preds o\/(i=q/\j=p):=by
 unfold gJ;have C:=(dJ.1 h).1;by_cases e:i=q
 .subst e;rw[h];refine⟨_,List.getElem?_set_self C,⟨_,rfl⟩,fun Y=>(Y rfl).elim,fun j=>?_⟩;unfold preds;have:(o.after.push {on:=p,ground:=.data}).toList=o.after.toList++[{on:=p,ground:=.data}]:=aE;rw[this,List.filter_append,qi,uh];have g:(List.filter (Region.binds .any) [({on:=p,ground:=.data}:Edge)])=[{on:=p,ground:=.data}]:=rfl;rw[g];simp
 .have F:∀Z,(l.set q Z)[i]?=some o:=fun Z=>by rw[List.getElem?_set_ne (fun h=>e h.symm)];exact h
  split
  .exact⟨o,F _,⟨o.after,rfl⟩,fun _=>rfl,fun j=>⟨.inl,fun h=>h.elim id (fun h=>(e h.1).elim)⟩⟩
  .exact⟨o,h,⟨o.after,rfl⟩,fun _=>rfl,fun j=>⟨.inl,fun h=>h.elim id (fun h=>(e h.1).elim)⟩⟩
theorem DT{q p:Nat}{l:List Oper}{i:Nat}{U:Oper}(h:(gJ q p l)[i]?=some U):∃o,l[i]?=some o:=by
 have:=(dJ.1 h).1;rw[wI]at this;exact⟨_,aO this⟩
theorem Mi{q p:Nat}{l:List Oper}(j:Nat):((gJ q p l)[j]?).bind (·.dst)=(l[j]?).bind (·.dst):=by
 cases h:l[j]? with
 |none=>
  rw[fL (by rw[wI];exact DO.1 h)]
 |some o=>
  obtain⟨U,i,⟨Z,rfl⟩,_⟩:=um (q:=q) (p:=p) h;rw[i];rfl
theorem DU{q p:Nat}{l:List Oper}{M:Array Bool}{i:Nat}(h:i∈Region.ready .any (gJ q p l).toArray M):i∈Region.ready .any l.toArray M:=by
 obtain⟨U,Z,g,m⟩:=jj.1 h;simp only[]at Z;obtain⟨o,J⟩:=DT Z;obtain⟨V,W,_,_,Y⟩:=um (q:=q) (p:=p) J;rw[Z]at W;simp only[aA]at W;subst W;exact jj.2 ⟨o,J,g,fun j O=>m j ((Y j).2 (.inl O))⟩
theorem uo{q p:Nat}{l:List Oper}{M:Array Bool}{i:Nat}(h:i∈Region.ready .any l.toArray M)(V:i=q->M.getD p false=true):i∈Region.ready .any (gJ q p l).toArray M:=by
 obtain⟨o,Z,g,m⟩:=jj.1 h;simp only[]at Z;obtain⟨Y,W,_,_,J⟩:=um (q:=q) (p:=p) Z;refine jj.2 ⟨Y,W,g,fun j O=>?_⟩;rcases(J j).1 O with h|⟨U,rfl⟩
 .exact m j h
 .exact V U
theorem Mj{M:Array Bool}{i p:Nat}(h:M.getD p false=true):(M.setIfInBounds i true).getD p false=true:=by
 simp only[gM,p7]at *;split
 .split
  .rfl
  .rename_i Z g;subst Z;rw[z0 ac]at h;simp at h
 .exact h
theorem Ad{q p:Nat}{l:List Oper}:∀{L:List Nat}{M:Array Bool},M.getD p false=true->jk l.toArray L M->jk (gJ q p l).toArray L M
 |[],M,_,hv=>by
  show Region.ready .any (gJ q p l).toArray M=[];apply ul.2;intro i C;have:=DU C;rw[show Region.ready .any l.toArray M=[]from hv]at this;simp at this
 |i::L,M,hd,hv=>⟨uo hv.1 (fun _=>hd),Ad (Mj hd) hv.2⟩
theorem DV{p q:Nat}(Z:p≠q){l:List Oper}:∀{L:List Nat}{M:Array Bool},M.size=l.length->jk l.toArray L M->jk (gJ q p l).toArray L M\/jk (gJ p q l).toArray L M
 |[],M,_,hv=>.inl <|by
  show Region.ready .any (gJ q p l).toArray M=[];apply ul.2;intro i C;have:=DU C;rw[show Region.ready .any l.toArray M=[]from hv]at this;simp at this
 |i::L,M,hs,hv=>by
  have V:i<M.size:=by
   obtain⟨o,J,_⟩:=jj.1 hv.1;rw[hs];exact(dJ.1 J).1
  have F:(M.setIfInBounds i true).getD i false=true:=by
   simp[gM,p7,V]
  by_cases Y:i=q
  .subst Y;exact .inr ⟨uo hv.1 (fun e=>(Z e.symm).elim),Ad F hv.2⟩
  .by_cases A:i=p
   .subst A;exact .inl ⟨uo hv.1 (fun e=>(Y e).elim),Ad F hv.2⟩
   .rcases DV Z (by simpa using hs) hv.2 with h|h
    .exact .inl ⟨uo hv.1 (fun e=>(Y e).elim),h⟩
    .exact .inr ⟨uo hv.1 (fun e=>(A e).elim),h⟩
theorem Ae{ops:Array Oper}:∀{L:List Nat}{M:Array Bool},jk ops L M->∀i∈L,∃o,ops.toList[i]?=some o
 |[],_,_,i,C=>by simp at C
 |j::L,M,hv,i,C=>by
  rcases fk.1 C with rfl|C
  .obtain⟨o,J,_⟩:=jj.1 hv.1;exact⟨o,J⟩
  .exact Ae hv.2 i C
theorem DW{P:Program}{Q:Exit->Act->World->Prop}{q p:Nat}{l:List Oper}{L:List Nat}{M:Array Bool}{a:Act}{w:World}(Z:jk l.toArray L M)
 (h:wpOps P (gJ q p l).toArray Q L a w):wpOps P l.toArray Q L a w:=by
 refine Ac (ops':=(gJ q p l).toArray) (φ:=id) L a w (fun i C=>?_) iW;obtain⟨o,J⟩:=Ae Z i C;simp only[]at J;obtain⟨U,W,⟨Y,rfl⟩,_⟩:=um (q:=q) (p:=p) J;refine⟨o,_,by simpa using J,by simpa using W,⟨Y,o.guard,rfl⟩,fun a=>?_⟩;have V:yielded (gJ q p l).toArray a.tmps=yielded l.toArray a.tmps:=funext fun j=>by
  unfold yielded;have:=Mi (q:=q) (p:=p) (l:=l) j;simp only[List.getElem?_toArray,this]
 rw[V];rfl
structure PermD (ord:List Nat) (l:List Oper):Prop where
 len:ord.length=l.length
 bk:∀k:Nat,k<l.length->∃i,ord[k]?=some i/\i<l.length/\fS ord i=k
 lt:∀i:Nat,i<l.length->fS ord i<l.length/\ord[fS ord i]?=some i
 pre:∀(i:Nat) o,l[i]?=some o->(∀p∈preds o,p<l.length)/\∀j b,o.guard=some (j,b)->j<l.length
theorem Mk{Y:List Nat}{l:List Oper}(h:tS Y l=true):PermD Y l:=by
 unfold tS at h;simp only[dB,fT,iY]at h;obtain⟨⟨V,g⟩,m⟩:=h;refine⟨gK V,fun k Z=>?_,fun i C=>?_,fun i o J=>?_⟩
 .have:=(g k Z).1.1;split at this
  .rename_i i C;simp only[dB]at this;exact⟨i,C,by simpa [gL]using this.1,gK this.2⟩
  .simp at this
 .have U:=(g i C).1.2;have W:=(g i C).2;refine⟨by simpa [gL]using U,?_⟩;split at W
  .rename_i k Z;rw[Z,gK W]
  .simp at W
 .have:=m o (jU J);refine⟨fun p hp=>by simpa [gL]using this.1 p hp,fun j b A=>?_⟩;have F:=this.2;rw[A]at F;simpa [gL]using F
theorem DX{M β:Type}{f:M->Option β}:∀{C:List M},(∀x∈C,(f x).isSome=true)->∀k:Nat,(C.filterMap f)[k]?=(C[k]?).bind f
 |[],_,k=>by simp
 |x::C,h,k=>by
  obtain⟨y,Z⟩:=Option.isSome_iff_exists.1 (h x e8);rw[List.filterMap_cons_some Z];cases k with
  |zero=>simp[Z]
  |succ k=>simp[DX (fun x F=>h x (fl _ F)) k]
section
variable {ord:List Nat} {l:List Oper} (hp:PermD ord l)
include hp
theorem PermD.at'{i:Nat}{o:Oper}(h:l[i]?=some o):(zeH ord l)[fS ord i]?=some (oG ord o):=by
 have C:=(dJ.1 h).1;unfold zeH;rw[DX (fun x F=>?_)]
 .rw[(hp.lt i C).2];simp[h]
 .obtain⟨k,j⟩:=z4.1 F;have Y:k<l.length:=by rw[<-hp.len];exact(dJ.1 j).1
  obtain⟨W,Z,g,_⟩:=hp.bk k Y;rw[j]at Z;simp only[aA]at Z;subst Z;rw[aO g];rfl
theorem PermD.length:(zeH ord l).length=l.length:=by
 have:∀k,k<l.length->((zeH ord l)[k]?).isSome=true:=fun k j=>by
  obtain⟨i,Z,g,m⟩:=hp.bk k j;have:=hp.at' (aO g);rw[m]at this;rw[this];rfl
 refine Nat.le_antisymm (eP (List.length_filterMap_le _ _) (by rw[hp.len];exact aM _)) ?_;rcases uj (zeH ord l).length l.length with h|h
 .have:=this _ h;rw[fL (aM _)]at this;simp at this
 .exact h
theorem PermD.of{k:Nat}{U:Oper}(h:(zeH ord l)[k]?=some U):∃i o,l[i]?=some o/\fS ord i=k/\U=oG ord o:=by
 have j:k<l.length:=by rw[<-hp.length];exact(dJ.1 h).1
 obtain⟨i,Z,g,m⟩:=hp.bk k j;have:=hp.at' (aO g);rw[m,h]at this;simp only[aA]at this;exact⟨i,_,aO g,m,this⟩
theorem PermD.inj{i j:Nat}(C:i<l.length)(O:j<l.length)(h:fS ord i=fS ord j):i=j:=by
 have Z:=(hp.lt i C).2;rw[h,(hp.lt j O).2]at Z;simpa using Z.symm
theorem PermD.preds{o:Oper}:Ab.preds (oG ord o)=(Ab.preds o).map (fS ord):=by
 unfold Ab.preds oG;simp only[oL];rw[List.filter_map];have:(Region.binds .any ∘ fun e:Edge=>{e with on:=fS ord e.on})=Region.binds .any:=rfl;rw[this,List.filter_filter];simp only[qj,oL];rfl
def uq(Y:List Nat)(l:List Oper)(x y:Array Bool):Prop:=x.size=l.length/\y.size=l.length/\∀i,i<l.length->y[fS Y i]?=x[i]?
theorem uq.set{x y:Array Bool}(h:uq ord l x y){i:Nat}(C:i<l.length):uq ord l (x.setIfInBounds i true) (y.setIfInBounds (fS ord i) true):=by
 refine⟨by simpa using h.1,by simpa using h.2.1,fun j O=>?_⟩;simp only[p7];by_cases e:i=j
 .subst e;rw[ay rfl,ay rfl,ay (by rw[h.2.1];exact(hp.lt i C).1),ay (by rw[h.1];exact C)]
 .rw[ah e,ah (fun Y=>e (hp.inj C O Y))];exact h.2.2 j O
theorem DY{x y:Array Bool}(h:uq ord l x y){i:Nat}(C:i<l.length):fS ord i∈Region.ready .any (zeH ord l).toArray y↔i∈Region.ready .any l.toArray x:=by
 have J:=aO C;have U:=hp.at' J;rw[jj,jj];simp only[];have hd:∀(j:Nat) (b:Bool),j<l.length->y.getD (fS ord j) b=x.getD j b:=fun j b O=>by
  simp only[gM,h.2.2 j O]
 constructor
 .rintro⟨V,W,Y,Z⟩;rw[U]at W;simp only[aA]at W;subst W;refine⟨_,J,by rw[<-hd i true C];exact Y,fun p I=>?_⟩;rw[<-hd p false ((hp.pre i _ J).1 p I)];exact Z _ (by rw[hp.preds];exact List.mem_map_of_mem I)
 .rintro⟨V,W,Y,Z⟩;rw[J]at W;simp only[aA]at W;subst W;refine⟨_,U,by rw[hd i true C];exact Y,fun p I=>?_⟩;rw[hp.preds]at I;obtain⟨L,K,rfl⟩:=mE.1 I;rw[hd L false ((hp.pre i _ J).1 L K)];exact Z L K
theorem DZ:∀{L:List Nat}{x y:Array Bool},uq ord l x y->jk l.toArray L x->jk (zeH ord l).toArray (L.map (fS ord)) y
 |[],x,y,hs,hv=>by
  show Region.ready .any (zeH ord l).toArray y=[];apply ul.2;intro k j;obtain⟨U,W,_⟩:=jj.1 j;simp only[]at W;obtain⟨i,o,Z,g,_⟩:=hp.of W;have C:=(dJ.1 Z).1;rw[<-g]at j;have:=(DY hp hs C).1 j;rw[show Region.ready .any l.toArray x=[]from hv]at this;simp at this
 |i::L,x,y,hs,hv=>by
  obtain⟨o,J,_⟩:=jj.1 hv.1;have C:i<l.length:=(dJ.1 J).1;exact⟨(DY hp hs C).2 hv.1,DZ (hs.set hp C) hv.2⟩
theorem Ml{P:Program}{Q:Exit->Act->World->Prop}{L:List Nat}{M:Array Bool}{a:Act}{w:World}(Y:jk l.toArray L M)
 (h:wpOps P (zeH ord l).toArray Q (L.map (fS ord)) a w):wpOps P l.toArray Q L a w:=by
 refine Ac (ops':=(zeH ord l).toArray) (φ:=fS ord) L a w (fun i C=>?_) h;obtain⟨o,Z⟩:=Ae Y i C;simp only[]at Z;have U:=hp.at' Z;refine⟨o,oG ord o,qb,by simpa using U,⟨_,_,rfl⟩,fun a=>?_⟩;unfold Region.wanted oG;cases A:o.guard with
 |none=>rfl
 |some I=>
  obtain⟨j,b⟩:=I;have O:=(hp.pre i o Z).2 j b A;have J:=hp.at' (aO O);simp only[];unfold yielded;simp only[List.getElem?_toArray,J,aO O];rfl
end
theorem T.beq_eq{M:Type}{J:M->M->Bool}(L:∀a b,J a b=true->a=b):∀{x y:T M},T.beq J x y=true->x=y
 | .e,.e,_=>rfl
 | .e,.n _ _ _,h=>by simp[T.beq]at h
 | .n _ _ _,.e,h=>by simp[T.beq]at h
 | .n v l r,.n o m Z,h=>by
   simp only[T.beq,dB]at h;rw[T.beq_eq L h.1.2,T.beq_eq L h.2];have i:=h.1.1;cases v<;>cases o <;>simp only[ct]at i
   .rfl
   .rw[L _ _ i]
theorem Mm{ops:List Oper}{V M:aw}{O Z:Hp}(h:zl ops V M O Z=true):(∀o∈ops,∀d,o.dst=some d->V.at d=M.at d)/\O=Z:=by
 unfold zl at h;simp only[dB,fT]at h;refine⟨fun o J d hd=>?_,?_⟩
 .have:=h.1.1 o J;rw[hd]at this;exact AV.beq_eq this
 .have i:=gK h.1.2;have g:=T.beq_eq (fun a b=>HB.beq_eq) h.2;cases O;cases Z;simp only[]at i g;rw[i,g]
section
variable {P:Program} {B:Bs} {cfg:Cfg}
theorem Mn{N t:Nat}{E V:aw}{j:Option Tmp}{v:AV}(h:d9 N E j v=some V)(C:j≠some t):V.at t=E.at t:=by
 unfold d9 at h;split at h
 .rename_i d;split at h
  .simp only[aA]at h;rw[<-h,rV,ah (fun e=>C li)]
  .simp at h
 .simp only[aA]at h;rw[<-h]
theorem D0{ih:Task->Res}{f N t:Nat}{C:List Oper}:∀{rs:List Rec}{l:List Oper}{E E':aw}{H H':Hp},kF P cfg ih f N C rs l E H E' H'->(∀o∈l,o.dst≠some t)->E'.at t=E.at t
 |[],[],_,_,_,_,h,_=>by rw[h.1]
 |[],_::_,_,_,_,_,h,_=>by simp[kF]at h
 |_::_,[],_,_,_,_,h,_=>by simp[kF]at h
 |r::rs,o::l,E,E',H,H',h,ht=>by
  obtain⟨_,_,_,_,_,_,E1,hp,Z⟩:=h;rw[D0 Z (fun o J=>ht o (fl _ J)),Mn hp (ht o e8)]
theorem D1{ih:Task->Res}{f N t:Nat}{ops:List Oper}{E F:aw}{H H':Hp}{x:AX}(h:zfj P cfg ih f N ops E H=.done x F H')(C:∀o∈ops,o.dst≠some t):x=.normal/\F.at t=E.at t:=by
 unfold zfj at h;split at h
 .split at h
  .rename_i E1 H1 rs g;split at h
   .simp only[Res.done.injEq]at h;obtain⟨rfl,rfl,rfl⟩:=h;exact⟨rfl,D0 (ug g) C⟩
   .simp at h
  .simp at h
 .simp at h
theorem Mo{Y:List Nat}{l:List Oper}{o:Oper}(h:o∈zeH Y l):∃U∈l,o.dst=U.dst:=by
 unfold zeH at h;rw[List.mem_filterMap]at h;obtain⟨i,_,g⟩:=h;split at g
 .rename_i U J;simp only[aA]at g;subst g;exact⟨U,jU J,rfl⟩
 .simp at g
theorem D2{q p:Nat}{l:List Oper}{o:Oper}(h:o∈gJ q p l):∃U∈l,o.dst=U.dst:=by
 obtain⟨i,C⟩:=z4.1 h;obtain⟨J,Z⟩:=DT C;obtain⟨V,W,⟨j,Y⟩,_⟩:=um (q:=q) (p:=p) Z;rw[C]at W;simp only[aA]at W;exact⟨J,jU Z,by rw[W,Y]⟩
theorem D3{ops:List Oper}{zc0 r2:Res}{x:AX}{F:aw}{H':Hp}(h:pX ops zc0 r2=.done x F H'):
 x=.normal/\zc0=.done .normal F H'/\∃M,r2=.done .normal M H'/\∀o∈ops,∀d,o.dst=some d->F.at d=M.at d:=by
 unfold pX at h;split at h
 .split at h
  .rename_i K;simp only[Res.done.injEq]at h;obtain⟨rfl,rfl,rfl⟩:=h;obtain⟨i,g⟩:=Mm K;subst g;exact⟨rfl,rfl,_,rfl,i⟩
  .simp at h
 .simp at h
theorem Af{ih:Task->Res}{f N t:Nat}{E F:aw}{H H':Hp}{x:AX}:∀{m:Plan}{ops:List Oper},ze0 P cfg ih f N E H m ops=.done x F H'->(∀o∈ops,o.dst≠some t)->F.at t=E.at t
 | .text,ops,h,ht=>(D1 h ht).2
 | .perm ord,ops,h,ht=>by
   simp only[ze0]at h;split at h
   .exact(D1 h (fun o J=>by obtain⟨U,i,g⟩:=Mo J;rw[g];exact ht U i)).2
   .simp at h
 | .split p q a b,ops,h,ht=>by
   simp only[ze0]at h;split at h
   .simp at h
   .obtain⟨_,i,_⟩:=D3 h;exact Af i (fun o J=>by obtain⟨U,i,g⟩:=D2 J;rw[g];exact ht U i)
theorem iV.same{N o:Nat}{G:Gh}{w:World}{x:AX}{V M:aw}{H':Hp}(U:∀t,V.at t=M.at t){e:Exit}{a:Act}{w':World}(h:iV B N o G w x M H' e a w'):iV B N o G w x V H' e a w':=by
 obtain⟨i,Z,g,m,Y⟩:=h;exact⟨i,Z,⟨g.size,fun t=>by rw[U];exact g.slots t⟩,m,Y⟩
theorem Ag(fit:Fit P){n:Nat}{ih:Task->Res}(J:Snd P B n ih){f N:Nat}{E:aw}{H:Hp}{G:Gh}{w:World}{a:Act}(h:R B H w G)(C:TR N G E a)(hd:a.defers=[]){Q:Exit->Act->World->Prop}:
 ∀(A:Plan) (l:List Oper) {E':aw}{H':Hp}{x:AX},ze0 P B.cfg ih f N E H A l=.done x E' H'->(∀e O W,iV B N H.next G w x E' H' e O W->Q e O W)->∀L,jk l.toArray L (Array.replicate l.length false) ->
  wpOps P l.toArray Q L a {w with drawn:=w.drawn+1}
 | .text,l,E',H',x,hr,hQ,L,hv=>Aa L _ _ a _ (by
  have:=DR (ops:=l.toArray) fit J hr h C hd hQ;simpa using this) hv
 | .perm ord,l,E',H',x,hr,hQ,L,hv=>by
   simp only[ze0]at hr;split at hr
   .rename_i hp;have hp:=Mk hp;refine Ml hp hv (Aa _ _ _ a _ (DR (ops:=(zeH ord l).toArray) fit J hr h C hd hQ) ?_);refine DZ hp ⟨aE,by simp[hp.length],fun i I=>?_⟩ hv;have:=(hp.lt i I).1;simp[hp.length,I,this]
   .simp at hr
 | .split p q pa pb,l,E',H',x,hr,hQ,L,hv=>by
   simp only[ze0]at hr;split at hr
   .simp at hr
   .rename_i Y;have V:p≠q:=zp Y;obtain⟨rfl,F,j,g,h3⟩:=D3 hr;rcases DV V aE hv with m|M
    .exact DW hv (Ag fit J h C hd pa _ F hQ L (by rw[wI];exact m))
    .have U:∀t,E'.at t=j.at t:=fun t=>by
      by_cases C:∃o∈l,o.dst=some t
      .obtain⟨o,Z,hd⟩:=C;exact h3 o Z t hd
      .have z:∀o∈l,o.dst≠some t:=fun o Z hd=>C ⟨o,Z,hd⟩;have K:∀q p,∀o∈gJ q p l,o.dst≠some t:=fun q p o Z=>by obtain⟨o',g1,g2⟩:=D2 Z;rw[g2];exact z o' g1
       rw[Af F (K _ _),Af g (K _ _)]
     exact DW hv (Ag fit J h C hd pb _ g (fun e O W hp=>hQ _ _ _ (iV.same U hp)) L (by rw[wI];exact M))
theorem Mp(fit:Fit P){n:Nat}{ih:Task->Res}(J:Snd P B n ih){f N id:Nat}{ops:Array Oper}{E F:aw}{H H':Hp}{G:Gh}{w:World}{x:AX}{a:Act}{m:Plan}(hr:ze0 P B.cfg ih f N E H m ops.toList=.done x F H')
 (h:R B H w G) (C:TR N G E a) (hd:a.defers=[]):Code.wp P (.region id ops true) (iV B N H.next G w x F H') a w:=by
 refine Mh fit.mixed fun L M=>?_;have:=Ag fit J h C hd m ops.toList hr (fun _ _ _ hp=>hp) L (by simpa using M);simpa using this
end
structure Grow (w:World) (F:Nat->Nat->Option Value) (w':World) (F':Nat->Nat->Option Value):Prop where
 below:Below w.heap.size w w'
 more:∀b o v,F b o=some v->F' b o=some v
 icy:∀b o v,F' b o=some v->F b o=some v\/w.heap.size<=b
 frz:∀b o v,F' b o=some v->w'.cell? ⟨b,o,none⟩=some v
def bh(P:Program)(ρ:Nat->Int)(f:FuncId)(args:List AV)(r:AV):Prop:=
 (∃m,P.funcs[f]?=some m/\m.body.isSome=true)/\∀(G:Gh) (w:World) (vs:List Value),G.ρ=ρ->(∀b o v,G.F b o=some v->w.cell? ⟨b,o,none⟩=some v)->bT G args vs ->
   Calls P f vs.toArray w (fun e W=>∃v I,e=.returned v/\VR {G with F:=I} r v/\Grow w G.F W I)
def Mq(P:Program)(B:Bs):Prop:=∀f args r,B.cfg.call f args=some r->bh P B.ρ f args r
theorem Ah{w w':World}(h:Below w.heap.size w w'){b o:Nat}(z:b<w.heap.size):w'.cell? ⟨b,o,none⟩=w.cell? ⟨b,o,none⟩/\w'.frozen? ⟨b,o,none⟩=w.frozen? ⟨b,o,none⟩:=
 ⟨by simp only[World.cell?,h.block b z],h.frozen (p:=⟨b,o,none⟩) z⟩
theorem R.grow{B:Bs}{H:Hp}{w w':World}{G:Gh}{Z:Nat->Nat->Option Value}(h:R B H w G)(g:Grow w G.F w' Z):Step B H.next G w H w' {G with F:=Z}:=by
 have W:Ext G {G with F:=Z}:=⟨fun _ _ h=>h,g.more,rfl⟩;have C:∀{b o:Nat}{v:Value},w.cell? ⟨b,o,none⟩=some v->w'.cell? ⟨b,o,none⟩=some v:=fun hc=>by rw[(Ah g.below (lg hc)).1];exact hc
 refine⟨?_,W,⟨g.below.os,g.below.tape,g.below.output,g.below.size,fun k J _=>g.below.block k J⟩,fun r b o x hr=>.inl hr,fun _ _ h=>.inl h,aM _,fun b o v L=>(g.icy b o v L).imp id fun z=>eP h.base z⟩;exact{
  base:=eP h.base g.below.size
  dom:=h.dom
  lt:=fun r b o x hr=>⟨(h.lt r b o x hr).1,gk (h.lt r b o x hr).2 g.below.size⟩
  cells:=fun r b o x Y imm O hr hc j c V=>by
   obtain⟨v,i,M⟩:=h.cells r b o x Y imm O hr hc j c V;exact⟨v,C i,M.mono W⟩
  imm:=fun r b o x Y imm O hr hc j V I=>let ⟨v,L⟩:=h.imm r b o x Y imm O hr hc j V I;⟨v,g.more _ _ _ L⟩
  ext:=h.ext
  fits:=h.fits
  room:=fun r b o x Y imm O hr hc j V I=>by
   obtain⟨⟨v,i⟩,M,m⟩:=h.room r b o x Y imm O hr hc j V I;have z:=(h.lt r b o x hr).2;refine⟨⟨v,C i⟩,by rw[(Ah g.below z).2];exact M,?_⟩;show Z b (o+j)=none;cases hF:Z b (o+j)with
   |none=>rfl
   |some u=>rcases g.icy _ _ _ hF with K|K
            ·rw[m]at K;simp at K
            .omega
  apart:=h.apart
  map:=fun r b o x A hr hc=>by
   obtain⟨ms,U,i,M⟩:=h.map r b o x A hr hc;exact⟨ms,U,by rw[g.below.block b (h.lt r b o x hr).2];exact i,M.mono W⟩
  mapApart:=h.mapApart
  frz:=g.frz
  val:=h.val
  sym:=h.sym}
theorem Ai(z:Nat):∀(n:Nat) (l:List AV),(zeg z n l).length=n
 |0,_=>rfl
 |n+1,l=>by simp[zeg,Ai z n]
theorem ur(z:Nat):∀(n:Nat) (l:List AV) (i:Nat) (A:List AV),l.length=n*z->(zeg z n l)[i]?=some A->A.length=z/\∀(j:Nat) c,A[j]?=some c->l[i*z+j]?=some c
 |0,_,i,A,_,h=>by simp[zeg]at h
 |n+1,l,i,A,hl,h=>by
  rw[lh,wH]at hl;simp only[zeg]at h;cases i with
  |zero=>
   simp at h;subst h;refine⟨rZ,fun j c O=>?_⟩;rw[mw]at O;split at O
   .rw[t9,bz];exact O
   .simp at O
  |succ i=>
   obtain⟨Z,g⟩:=ur z n (l.drop z) i A wF iW;refine⟨Z,fun j c O=>?_⟩;have:=g j c O;rw[nI]at this;rw[lh,wH,show i*z+z+j=z+(i*z+j) by omega];exact this
theorem wJ{B:Bs}{w:World}{g:AV->Hp->Option (AV×Hp)}
 (A:∀(v:AV) (H:Hp) (q:AV) (H':Hp) (G:Gh) (x:Value),R B H w G->VR G v x->g v H=some (q,H')->∃Z,Step B H.next G w H' w Z/\VR Z q x) :
 ∀(W:List AV) (vs:List Value) (H:Hp) (F:List AV) (H':Hp) (G:Gh),R B H w G->bT G W vs->ir g W H=some (F,H')->∃Z,Step B H.next G w H' w Z/\bT Z F vs
 |[],vs,H,F,H',G,h,hv,hi=>by
  simp only[ir,ck]at hi;obtain⟨rfl,rfl⟩:=hi;exact⟨G,jf h,hv⟩
 |c::W,[],H,F,H',G,h,hv,hi=>by have:=hv.1;simp at this
 |c::W,v::vs,H,F,H',G,h,hv,hi=>by
  simp only[ir]at hi;split at hi
  .rename_i d H1 i;split at hi
   .rename_i j V U;simp only[ck]at hi;obtain⟨rfl,rfl⟩:=hi;obtain⟨O,M⟩:=hv.of_cons;obtain⟨L,K,zc0⟩:=A c H d H1 G v h O i;obtain⟨J,Y,r2⟩:=wJ A W vs H1 j V L K.r (M.mono K.ext) U;exact⟨J,K.trans Y,iT (zc0.mono Y.ext) r2⟩
   .simp at hi
  .simp at hi
theorem wK{B:Bs}{w:World}:∀(n:Nat) (v:AV) (H:Hp) (q:AV) (H':Hp) (G:Gh) (x:Value),R B H w G->VR G v x->fB n v H=some (q,H')->∃G',Step B H.next G w H' w G'/\VR G' q x
 |0,_,_,_,_,_,_,_,_,h=>by simp[fB]at h
 |n+1,v,H,q,H',G,x,h,hv,C=>by
  unfold fB at C;split at C
  .rename_i r M W z;split at C
   .rename_i cs L tip g;split at C
    .rename_i K;simp only[dB]at K;have hle1:=ub K.1;have hle2:=ub K.2;split at C
     .rename_i l H1 J;simp only[ck]at C;obtain⟨rfl,rfl⟩:=C;cases hv with
      |sl hr hl hcx=>
       rename_i b o xx cap;have V:=h.cells r b o xx cs L tip hr g;have s1:=t4 h hr g (n:=max L (M+W*z)) ac ac tip id;obtain⟨O,I,ho2⟩:=V.list;have hlen:((cs.drop M).take (W*z)).length=W*z:=by rw[iS,iw];omega
       obtain⟨G2,s2,r2⟩:=wJ (wK n) _ ((O.drop M).take (W*z)) _ l H1 _ s1.r (((I.drop M).take (W*z)).mono s1.ext) J;refine⟨G2,s1.trans s2,?_⟩;have hll:l.length=W*z:=by
        have e1:=r2.1;have e2:=((I.drop M).take (W*z)).1;rw[hlen]at e2;omega
       have F:=Ai z W l;have hovl:O.length=cs.length:=I.1.symm;have hat:∀m,m<W*z->∃v,O[M+m]?=some v/\G2.F b (o+M+m)=some v/\∀c,l[m]?=some c->VR G2 c v:=fun m hm=>by
        have Y:M+m<O.length:=ac;refine⟨O[M+m],aO Y,?_,fun c hc=>?_⟩
        .refine s2.ext.F _ _ _ ?_;have A:=ho2 (M+m) O[M+m] (aO Y);show(G.ice w b o (max L (M+W*z))).F b (o+M+m)=some O[M+m];simp only[Gh.ice];rw[<-hZ]at A;split
         .rename_i v' hv';have:=h.frz _ _ _ hv';rw[A]at this;exact this.symm
         .rw[ay ⟨mr,ac,ac⟩];exact A
        .refine r2.2 m c _ hc ?_;rw[mw,ay hm,nI];exact aO Y
       have hin:∀i j,i<W->j<z->i*z+j<W*z:=fun i j C hj=>by
        calc i*z+j<i*z+z:=by omega
         _=(i+1)*z:=by rw[lh,wH]
         _<=W*z:=r4 _ C
       have key:VR G2 (.lst (zeg z W l)) (.slice (some ⟨b,o+M,none⟩) (zeg z W l).length cap):=by
        refine .lst (fun i j=>(O[M+(i*z+j)]?).getD undef) (z:=z) (fun i U Z=>(ur z W l i U hll Z).1) (fun i j C hj=>?_) (fun i j U c Z hcj=>?_) (by rw[F];exact hl)
        .rw[F]at C;obtain⟨v,e1,e2,_⟩:=hat _ (hin i j C hj);rw[e1,hZ (o+M)];exact e2
        .have hm:=(ur z W l i U hll Z).2 j c hcj;have Y:=(dJ.1 hm).1;obtain⟨v,e1,_,e3⟩:=hat (i*z+j) ac;rw[e1];exact e3 c hm
       rw[F]at key;exact key
     .simp at C
    .simp at C
   .simp at C
  .rename_i cs;split at C
   .rename_i ds H1 J;simp only[ck]at C;obtain⟨rfl,rfl⟩:=C;cases hv with
    |agg hl hvs=>
     obtain⟨G',s,r⟩:=wJ (wK n) cs _ H ds H1 G h ⟨hl,hvs⟩ J;exact⟨G',s,.agg r.1 r.2⟩
   .simp at C
  .simp at C
  .simp at C
  .simp only[ck]at C;obtain⟨rfl,rfl⟩:=C;exact⟨G,jf h,hv⟩
section
variable {P:Program} {B:Bs} {G:Gh} {H H':Hp} {w:World}
theorem D4:∀(args:List AV) (i:Nat) (E:aw) (t:Nat),(zcX i args E).at t=if i<=t/\t<i+args.length then args.getD (t-i) zd1 else E.at t
 |[],i,E,t=>by
  simp only[zcX,jx,mA];rw[ah ac]
 |v::vs,i,E,t=>by
  simp only[zcX,D4 vs (i+1),dl];by_cases Z:i+1<=t/\t<i+1+vs.length
  .rw[ay Z,ay ac,show t-i=(t-(i+1))+1 by omega];rfl
  .rw[ah Z,rV];by_cases g:t=i
   .subst g;rw[ay rfl,ay ac];simp
   .rw[ah g,ah ac]
theorem Aj:∀(d t:Nat),aw.at (tT d) t=zd1
 |0,_=>rfl
 |d+1,t=>by
  unfold aw.at tT;rw[p9];cases h:Nat.beq t 0 with
  |true=>rfl
  |false=>
   rw[zfk];cases g:Nat.beq (Nat.mod t 2) 1 with
   |true=>exact Aj d _
   |false=>exact Aj d _
theorem Mr(N t:Nat):aw.at (pY N) t=zd1:=Aj _ _
theorem TR.start{args:List AV}{vs:List Value}(h:bT G args vs)(Y:Nat):
 TR (max Y args.length) G (zcX 0 args (pY (max Y args.length))) {tmps:=vs.toArray++Array.replicate (Y-vs.toArray.size) undef,defers:=[] }:=by
 have I:=h.1;refine⟨cp,fun t=>?_⟩;rw[D4];simp only[cN,fM,bz,wv];by_cases C:t<args.length
 .rw[ay C];have Z:args.getD t zd1=args[t]:=by simp[List.getD,C]
  rw[Z];have:(vs.toArray++Array.replicate (Y-vs.toArray.size) undef).getD t undef=vs[t]' ac:=by
   rw[gM,Array.getElem?_append_left cp];simp[show t<vs.length by omega]
  rw[this];exact h.2 t _ _ (aO C) (aO ac)
 .rw[ah C,Mr];have:(vs.toArray++Array.replicate (Y-vs.toArray.size) undef).getD t undef=undef:=by
   rw[gM,Array.getElem?_append_right cp];simp only[DN];split<;>rfl
  rw[this];exact tZ G
theorem Ms(h:R B H w G){N:Nat}{E:aw}{a:Act}(C:TR N G E a){r:ResultVar}{c:AV}(hr:zeC P E H r=some c):
 ∃v,(match r with
  | .tmp t=>pure (a.tmps.getD t undef)
  | .cell x t=>do loadVar t (<-asAddr (a.tmps.getD x undef)):Sem Value).run P w=.ok v w/\VR G c v:=by
 cases r with
 |tmp t=>
  simp only[zeC,aA]at hr;subst hr;exact⟨_,rfl,C.slots t⟩
 |cell x t=>
  simp only[zeC]at hr;have F:=C.slots x;obtain⟨v,i,g⟩:=Dn (P:=P) h F hr;refine⟨v,?_,g⟩;show(do loadVar t (<-asAddr (a.tmps.getD x undef)):Sem Value).run P w=.ok v w;generalize a.tmps.getD x undef=Z at F i⊢;generalize E.at x=z at F hr;cases F<;>simp[zep]at hr<;>simpa [Instr.loadAt,Instr.sureAddr,asAddr]using i
theorem D5(h:R B H w G){N:Nat}{E:aw}{a:Act}(C:TR N G E a):∀{rs:List ResultVar}{W:List AV},zet P E H rs=some W ->
 ∃vs,(rs.mapM (fun
  | .tmp t=>pure (a.tmps.getD t undef)
  | .cell x t=>do loadVar t (<-asAddr (a.tmps.getD x undef)):ResultVar->Sem Value)).run P w=.ok vs w/\bT G W vs
 |[],W,hr=>by
  simp only[zet,aA]at hr;subst hr;exact⟨[],aE,lO G⟩
 |r::rs,W,hr=>by
  simp only[zet]at hr;split at hr
  .rename_i c o i g;simp only[aA]at hr;subst hr;obtain⟨v,Z,Y⟩:=Ms (P:=P) h C i;obtain⟨vs,k1,zdp⟩:=D5 h C g;refine⟨v::vs,?_,iT Y zdp⟩;rw[List.mapM_cons];simp only[dN,Z,dU,k1,iy]
  .simp at hr
theorem D6(h:R B H w G){N:Nat}{E:aw}{a:Act}(C:TR N G E a){fn:Func}{r:AV}(hr:rR P fn.results.toList E H=.val r H'):
 H'=H/\∃v,(results fn a.tmps).run P w=.ok v w/\VR G r v:=by
 unfold rR at hr;split at hr
 .rename_i V Y;simp only[Res.val.injEq]at hr;obtain⟨rfl,rfl⟩:=hr;obtain⟨vs,i,g⟩:=D5 (P:=P) h C Y;refine⟨rfl,?_⟩;have Z:(results fn a.tmps).run P w=.ok (if h:vs.toArray.size=1 then vs.toArray[0]else .tuple vs.toArray) w:=by
   unfold results;rw[Array.mapM_eq_mapM_toList];simp only[dN,Sem.run_map];exact kD (fun r:Result (List Value)=>(r.andThen fun a W=>Result.ok a.toArray W).andThen fun a W=>Sem.run P (pure (if h:a.size=1 then a[0]else Value.tuple a)) W) i
  refine⟨_,Z,?_⟩
  match V,vs,g with
  |[],[],g=>exact .tup (vs:=[]) rfl aE
  |[c],[v],g=>exact g.of_cons.1
  |c::c'::V,v::v'::vs,g=>
   have:¬(v::v'::vs).toArray.size=1:=aE;rw[dif_neg this];exact .tup g.1 g.2
  |[],_::_,g=>have:=g.1;simp at this
  |[_],[],g=>have:=g.1;simp at this
  |[_],_::_::_,g=>have:=g.1;simp at this
  |_::_::_,[],g=>have:=g.1;simp at this
  |_::_::_,[_],g=>have:=g.1;simp at this
 .simp at hr
theorem Ak(M:Fit P){n:Nat}{ih:Task->Res}(J:Snd P B n ih){f:FuncId}{args:List AV}{r:AV}(K:zfp P ih f args H=.val r H'){vs:List Value}(h:R B H w G)(O:bT G args vs):
 (∃m,P.funcs[f]?=some m/\m.body.isSome=true)/\Calls P f vs.toArray w (fun e U=>∃v Y,e=.returned v/\VR Y r v/\Step B H.next G w H' U Y):=by
 unfold zfp at K;split at K
 .rename_i m W;split at K
  .rename_i c hc;refine⟨⟨m,W,by rw[hc];rfl⟩,calls_of_wp W hc ?_⟩;have V:=TR.start O m.ntmps;split at K
   .rename_i E1 H1 Z;refine oK (fun e I U L=>?_) (J.code _ _ _ _ _ _ _ _ Z G w _ h V rfl);obtain⟨rfl,Y,j,z,hd⟩:=L;obtain⟨rfl,v,i,g⟩:=D6 (P:=P) z.r j K;exact⟨hd,v,i,v,Y,rfl,g,z⟩
   .rename_i E1 H1 Z;refine oK (fun e I U L=>?_) (J.code _ _ _ _ _ _ _ _ Z G w _ h V rfl);obtain⟨rfl,Y,j,z,hd⟩:=L;obtain⟨rfl,v,i,g⟩:=D6 (P:=P) z.r j K;exact⟨hd,v,i,v,Y,rfl,g,z⟩
   .simp at K
  .simp at K
 .simp at K
theorem Al{n:Nat}{ih:Task->Res}(g:Snd P B n ih){f N:Nat}{b:Code}{r:Res}{x:AX}{F:aw}(K:k4 ih f N b r=.done x F H'):
 ∃V E1 H1,r=.done V E1 H1/\((V=.normal/\ih (.code f N b E1 H1)=.done x F H')\/(V≠.normal/\x=V/\F=E1/\H'=H1)):=by
 unfold k4 at K;split at K
 .rename_i E1 H1;exact⟨.normal,E1,H1,rfl,.inl ⟨rfl,K⟩⟩
 .rename_i Z;subst K;exact⟨x,F,H',rfl,.inr ⟨fun e=>by subst e;exact Z _ _ rfl,rfl,rfl,rfl⟩⟩
theorem Mt(fit:Fit P){n:Nat}{ih:Task->Res}(J:Snd P B n ih){f N:Nat}{c:Code}{E:aw}{x:AX}{A:aw}(K:step P B.cfg ih (.code f N c E H)=.done x A H')
 {a:Act} (h:R B H w G) (C:TR N G E a) (hd:a.defers=[]):Code.wp P c (iV B N H.next G w x A H') a w:=by
 cases c with
 |skip=>
  simp only[step,Res.done.injEq]at K;obtain⟨rfl,rfl,rfl⟩:=K;exact wp_skip ⟨rfl,G,C,jf h,hd⟩
 |region id ops draw=>
  cases draw with
  |false=>
   exact wp_region_list (zT fit J ops.toList K h C hd (fun _ _ _ hp=>hp))
  |true=>exact Mp fit J K h C hd
 |seq p q=>
  obtain⟨I,E1,H1,i,g⟩:=Al J K;refine wp_seq (oK (fun e O U L=>?_) (J.code _ _ _ _ _ _ _ _ i G w a h C hd));obtain⟨rfl,Z,j,z,Y⟩:=L;rcases g with⟨rfl,g⟩|⟨V,rfl,rfl,rfl⟩
  .exact oK (fun e a w L=>wD z L) (J.code _ _ _ _ _ _ _ _ g Z U O z.r j Y)
  .cases x with
   |normal=>exact(V rfl).elim
   |exit id=>exact⟨rfl,Z,j,z,Y⟩
   |ret=>exact⟨rfl,Z,j,z,Y⟩
 |cond y p q=>
  simp only[step,pZ]at K;split at K
  .rename_i M;have W:=zS C M;have:a.eval y=.bool true:=by generalize a.eval y=v at W;cases W;rfl
   exact wp_cond_true this (J.code _ _ _ _ _ _ _ _ K G w a h C hd)
  .rename_i M;have W:=zS C M;have:a.eval y=.bool false:=by generalize a.eval y=v at W;cases W;rfl
   exact wp_cond_false this (J.code _ _ _ _ _ _ _ _ K G w a h C hd)
  .simp at K
 |block id p=>
  simp only[step]at K;cases i:ih (.code f N p E H)with
  |done I E1 H1=>
   rw[i]at K;refine wp_block (oK (fun e O U L=>?_) (J.code _ _ _ _ _ _ _ _ i G w a h C hd));obtain⟨rfl,Z,j,z,Y⟩:=L;cases I with
   |normal=>
    simp only[zfm,Res.done.injEq]at K;obtain⟨rfl,rfl,rfl⟩:=K;exact⟨rfl,Z,j,z,Y⟩
   |ret=>
    simp only[zfm,Res.done.injEq]at K;obtain⟨rfl,rfl,rfl⟩:=K;exact⟨rfl,Z,j,z,Y⟩
   |exit F=>
    simp only[zfm]at K;cases W:Nat.beq F id with
    |true=>
     rw[W]at K;simp only[Res.done.injEq]at K;obtain⟨rfl,rfl,rfl⟩:=K;have:=gK W;subst this;simp only[zQ,Exit.inBlock,bS];exact⟨rfl,Z,j,z,Y⟩
    |false=>
     rw[W]at K;simp only[Res.done.injEq]at K;obtain⟨rfl,rfl,rfl⟩:=K;have:=zp W;simp only[zQ,Exit.inBlock];rw[ah this];exact⟨rfl,Z,j,z,Y⟩
  |val v H1=>rw[i]at K;simp[zfm]at K
  |fail=>rw[i]at K;simp[zfm]at K
 |loop p=>
  refine wp_loop_rounds (n+1) ?_;rw[rounds_succ];obtain⟨I,E1,H1,i,g⟩:=Al J K;refine oK (fun e O U L=>?_) (J.code _ _ _ _ _ _ _ _ i G w a h C hd);obtain⟨rfl,Z,j,z,Y⟩:=L;rcases g with⟨rfl,g⟩|⟨V,rfl,rfl,rfl⟩
  .exact zR (fun e a w L=>wD z L) (J.loop _ _ _ _ _ _ _ _ g Z U O z.r j Y)
  .cases x with
   |normal=>exact(V rfl).elim
   |exit id=>exact⟨rfl,Z,j,z,Y⟩
   |ret=>exact⟨rfl,Z,j,z,Y⟩
 |exit id=>
  simp only[step,Res.done.injEq]at K;obtain⟨rfl,rfl,rfl⟩:=K;exact wp_exit ⟨rfl,G,C,jf h,hd⟩
 |ret=>
  simp only[step,Res.done.injEq]at K;obtain⟨rfl,rfl,rfl⟩:=K;exact wp_ret ⟨rfl,G,C,jf h,hd⟩
 |rangeFunc _ _ _ _=>simp[step]at K
 |scope _=>simp[step]at K
 |label _=>simp[step]at K
 |goto _=>simp[step]at K
 |refuse _=>simp[step]at K
theorem Mu(M:Fit P){n:Nat}{ih:Task->Res}(J:Snd P B n ih){f N:Nat}{c:Code}{E:aw}{x:AX}{F:aw}(W:step P B.cfg ih (.code f N (.loop c) E H)=.done x F H')
 {a:Act} (h:R B H w G) (C:TR N G E a) (hd:a.defers=[]):Code.rounds P c (iV B N H.next G w x F H') (n+1) a w:=by
 rw[rounds_succ];obtain⟨U,E1,H1,i,g⟩:=Al J W;refine oK (fun e O V L=>?_) (J.code _ _ _ _ _ _ _ _ i G w a h C hd);obtain⟨rfl,Z,j,z,Y⟩:=L;rcases g with⟨rfl,g⟩|⟨K,rfl,rfl,rfl⟩
 .exact zR (fun e a w L=>wD z L) (J.loop _ _ _ _ _ _ _ _ g Z V O z.r j Y)
 .cases x with
  |normal=>exact(K rfl).elim
  |exit id=>exact⟨rfl,Z,j,z,Y⟩
  |ret=>exact⟨rfl,Z,j,z,Y⟩
theorem D7(fit:Fit P)(j:Mq P B):∀n,Snd P B n (ev P B.cfg n)
 |0=>⟨fun _ _ _ _ _ h=>by simp[ev]at h,fun _ _ _ _ _ _ _ _ h=>by simp[ev]at h,fun _ _ _ _ _ _ _ _ h=>by simp[ev]at h⟩
 |n+1=>by
  have J:=D7 fit j n;have he:ev P B.cfg (n+1)=step P B.cfg (ev P B.cfg n):=rfl;rw[he];refine⟨fun f args H r H' K G w vs h L=>?_,fun f N c E H x E' H' K G w a h C hd=>Mt fit J K h C hd,fun f N c E H x E' H' K G w a h C hd=>Mu fit J K h C hd⟩;have i:∀{G:Gh}{args:List AV}{vs:List Value}{H:Hp}{m:AV},B.cfg.call f args=some m->R B H w G->bT G args vs ->
   (∃U,P.funcs[f]?=some U/\U.body.isSome=true)/\Calls P f vs.toArray w (fun e W=>∃v Y,e=.returned v/\VR Y m v/\Step B H.next G w H W Y):=fun{G args vs H m} hr h L=>by
   obtain⟨I,F⟩:=j f args m hr;refine⟨I,(F G w vs h.val h.frz L).mono fun e W V=>?_⟩;obtain⟨v,F',rfl,Z,hg⟩:=V;exact⟨v,_,rfl,Z,h.grow hg⟩
  have A:∀{G:Gh}{args:List AV}{vs:List Value}{H H':Hp}{r:AV},k5 P B.cfg (ev P B.cfg n) f args H=.val r H'->R B H w G->bT G args vs ->
   (∃U,P.funcs[f]?=some U/\U.body.isSome=true)/\Calls P f vs.toArray w (fun e W=>∃v Y,e=.returned v/\VR Y r v/\Step B H.next G w H' W Y):=fun{G args vs H H' r} K h L=>by
   unfold k5 at K;split at K
   .unfold tU at K;split at K
    .rename_i g H1 O;split at K
     .rename_i m hr;simp only[Res.val.injEq]at K;obtain⟨rfl,rfl⟩:=K;obtain⟨G1,s1,zc0⟩:=wJ (wK 100) args vs H g H1 G h L O;obtain⟨I,F⟩:=i hr s1.r zc0;refine⟨I,F.mono fun e W V=>?_⟩;obtain⟨v,Y,rfl,Z,z⟩:=V;exact⟨v,Y,rfl,Z,s1.trans z⟩
     .exact Ak fit J K h L
    .exact Ak fit J K h L
   .exact Ak fit J K h L
  simp only[step]at K;split at K
  .rename_i m hr;simp only[Res.val.injEq]at K;obtain⟨rfl,rfl⟩:=K;exact i hr h L
  .unfold rS at K;split at K
   .rename_i v1 H1 hz M;obtain⟨g1,g2⟩:=A M h L;refine⟨g1,g2.mono fun e W V=>?_⟩;obtain⟨v,Y,rfl,Z,z⟩:=V;cases o:fB 100 v1 H1 with
    |none=>rw[o]at K;simp[jR]at K
    |some p=>
     obtain⟨q,H2⟩:=p;rw[o]at K;simp only[jR,Res.val.injEq]at K;obtain⟨rfl,rfl⟩:=K;obtain⟨G2,s2,r2⟩:=wK 100 v1 H1 _ _ Y v z.r Z o;exact⟨v,G2,rfl,r2,z.trans s2⟩
   .exact A K h L
end
open Go Go.RowKit Go.WideShapes Go.ChangeShapes
theorem Mv(r:Nat):zdw.get r=none:=rfl
theorem R.start{w:World}{G:Gh}{cfg:Cfg}(j:∀b o v,G.F b o=some v->w.cell? ⟨b,o,none⟩=some v)(z:∀r,G.β r=none)(L:kA cfg.dec G.ρ):R ⟨w.heap.size,G.ρ,cfg⟩ zdw w G:=by
 refine⟨aM _,?_,?_,?_,?_,?_,?_,?_,?_,?_,j,rfl,L,?_⟩<;>intros<;>simp_all
theorem sc{g:AV->Option AV}:∀{W F:List AV},iceL g W=some F->F.length=W.length/\∀(i:Nat) d,F[i]?=some d->∃c,W[i]?=some c/\g c=some d
 |[],F,h=>by
  simp only[iceL,aA]at h;subst h;exact⟨rfl,aE⟩
 |c::W,F,h=>by
  simp only[iceL]at h;split at h
  .rename_i d j Z Y;simp only[aA]at h;subst h;obtain⟨m,U⟩:=sc Y;refine⟨by simp[m],fun i e L=>?_⟩;cases i with
   |zero=>simp at L;subst L;exact⟨c,rfl,Z⟩
   |succ i=>exact U i e oI
  .simp at h
theorem D8{g:AV->Option AV}:∀{W F:List (List AV)},oH g W=some F->F.length=W.length/\∀(i:Nat) d,F[i]?=some d->∃c,W[i]?=some c/\iceL g c=some d
 |[],F,h=>by
  simp only[oH,aA]at h;subst h;exact⟨rfl,aE⟩
 |c::W,F,h=>by
  simp only[oH]at h;split at h
  .rename_i d j Z Y;simp only[aA]at h;subst h;obtain⟨m,U⟩:=D8 Y;refine⟨by simp[m],fun i e L=>?_⟩;cases i with
   |zero=>simp at L;subst L;exact⟨c,rfl,Z⟩
   |succ i=>exact U i e oI
  .simp at h
theorem ut{H:Hp}{G G2:Gh}{w:World}(J:G2.ρ=G.ρ)(hF:∀b o v,G.F b o=some v->G2.F b o=some v)
 (A:∀r b o x I imm tip,G.β r=some (b,o,x)->H.get r=some (.cells I imm tip)->gz G w b o I/\∀j v,w.cell? ⟨b,o+j,none⟩=some v->G2.F b (o+j)=some v) :
 ∀(n:Nat) (v:AV) (x:Value) (q:AV),VR G v x->iceV H n v=some q->VR G2 q x
 |0,_,_,_,_,h=>by simp[iceV]at h
 |n+1,v,x,q,hv,h=>by
  have C:∀{I ds:List AV}{vs:List Value},bT G I vs->iceL (iceV H n) I=some ds->bT G2 ds vs:=fun{I ds vs} Y g=>by
   obtain⟨h1,h2⟩:=sc g;refine⟨by rw[h1];exact Y.1,fun i d u hd hu=>?_⟩;obtain⟨c,hc,hcd⟩:=h2 i d hd;exact ut J hF A n c u d (Y.2 i c u hc hu) hcd
  cases hv with
  |int k a=>simp only[iceV,aA]at h;subst h;exact .int _ _
  |sx k e=>simp only[iceV,aA]at h;subst h;rw[<-J];exact .sx _ _
  |bool b=>simp only[iceV,aA]at h;subst h;exact .bool _
  |str s l hs=>simp only[iceV,aA]at h;subst h;exact .str _ _ hs
  |nilP=>simp only[iceV,aA]at h;subst h;exact .nilP
  |nilM=>simp only[iceV,aA]at h;subst h;exact .nilM
  |nilF=>simp only[iceV,aA]at h;subst h;exact .nilF
  |nilS=>simp only[iceV,aA]at h;subst h;exact .nilS
  |ptr _=>simp[iceV]at h
  |iptr _ _ _=>simp[iceV]at h
  |map _=>simp[iceV]at h
  |clo _ _=>simp[iceV]at h
  |agg hl Y=>
   simp only[iceV]at h;split at h
   .rename_i ds hds;simp only[aA]at h;subst h;have:=C ⟨hl,Y⟩ hds;exact .agg this.1 this.2
   .simp at h
  |tup hl Y=>
   simp only[iceV]at h;split at h
   .rename_i ds hds;simp only[aA]at h;subst h;have:=C ⟨hl,Y⟩ hds;exact .tup this.1 this.2
   .simp at h
  |lst0 a cap=>
   simp only[iceV,oH,aA]at h;subst h;exact .lst0 _ _
  |lst vs hz hFx hvx hc=>
   rename_i xs b o cap z;simp only[iceV]at h;split at h
   .rename_i ys hys;simp only[aA]at h;subst h;obtain⟨h1,h2⟩:=D8 hys;rw[<-h1];refine .lst vs (z:=z) (fun i Z hr=>?_) (fun i j g hj=>hF _ _ _ (hFx i j (by rw[<-h1];exact g) hj)) (fun i j Z c hr hcj=>?_) (by rw[h1];exact hc)
    .obtain⟨c,L,hc2⟩:=h2 i Z hr;rw[(sc hc2).1];exact hz i c L
    .obtain⟨c0,L,hc2⟩:=h2 i Z hr;obtain⟨c1,hc3,hc4⟩:=(sc hc2).2 j c hcj;exact ut J hF A n c1 (vs i j) c (hvx i j c0 c1 L hc3) hc4
   .simp at h
  |sl hr hl hcx=>
   rename_i r M W z b o xx cap;simp only[iceV]at h;split at h
   .rename_i I imm tip hg;split at h
    .rename_i l hil;split at h
     .rename_i O;simp only[aA]at h;subst h;obtain⟨hh,hnew⟩:=A r b o xx I imm tip hr hg;obtain⟨h1,h2⟩:=sc hil;have F:∀(m:Nat) c,l[m]?=some c->∃v,w.cell? ⟨b,o+M+m,none⟩=some v/\VR G2 c v:=fun m c hm=>by
       obtain⟨c0,K,L⟩:=h2 m c hm;rw[mw]at K;split at K
       .rw[nI]at K;obtain⟨v,V,hv2⟩:=hh _ _ K;exact⟨v,by rw[hZ];exact V,ut J hF A n c0 v c hv2 L⟩
       .simp at K
      have hlc:=Ai z W l;have hin:∀i j,i<W->j<z->i*z+j<l.length:=fun i j g hj=>by
       rw[O]
       calc i*z+j<i*z+z:=by omega
        _=(i+1)*z:=by rw[lh,wH]
        _<=W*z:=r4 _ g
      have key:VR G2 (.lst (zeg z W l)) (.slice (some ⟨b,o+M,none⟩) (zeg z W l).length cap):=by
       refine .lst (fun i j=>(w.cell? ⟨b,o+M+(i*z+j),none⟩).getD undef) (z:=z) (fun i Z U=>(ur z W l i Z O U).1) (fun i j g hj=>?_) (fun i j Z c U hcj=>?_) (by rw[hlc];exact hl)
       .rw[hlc]at g;have hm:=hin i j g hj;obtain⟨v,V,_⟩:=F (i*z+j) _ (aO hm);rw[V];have:=hnew (M+(i*z+j)) v (by rw[<-hZ];exact V);rw[show o+M+i*z+j=o+(M+(i*z+j)) by omega];exact this
       .have hm:=(ur z W l i Z O U).2 j c hcj;obtain⟨v,V,hv2⟩:=F (i*z+j) c hm;rw[V];exact hv2
      rw[hlc]at key;exact key
     .simp at h
    .simp at h
   .simp at h
theorem Mw(w:World){G G2:Gh}(C:G2.ρ=G.ρ)(g:∀b o v,G.F b o=some v->G2.F b o=some v){m:Nat}{args:List AV}(h:nG m args=true){vs:List Value}(Y:bT G args vs):bT G2 args vs:=by
 unfold nG at h;split at h
 .rename_i U L;have:=zfv h;subst this;obtain⟨I,M⟩:=sc L;refine⟨Y.1,fun i c v hc K=>?_⟩;obtain⟨c0,O,Z⟩:=M i c hc;rw[hc]at O;simp only[aA]at O;subst O;exact ut (H:=zdw) (w:=w) C g (fun r b o x J W V _ A=>by simp[Mv]at A) m c v c (Y.2 i c v hc K) Z
 .simp at h
theorem Am{P:Program}{ih:Task->Res}{f:FuncId}{args:List AV}{H H':Hp}{r:AV}(h:zfp P ih f args H=.val r H'):∃m,P.funcs[f]?=some m/\m.body.isSome=true:=by
 unfold zfp at h;split at h
 .rename_i m Z;split at h
  .rename_i c z;exact⟨m,Z,by simp[z]⟩
  .simp at h
 .simp at h
theorem My{P:Program}{cfg:Cfg}{ρ:Nat->Int}(O:∀f args r,cfg.call f args=some r->bh P ρ f args r){n:Nat}{f:FuncId}{args:List AV}{H H':Hp}{r:AV}(h:ev P cfg n (.call f args H)=.val r H'):
 ∃m,P.funcs[f]?=some m/\m.body.isSome=true:=by
 cases n with
 |zero=>simp[ev]at h
 |succ n=>
  have Y:ev P cfg (n+1)=step P cfg (ev P cfg n):=rfl;rw[Y]at h;simp only[step]at h;split at h
  .rename_i Z hr;exact(O f args Z hr).1
  .have A:∀{r:AV}{H':Hp},k5 P cfg (ev P cfg n) f args H=.val r H'->∃m,P.funcs[f]?=some m/\m.body.isSome=true:=fun{r H'} h=>by
    unfold k5 at h;split at h
    .unfold tU at h;split at h
     .split at h
      .rename_i hr;exact(O _ _ _ hr).1
      .exact Am h
     .exact Am h
    .exact Am h
   unfold rS at h;split at h
   .rename_i L;exact A L
   .exact A h
theorem An{P:Program}(fit:Fit P){cfg:Cfg}{ρ:Nat->Int}(J:kA cfg.dec ρ)(U:∀f args r,cfg.call f args=some r->bh P ρ f args r){n m k:Nat}{f:FuncId}{args:List AV}{r:AV}
 (I:nG k args=true) (h:tV P cfg n m f args=some r):bh P ρ f args r:=by
 unfold tV at h;split at h
 .rename_i v0 H' M;refine⟨My U M,fun G w vs C Z L=>?_⟩;subst C;have F:bT {G with β:=fun _=>none} args vs:=Mw w (G:=G) (G2:={G with β:=fun _=>none}) rfl (fun _ _ _ h=>h) I L;have V:R ⟨w.heap.size,G.ρ,cfg⟩ zdw w {G with β:=fun _=>none}:=R.start (G:={G with β:=fun _=>none}) Z (fun _=>rfl) J;refine((D7 (B:=⟨w.heap.size,G.ρ,cfg⟩) fit U n).call f args zdw _ H' M _ w vs V F).2.mono fun e W A=>?_;obtain⟨x,G',rfl,hx,K⟩:=A;have O:Below w.heap.size w W:=⟨K.fr.os,K.fr.tape,K.fr.output,K.fr.size,fun k z=>K.fr.block k z (fun r b o x hr=>by simp at hr)⟩;refine⟨x,fun b o=>if b<w.heap.size then G.F b o else W.cell? ⟨b,o,none⟩,rfl,?_,O,fun b o v L=>?_,fun b o v L=>?_,fun b o v L=>?_⟩
  .refine ut (G:=G') (w:=W) (H:=H') ?_ (fun b o v L=>?_) (fun r b o x cs g Y hr hg=>?_) m v0 x r hx h
   .exact K.ext.ρ.symm
   .rcases K.icy b o v L with i|i
    .show(if b<w.heap.size then G.F b o else W.cell? ⟨b,o,none⟩)=some v;rw[ay (lg (Z b o v i))];exact i
    .show(if b<w.heap.size then G.F b o else W.cell? ⟨b,o,none⟩)=some v;rw[ah (by have:w.heap.size<=b:=i;omega)];exact K.r.frz b o v L
   .refine⟨K.r.cells r b o x cs g Y hr hg,fun j v hj=>?_⟩;have i:w.heap.size<=b:=(K.r.lt r b o x hr).1;show(if b<w.heap.size then G.F b (o+j)else W.cell? ⟨b,o+j,none⟩)=some v;rw[ah ac];exact hj
  .rw[ay (lg (Z b o v L))];exact L
  .split at L
   .exact .inl L
   .exact .inr ac
  .split at L
   .rename_i hb;rw[(Ah O hb).1];exact Z b o v L
   .exact L
 .simp at h
theorem D9{P:Program}{ρ:Nat->Int}{f:FuncId}{args:List AV}{b:Bool}(h:bh P ρ f args (.bool b)){vs:List Value}{w:World}{F:Nat->Nat->Option Value}
 (g:∀b o v,F b o=some v->w.cell? ⟨b,o,none⟩=some v) (L:bT ⟨fun _=>none,F,ρ⟩ args vs) :
 Calls P f vs.toArray w (fun e W=>e=.returned (.bool b)/\Below w.heap.size w W):=by
 refine(h.2 ⟨fun _=>none,F,ρ⟩ w vs rfl g L).mono fun e W Y=>?_;obtain⟨v,I,rfl,hr,A⟩:=Y;cases hr;exact⟨rfl,A.below⟩
def Ao:Res->Bool
 | .val (.bool true) _=>true
 |_=>false
theorem Mz{P:Program}(fit:Fit P){cfg:Cfg}{ρ:Nat->Int}(L:kA cfg.dec ρ)(O:∀f args r,cfg.call f args=some r->bh P ρ f args r){n k:Nat}{f:FuncId}{args:List AV}
 (V:nG k args=true) (h:Ao (ev P cfg n (.call f args zdw))=true):bh P ρ f args (.bool true):=by
 refine An fit L O (n:=n) (m:=1) V ?_;unfold tV;unfold Ao at h;split at h
 .rename_i H Z;rw[Z];rfl
 .simp at h
theorem MA{P:Program}(fit:Fit P){cfg:Cfg}{ρ:Nat->Int}(L:kA cfg.dec ρ)(O:∀f args r,cfg.call f args=some r->bh P ρ f args r){n m k:Nat}{f:FuncId}{args:List AV}{r:AV}
 (V:nG k args=true) (h:zm P cfg n m f args r=true):bh P ρ f args r:=by
 unfold zm at h;split at h
 .rename_i q K;rw[<-AV.beq_eq h];exact An fit L O V K
 .simp at h
theorem ll(ρ:Nat->Int):kA (fun _ _ _=>none) ρ:=fun _ _ _ _ _ h=>iX
def jV(P:Program)(ρ:Nat->Int):List (FuncId×List AV×AV)->Prop
 |[]=>True
 |p::l=>bh P ρ p.1 p.2.1 p.2.2/\jV P ρ l
theorem wL{P:Program}{ρ:Nat->Int}:∀{l:List (FuncId×List AV×AV)},jV P ρ l->∀f args r,p6 l f args=some r->bh P ρ f args r
 |[],_,_,_,_,h=>by simp[p6]at h
 |p::l,hk,f,args,r,h=>by
  simp only[p6]at h;split at h
  .rename_i j;split at h
   .rename_i F;simp only[aA]at h;subst h;rw[<-gK j,<-zfv F];exact hk.1
   .exact wL hk.2 f args r h
  .exact wL hk.2 f args r h
def uu:List (Nat×Nat×Plan)->FuncId->Nat->Plan
 |[],_,_=>.text
 |p::l,f,id=>match Nat.beq p.1 f with
  |true=>match Nat.beq p.2.1 id with
   |true=>p.2.2
   |false=>uu l f id
  |false=>uu l f id
def MB(pls:List (Nat×Nat×Plan))(l:List (FuncId×List AV×AV)):Cfg:={keep:=fun _=>false,call:=p6 l,ice:=fun f=>l.any fun p=>Nat.beq p.1 f,plan:=uu pls}
theorem zfA{P:Program}(fit:Fit P){ρ:Nat->Int}{pls:List (Nat×Nat×Plan)}{l:List (FuncId×List AV×AV)}(I:jV P ρ l){n m k:Nat}{f:FuncId}{args:List AV}{r:AV}
 (V:nG k args=true) (h:zm P (MB pls l) n m f args r=true):bh P ρ f args r:=MA fit (ll ρ) (wL I) V h
def Ap:Cfg:={keep:=fun _=>false}
theorem MC{P:Program}{ρ:Nat->Int}:∀f args r,Ap.call f args=some r->bh P ρ f args r:=fun _ _ _ h=>by simp[Ap]at h
def Ea(P:Program):Bool:=P.funcs.all (fun m=>!(m.body.isSome&&m.name == "runtime.NumGoroutine"))&&P.follows .mixedOrders
theorem Fit.of{P:Program}(h:Ea P=true):Fit P:=by
 simp only[Ea,dB]at h;refine⟨fun f m j z=>?_,h.2⟩;have i:=h.1;rw[zZ]at i;have:=i m (by exact Array.mem_of_getElem? j);simpa [z]using this
theorem closed{P:Program}(fit:Fit P){n f:Nat}(h:Ao (ev P Ap n (.call f [] zdw))=true){w:World}:
 Calls P f #[] w (fun e W=>e=.returned (.bool true)/\Below w.heap.size w W):=
 D9 (ρ:=fun _=>0) (F:=fun _ _=>none) (Mz fit (ll _) MC (k:=1) rfl h) (fun _ _ _ h=>iX) (lO _)
section
variable {H:Type} {enc:TypeId × Value -> H} {P:Program}
theorem MD{f:Func}{s:ChangeSpec}{apart M V L:Bool}{W J:World}{args:Array Value}{v:Value}{F I:List (DataW H)}{Z pa pv:List MemPlace}
 (m:DataW.Whole enc P f.params.toList s.vars apart W args.toList F I Z)
 (U:∀(b:Nat) (K:Nat->Bool) (hd:Bool),DataW.TrodAll enc P J b K hd f.resultTypes.toList (v.resultList f.resultTypes.size) (s.fn H (F++I)).results [])
 (g:∀K:Nat->Bool,(∀p∈Z,K p.block=true)->DataW.TrodAll enc P J 0 K true f.params.toList args.toList (s.fn H (F++I)).args pa)
 (Y:∀K:Nat->Bool,(∀p∈Z,K p.block=true)->DataW.TrodVars enc P J K s.vars (s.fn H (F++I)).vars pv)
 (O:Z=pa++pv) (hb:Below W.heap.size W J)
 (i:∀(j:Nat) (t:TypeId) (r:Value),f.resultTypes[j]?=some t->(v.resultList f.resultTypes.size)[j]?=some r->Value.okWide P J .any 0 t r) :
 s.post enc P f apart M V L W args v J:=by
 have z:∀p∈Z,p.block<W.heap.size:=fun p hp=>m.lt p hp;have C:∀p∈Z,(fun b=>decide (b<W.heap.size)) p.block=true:=fun p hp=>by simpa using z p hp
 refine⟨F,I,Z,[],pa,pv,m,U _ _ _,g _ C,Y _ C,World.keptBut_mono (fun p hp=>⟨hp,?_⟩) (hb.frame (·∈ Z)),fun _=>?_⟩
 .rw[O,uh]at hp;exact Or.inr hp
 .obtain⟨_,_,_,_,_,hz,hn⟩:=m;refine⟨i,_,_,([]++pa)++pv,⟨[]++pa,pv,trodAll_append (g _ (fun _ _=>rfl)) (U _ _ _),Y _ (fun _ _=>rfl),rfl,?_,?_⟩,?_⟩
  .intro b A hp;have o:MemPlace.cell b A∈Z:=by rw[O];simpa using hp
   rw[hb.frozen (z _ o)];exact hz b A o
  .intro ha;have:=hn ha;rw[O]at this;simpa using this
  .intro p hp _;rw[O];simpa using hp
end
end Go.Ab
