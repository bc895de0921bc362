/- Parts: AbDraw, AbPlan, AbCon, AbSound, AbLaw. -/
import Derived.Below
import Derived.ChangeSame
import Derived.Orders
import Derived.Test.YtpbcimfiofmoeaaGreatMCC
set_option linter.unusedSimpArgs false
set_option linter.unusedVariables false
set_option linter.unusedSectionVars false
set_option linter.defProp false
set_option maxHeartbeats 32000000
namespace Go.Ab
set_option maxRecDepth 20000
open Go
theorem j8{P:Prop}(h:P:=by simpa using h):P:=h
theorem oL{P:Prop}(h:P:=by rw[e]):P:=h
theorem lY{P:Prop}(h:P:=by simp at h):P:=h
theorem KK{P:Prop}(h:P:=by rw[Z.size];exact(List.getElem?_eq_some_iff.1 O).1):P:=h
theorem KL{P:Prop}(h:P:=by rw[hs];have:=(List.getElem?_eq_some_iff.1 Y).1;simpa using this):P:=h
theorem FQ{P:Prop}(h:P:=by rw[List.length_drop];omega):P:=h
def fX:=@List.mem_cons
def mX:=@List.mem_append
def FR:=@List.mem_flatMap
def lZ:=@List.mem_range
def lC:=@Bool.not_true
def gm:=@Bool.false_or
def ua:=@List.mem_filter
def rF:=@Array.getElem?_eq_getElem
def nM:=@Bool.not_eq_true'
def FS:=@Array.all_eq_true_iff_forall_mem
def pN:=@Bool.or_eq_true
def kV:=@List.mem_map
def zd:=@Nat.lt_or_ge
def FT:=@Array.getElem?_eq_none
def sI:=@List.any_eq_false
def B0:=@Nat.lt_trichotomy
def ze:=@List.eq_nil_iff_forall_not_mem
def lD:=@List.getElem?_eq_none
def KM:=@Array.getElem?_replicate
def FU:=@List.singleton_append
def nN:=@Bool.true_or
def ee:=@List.mem_cons_self
def el:=@List.mem_cons_of_mem
def l0:=@List.map_append
def FV:=@List.mem_iff_getElem?
def sJ:=@List.map_map
def vt:=@Bool.and_self
def zf:=@Nat.one_mul
def j9:=@true_and
end Go.Ab
namespace Go.Ab
set_option maxRecDepth 20000
open Go Go.RowKit
theorem FW{i:Nat}:∀{l m:List Nat},i∈wJ m l↔i∈m\/i∈l
 |[],m=>by simp[wJ]
 |x::xs,m=>by
  simp only[wJ];split
  .rename_i h;have hx:x∈m:=j8;rw[FW,fX];exact⟨fun h=>h.elim .inl (fun h=>.inr (.inr h)),fun h=>h.elim .inl (fun h=>h.elim (fun e=>.inl (by subst e;exact hx)) .inr)⟩
  .rw[FW,fX,fX];exact⟨fun h=>h.elim (fun h=>h.elim (fun e=>.inr (.inl e)) .inl) (fun h=>.inr (.inr h)),fun h=>h.elim (fun h=>.inl (.inr h)) (fun h=>h.elim (fun e=>.inl (.inl e)) .inr)⟩
theorem U9{i:Nat}{l:List Nat}:i∈yE l↔i∈l:=by unfold yE;rw[FW];simp
theorem FX:∀(l:List Oper) (m:List (List Nat)) (i:Nat),i<m.length->(i7 l m).getD i []=m.getD i []
 |[],m,i,_=>rfl
 |o::l,m,i,h=>by
  simp only[i7];rw[FX l _ i b9];simp[List.getD,jG h]
theorem KN:∀(l:List Oper) (m:List (List Nat)) (j:Nat) (o:Oper),l[j]?=some o ->
 ∃Z:List (List Nat),Z.length=m.length+j/\(∀i,i<Z.length->(i7 l m).getD i []=Z.getD i [])/\(i7 l m).getD (m.length+j) []=yE (preds o++(preds o).flatMap fun i=>Z.getD i [])
 |[],_,_,_,h=>by simp at h
 |o::l,m,0,o',h=>by
  simp at h;subst h;refine⟨m,rfl,fun i I=>FX _ _ i I,?_⟩;simp only[i7,sG];rw[FX l _ m.length ax];simp[List.getD]
 |o::l,m,j+1,o',h=>by
  obtain⟨Z,Y,V,z⟩:=KN l (m++[yE (preds o++(preds o).flatMap fun i=>m.getD i [])]) j o' j8;simp only[fj,mU]at Y z;refine⟨Z,ac,V,?_⟩;simp only[i7];rw[show m.length+(j+1)=m.length+(0+1)+j by omega];exact z
theorem Va{l:List Oper}{j:Nat}{o:Oper}(J:l[j]?=some o)(C:∀p∈preds o,p<j){i:Nat}:
 i∈(i7 l []).getD j []↔i∈preds o\/∃p∈preds o,i∈(i7 l []).getD p []:=by
 obtain⟨Y,m,V,z⟩:=KN l [] j o J;simp only[eW,bL]at m z;rw[z,U9,mX,FR];constructor
 .rintro(h|⟨p,Z,K⟩)
  .exact .inl h
  .exact .inr ⟨p,Z,by rw[V p (by rw[m];exact C p Z)];exact K⟩
 .rintro(h|⟨p,Z,K⟩)
  .exact .inl h
  .exact .inr ⟨p,Z,by rw[<-V p (by rw[m];exact C p Z)];exact K⟩
structure CalmD (l:List Oper):Prop where
 lt:∀j o,l[j]?=some o->∀p∈preds o,p<j
 guard:∀j o g b,l[j]?=some o->o.guard=some (g,b)->g∈(i7 l []).getD j []
 clash:∀i j p q,i<j->l[i]?=some p->l[j]?=some q->Ab.clash l p q=true->i∈(i7 l []).getD j []
theorem Vb{l:List Oper}(h:nJ l=true):CalmD l:=by
 unfold nJ at h;simp only[iP,lZ]at h;have M:∀j o,l[j]?=some o->(∀p∈preds o,p<j)/\(∀g b,o.guard=some (g,b)->g∈(i7 l []).getD j [])/\∀i p,i<j->l[i]?=some p->Ab.clash l p o=true->i∈(i7 l []).getD j []:=fun j o J=>by
  have:=h j (fw.1 J).1;rw[J]at this;simp only[co,iP,jJ,lZ]at this;obtain⟨⟨m,Z⟩,V⟩:=this;refine⟨m,fun g b K=>?_,fun i p I hp hc=>?_⟩
  .rw[K]at Z;simpa using Z
  .have:=V i I;rw[hp]at this;simp only[hc,lC,gm]at this;simpa using this
 exact⟨fun j o J=>(M j o J).1,fun j o g b J=>(M j o J).2.1 g b,fun i j p q z I Y=>(M j q Y).2.2 i p z I⟩
theorem FY{l:List Oper}(z:CalmD l){D:Nat->Prop}(V:∀j,D j->∀o,l[j]?=some o->∀p∈preds o,D p):
 ∀(j:Nat) o,l[j]?=some o->(∀p∈preds o,D p)->∀i∈(i7 l []).getD j [],D i:=by
 intro j;induction j using Nat.strongRecOn with
 |_ j ih=>
  intro o J hp i I;rcases(Va J (z.lt j o J)).1 I with h|⟨p,Z,K⟩
  .exact hp i h
  .have C:=z.lt j o J p Z;have M:=(fw.1 J).1;have Y:l[p]?=some (l[p]' ac):=aT ac;exact ih p C _ Y (fun q U=>V p (hp p Z) _ Y q U) i K
theorem pO{l:List Oper}{i:Nat}:i∈jX l↔∃o,l[i]?=some o/\nI o=true:=by
 unfold jX;rw[ua,lZ];constructor
 .rintro⟨m,j⟩;rw[aT m]at j;exact⟨_,aT m,j⟩
 .rintro⟨o,m,j⟩;exact⟨(fw.1 m).1,by rw[m];exact j⟩
theorem mF{ops:Array Oper}{M:Array Bool}{i:Nat}:i∈Region.ready .any ops M↔∃o,ops.toList[i]?=some o/\M.getD i true=false/\∀p∈preds o,M.getD p false=true:=by
 unfold Region.ready preds;rw[ua,lZ,yY];constructor
 .rintro⟨m,j⟩;rw[rF m]at j;simp only[co,nM,oH,bI,FS,pN]at j;refine⟨_,rF m,j.1,fun p hp=>?_⟩;simp only[kV,ua]at hp;obtain⟨e,⟨Z,C⟩,rfl⟩:=hp;rcases j.2 e su with h|h
  .rw[C]at h;simp at h
  .exact h
 .rintro⟨o,m,j,z⟩;have I:i<ops.size:=by
   rcases zd i ops.size with h|h
   .exact h
   .rw[FT h]at m;simp at m
  refine⟨I,?_⟩;rw[m];simp only[co,nM,oH,bI,FS,pN];refine⟨j,fun e Y=>?_⟩;cases V:Region.binds .any e with
  |false=>exact .inl rfl
  |true=>exact .inr (z e.on (by simp only[kV,ua];exact⟨e,⟨sw,V⟩,rfl⟩))
theorem FZ{l:List Oper}:∀(k s:Nat),s+k=l.length->∃m,s<=m/\m<=l.length/\(m=l.length\/m∈jX l)/\∀j,s<=j->j<m->j∉jX l
 |0,s,hs=>⟨s,aB _,ac,.inl ac,fun j Y Z=>ac⟩
 |k+1,s,hs=>by
  by_cases h:s∈jX l
  .exact⟨s,aB _,ac,.inr h,fun j Y Z=>ac⟩
  .obtain⟨m,Y,Z,z,V⟩:=FZ (l:=l) k (s+1) ac;refine⟨m,ac,Z,z,fun j U o=>?_⟩;by_cases e:j=s
   .subst e;exact h
   .exact V j ac o
section
variable {P:Program} {B:Bs} {cfg:Cfg}
structure Ctx (P:Program) (cfg:Cfg) (ih:Task->Res) (f N:Nat) (l:List Oper) (E0:aw) (zlv:Hp) (E':aw) (H':Hp) (rs:List Rec):Prop where
 calm:CalmD l
 len:rs.length=l.length
 at':∀(i:Nat) (r:Rec),rs[i]?=some r->∃o,l[i]?=some o/\AtD P cfg ih f N l o r (gV rs E' i) (gV rs E' (i+1)) (zlR rs H' i) (zlR rs H' (i+1))
 zeroE:gV rs E' 0=E0
 zeroH:zlR rs H' 0=zlv
 next:∀i,i<l.length->(zlR rs H' i).next<=(zlR rs H' (i+1)).next
 look:∀(i:Nat) (r:Rec),rs[i]?=some r->r.did=true->∀m,(m∈jX l\/m=l.length)->(∀e∈jX l,e∈(i7 l []).getD i []->e<m)->(∀e∈jX l,i∈(i7 l []).getD e []->m<=e) ->
  zei P cfg r (zlR rs H' m)=true
theorem Vc{ih:Task->Res}{f N:Nat}{l:List Oper}{E0 E':aw}{zlv H':Hp}{rs:List Rec}(hc:nJ l=true)(hr:jW P cfg ih f N l l E0 zlv=.done E' H' rs)(C:u9 P cfg (mz l) rs H'=true):
 Ctx P cfg ih f N l E0 zlv E' H' rs:=by
 have J:=zb hr;obtain⟨z1,z2⟩:=FN J;have V:=FM J;unfold u9 at C;simp only[co,iP]at C;refine⟨Vb hc,V,fun i r I=>vp J I,z1,z2,fun i I=>?_,fun i r I hd m hm h1 h2=>?_⟩
 .have hi':i<rs.length:=by omega
  have K:=aT hi';obtain⟨o,_,j⟩:=vp J K;have h3:=yX (C.1 _ (j7 K));rw[j.eH,j.eH']at h3;exact h3
 .obtain⟨o,ho,j⟩:=vp J I;have Y:BC (i7 l []) (jX l) i m=true:=by
   unfold BC;simp only[nM,i9,sI,co,not_and];refine⟨fun e he hA hle=>?_,fun e he hA hlt=>?_⟩
   .have:=h1 e he (by simpa using hA);have:=yX hle;omega
   .have:=h2 e he (by simpa using hA);have:e<m:=by simpa [jH]using hlt
    omega
  have M:∀k,zm7 o.op=k->(k=.read\/k=.make)->(i,m)∈mz l:=fun k Z hor=>by
   unfold mz;rw[FR];refine⟨i,lZ.2 (fw.1 ho).1,?_⟩;rw[ho];have U:(i,m)∈((jX l++[l.length]).filter (BC (i7 l []) (jX l) i)).map fun m=>(i,m):=
    kV.2 ⟨m,ua.2 ⟨by simpa using hm,Y⟩,rfl⟩
   rcases hor with rfl|rfl<;>simp only[Z]<;>exact U
  have z:(i,m)∈mz l->zei P cfg r (zlR rs H' m)=true:=fun h=>by
   have:=C.2 _ h;simp only[I,hd,lC,gm]at this;exact this
  have O:r.o=o:=j.eo;cases Z:zm7 o.op with
  |read=>exact z (M _ Z (.inl rfl))
  |make=>exact z (M _ Z (.inr rfl))
  |calm=>unfold zei;rw[O,Z]
  |act=>unfold zei;rw[O,Z]
section
variable {ih:Task -> Res} {f N:Nat} {ops:Array Oper} {E0 E':aw} {zlv H':Hp} {rs:List Rec} (cx:Ctx P cfg ih f N ops.toList E0 zlv E' H' rs)
include cx
theorem Ctx.record{i:Nat}{o:Oper}(J:ops.toList[i]?=some o):∃r,rs[i]?=some r/\AtD P cfg ih f N ops.toList o r (gV rs E' i) (gV rs E' (i+1)) (zlR rs H' i) (zlR rs H' (i+1)):=by
 have I:i<rs.length:=by rw[cx.len];exact(fw.1 J).1
 obtain⟨Z,m,j⟩:=cx.at' i _ (aT I);rw[J]at m;simp only[aL]at m;subst m;exact⟨_,aT I,j⟩
theorem Ctx.gap:∀(d s:Nat),s+d<=ops.toList.length->(∀j,s<=j->j<s+d->j∉jX ops.toList) ->
 (zlR rs H' s).next<=(zlR rs H' (s+d)).next/\∀r,r<(zlR rs H' s).next->(zlR rs H' (s+d)).get r=(zlR rs H' s).get r
 |0,s,_,_=>⟨aB _,fun _ _=>rfl⟩
 |d+1,s,hs,hn=>by
  obtain⟨m,V⟩:=Ctx.gap d s ac (fun j o U=>hn j o ac);have C:s+d<ops.toList.length:=ac;obtain⟨r,hr,O⟩:=cx.record (aT C);have Y:nI (ops.toList[s+d])=false:=by
   cases M:nI (ops.toList[s+d])with
   |false=>rfl
   |true=>exact(hn (s+d) ac ac (pO.2 ⟨_,aT C,M⟩)).elim
  have Z:zlR rs H' (s+d+1)=zlR rs H' (s+d)\/∃J,zlR rs H' (s+d+1)=(zlR rs H' (s+d)).alloc J:=by
   cases hd:r.did with
   |true=>exact U8 Y (O.yes hd)
   |false=>exact .inl (O.no hd).2
  rw[show s+(d+1)=s+d+1 by omega];rcases Z with e|⟨J,e⟩
  .rw[e];exact⟨m,V⟩
  .rw[e];refine⟨b9,fun k K=>?_⟩;rw[zkZ,af ac];exact V k K
theorem Ctx.nextMono:∀(d s:Nat),s+d<=ops.toList.length->(zlR rs H' s).next<=(zlR rs H' (s+d)).next
 |0,_,_=>aB _
 |d+1,s,hs=>dc (Ctx.nextMono d s ac) (by rw[show s+(d+1)=s+d+1 by omega];exact cx.next _ ac)
theorem Ctx.slotAt(t:Nat):∀s,s<=ops.toList.length ->
 (∃(i:Nat) (r:Rec) (o:Oper),i<s/\rs[i]?=some r/\ops.toList[i]?=some o/\o.dst=some t/\(∀(j:Nat) (Z:Oper),j<s->ops.toList[j]?=some Z->Z.dst=some t->j<=i)/\(gV rs E' s).at t=r.val) \/
 ((∀(j:Nat) (Z:Oper),j<s->ops.toList[j]?=some Z->Z.dst≠some t)/\(gV rs E' s).at t=E0.at t)
 |0,_=>.inr ⟨fun j Z M=>ac,by rw[cx.zeroE]⟩
 |s+1,hs=>by
  have J:ops.toList[s]?=some (ops.toList[s]' ac):=aT ac;obtain⟨r,hr,ha⟩:=cx.record J;have O:=ha.put;have Y:=Ctx.slotAt t s ac;by_cases hd:(ops.toList[s]' ac).dst=some t
  .refine .inl ⟨s,r,_,ac,hr,J,hd,fun j Z M _ _=>ac,?_⟩;rw[hd]at O;simp only[fQ]at O;split at O
   .simp only[aL]at O;rw[<-O,wP,am rfl]
   .simp at O
  .have V:(gV rs E' (s+1)).at t=(gV rs E' s).at t:=by
    cases U:(ops.toList[s]' ac).dst with
    |none=>
     rw[U]at O;simp only[fQ,aL]at O;rw[<-O]
    |some d=>
     rw[U]at O hd;simp only[fQ]at O;split at O
     .simp only[aL]at O;rw[<-O,wP,af (fun e=>hd oL)]
     .simp at O
   rw[V];rcases Y with⟨i,r',Z,m,I,h3,h4,h5,h6⟩|⟨m,I⟩
   .refine .inl ⟨i,r',Z,ac,I,h3,h4,fun j K M z C=>?_,h6⟩;by_cases e:j=s
    .subst e;rw[J]at z;simp only[aL]at z;subst z;exact(hd C).elim
    .exact h5 j K ac z C
   .refine .inr ⟨fun j Z M z=>?_,I⟩;by_cases e:j=s
    .subst e;rw[J]at z;simp only[aL]at z;subst z;exact hd
    .exact m j Z ac z
end
def gS(M:Array Bool)(j:Nat):Prop:=M.getD j false=true
def wZ(rs:List Rec)(l:List Oper)(Y:aw)(D:Nat->Prop)(G:Gh)(a:Act):Prop:=∀t,
 (∃(i:Nat) (r:Rec) (o:Oper),D i/\rs[i]?=some r/\l[i]?=some o/\o.dst=some t/\(∀(j:Nat) (Z:Oper),D j->l[j]?=some Z->Z.dst=some t->j<=i)/\VR G r.val (a.tmps.getD t undef)) \/
 ((∀(j:Nat) (Z:Oper),D j->l[j]?=some Z->Z.dst≠some t)/\VR G (Y.at t) (a.tmps.getD t undef))
theorem wZ.agree{ih:Task->Res}{f N:Nat}{ops:Array Oper}{E0 E':aw}{zlv H':Hp}{rs:List Rec}(cx:Ctx P cfg ih f N ops.toList E0 zlv E' H' rs){D:Nat->Prop}{G:Gh}{a:Act}(hs:wZ rs ops.toList E0 D G a){t s:Nat}
 (z:s<=ops.toList.length) (U:∀(j:Nat) (o:Oper),ops.toList[j]?=some o->o.dst=some t->(D j↔j<s)):VR G ((gV rs E' s).at t) (a.tmps.getD t undef):=by
 rcases cx.slotAt t s z with⟨i,r,o,K,J,C,h4,h5,h6⟩|⟨K,J⟩
 .rw[h6];have M:=(U i o C h4).2 K;rcases hs t with⟨Y,r',Z,V,I,m,O,g5,g6⟩|⟨V,_⟩
  .have e1:=h5 Y Z ((U Y Z m O).1 V) m O;have e2:=g5 i o M C h4;have:Y=i:=ac;subst this;rw[J]at I;simp only[aL]at I;subst I;exact g6
  .exact(V i o M C h4).elim
 .rw[J];rcases hs t with⟨Y,r',Z,V,I,m,O,g5,g6⟩|⟨_,I⟩
  .exact(K Y Z ((U Y Z m O).1 V) m O).elim
  .exact I
structure InvD (rs:List Rec) (l:List Oper) (N:Nat) (B:Bs) (nx0:Nat) (E0:aw) (H':Hp) (G0:Gh) (w0:World) (listed:Array Bool) (a:Act) (w:World) (m:Nat) (G:Gh):Prop where
 size:listed.size=l.length
 closed:∀j,gS listed j->∀o,l[j]?=some o->∀p∈preds o,gS listed p
 le:m<=l.length
 act:m=l.length\/m∈jX l
 notyet:¬gS listed m
 acts:∀e∈jX l,e<m->gS listed e
 step:Step B nx0 G0 w0 (zlR rs H' m) w G
 low:∀r p,G.β r=some p->r<nx0\/∃j,gS listed j/\j<l.length/\(zlR rs H' j).next<=r/\r<(zlR rs H' (j+1)).next
 slots:wZ rs l E0 (gS listed) G a
 frame:a.tmps.size=N
 defers:a.defers=[]
theorem gS.set{M:Array Bool}{i:Nat}(I:i<M.size)(j:Nat):gS (M.setIfInBounds i true) j↔j=i\/gS M j:=by
 unfold gS;rw[j5,j5,wN];by_cases e:i=j
 .subst e;simp[I]
 .rw[af e];constructor
  .exact fun h=>.inr h
  .rintro(h|h)
   .exact(e h.symm).elim
   .exact h
def mY:=@gS.set
theorem wZ.put{rs:List Rec}{l:List Oper}{E0:aw}{M:Array Bool}{G K:Gh}{a:Act}(hs:wZ rs l E0 (gS M) G a)(he:Ext G K){i:Nat}(I:i<M.size){o:Oper}(J:l[i]?=some o){r:Rec}(hr:rs[i]?=some r)
 {v:Value} (hv:VR K r.val v) (hd:∀d,o.dst=some d->d<a.tmps.size/\∀(j:Nat) (Y:Oper),gS M j->l[j]?=some Y->Y.dst=some d->j<=i):wZ rs l E0 (gS (M.setIfInBounds i true)) K (a.put o.dst v):=by
 intro t;by_cases V:o.dst=some t
 .obtain⟨h1,h2⟩:=hd t V;refine .inl ⟨i,r,o,(mY I i).2 (.inl rfl),hr,J,V,fun j Y Z z C=>?_,?_⟩
  .rcases(mY I j).1 Z with e|Z
   .omega
   .exact h2 j Y Z z C
  .rw[V];simp only[Act.put];simpa [Array.getD,h1]using hv
 .have U:(a.put o.dst v).tmps.getD t undef=a.tmps.getD t undef:=by
   cases O:o.dst with
   |none=>rfl
   |some d=>
    rw[O]at V;have hne:d≠t:=fun e=>V oL;simp only[Act.put,j5,wN];rw[af hne]
  rw[U];rcases hs t with⟨i',r',Y,g1,g2,g3,g4,g5,g6⟩|⟨g1,g2⟩
  .refine .inl ⟨i',r',Y,(mY I i').2 (.inr g1),g2,g3,g4,fun j m Z z C=>?_,g6.mono he⟩;rcases(mY I j).1 Z with e|Z
   .subst e;rw[J]at z;simp only[aL]at z;subst z;exact(V C).elim
   .exact g5 j m Z z C
  .refine .inr ⟨fun j Y Z z C=>?_,g2.mono he⟩;rcases(mY I j).1 Z with e|Z
   .subst e;rw[J]at z;simp only[aL]at z;subst z;exact(V C).elim
   .exact g1 j Y Z z C
theorem Ga{I:List Oper}{o:Oper}{t:Nat}:t∈tT I o↔o.dst=some t\/(Operand.tmp t)∈o.op.operands.toList\/∃g b Z,o.guard=some (g,b)/\I[g]?=some Z/\Z.dst=some t:=by
 unfold tT J6;simp only[mX,Option.mem_toList,List.mem_filterMap];constructor
 .rintro((h|⟨x,hx,h⟩)|h)
  .exact .inl h
  .cases x<;>simp at h;subst h;exact .inr (.inl hx)
  .cases K:o.guard with
   |none=>rw[K]at h;simp at h
   |some p=>
    obtain⟨g,b⟩:=p;rw[K]at h;simp only[Option.mem_toList,jl]at h;obtain⟨Z,m,j⟩:=h;exact .inr (.inr ⟨g,b,Z,rfl,m,j⟩)
 .rintro(h|h|⟨g,b,Z,m,j,z⟩)
  .exact .inl (.inl h)
  .exact .inl (.inr ⟨_,h,rfl⟩)
  .refine .inr ?_;rw[m];simp[j,z]
theorem KO{I:List Oper}{p q:Oper}{d:Nat}(h:(p.dst=some d/\d∈tT I q)\/(q.dst=some d/\d∈tT I p)):Ab.clash I p q=true:=by
 unfold Ab.clash;rcases h with⟨m,j⟩|⟨m,j⟩
 .rw[m];simp[j]
 .rw[m];simp[j]
theorem Step.trans'{K:Nat}{H' M:Hp}{G O U:Gh}{w w' V:World}(h:Step B K G w H' w' O)(k:Step B K O w' M V U):Step B K G w M V U:=
 ⟨k.r,h.ext.trans k.ext,h.fr.trans k.fr h.new,h.new.trans k.new h.fr.size,fun r p hr=>by
  rcases k.low r p hr with m|m
  .exact h.low r p m
  .exact .inr m,k.mono,fun b o v Z=>by
  rcases k.icy b o v Z with m|m
  .exact h.icy b o v m
  .exact .inr m⟩
theorem Step.weaken{K o:Nat}{H':Hp}{G O:Gh}{w w':World}(h:Step B K G w H' w' O)(J:o<=K):Step B o G w H' w' O:=
 ⟨h.r,h.ext,h.fr,h.new,fun r p hr=>(h.low r p hr).imp id (fun e=>dc J e),dc J h.mono,h.icy⟩
theorem Snd.fail(P:Program)(B:Bs):Snd P B 0 (fun _=>.fail):=
 ⟨fun _ _ _ _ _ h=>lY,fun _ _ _ _ _ _ _ _ h=>lY,fun _ _ _ _ _ _ _ _ h=>lY⟩
theorem Vd(fit:Fit P){n:Nat}{ih:Task->Res}(hih:Snd P B n ih){f N nx0:Nat}{ops:Array Oper}{E0 E':aw}{zlv H':Hp}{rs:List Rec}(cx:Ctx P B.cfg ih f N ops.toList E0 zlv E' H' rs)(hnx:zlv.next=nx0){G0 G:Gh}{w0 w:World}
 {M:Array Bool}{a:Act}{m:Nat} (V:InvD rs ops.toList N B nx0 E0 H' G0 w0 M a w m G) {i:Nat} (hi:i∈Region.ready .any ops M) {K:Act->World->Prop}{Q:Exit->Act->World->Prop}
 (hK:∀a' w' m' G',InvD rs ops.toList N B nx0 E0 H' G0 w0 (M.setIfInBounds i true) a' w' m' G'->K a' w'):wpOp P ops Q i K a w:=by
 obtain⟨o,ho,hun,hpr⟩:=mF.1 hi;obtain⟨r,hr,ha⟩:=cx.record ho;have hil:i<ops.toList.length:=(fw.1 ho).1;have U:i<M.size:=by rw[V.size];exact hil
 have hnot:¬gS M i:=fun hd=>by
  unfold gS at hd;rw[j5,rF U]at hd;rw[j5,rF U]at hun;simp only[bI]at hd hun;rw[hd]at hun;simp at hun
 -- what comes before i is done;what comes behind it is not
 have I:∀j∈(i7 ops.toList []).getD i [],gS M j:=FY cx.calm V.closed i o ho hpr;have hbehind:∀j,gS M j->∀oj,ops.toList[j]?=some oj->i∉(i7 ops.toList []).getD j []:=fun j hj oj hoj hm=>
  hnot (FY cx.calm V.closed j oj hoj (V.closed j hj oj hoj) i hm)
 -- the writers of the slots that i names
 have hagree:∀t∈tT ops.toList o,∀(j:Nat) (oj:Oper),ops.toList[j]?=some oj->oj.dst=some t->(gS M j↔j<i):=fun t ht j oj hoj hjd=>by
  constructor
  .intro hj;rcases B0 j i with h|h|h
   .exact h
   .subst h;exact(hnot hj).elim
   .exact(hbehind j hj oj hoj (cx.calm.clash i j o oj h ho hoj (KO (.inr ⟨hjd,ht⟩)))).elim
  .intro hj;exact I j (cx.calm.clash j i oj o hj hoj ho (KO (.inl ⟨hjd,ht⟩)))
 have hslot:∀t∈tT ops.toList o,VR G ((gV rs E' i).at t) (a.tmps.getD t undef):=fun t ht=>V.slots.agree cx (Nat.le_of_lt hil) (hagree t ht);have hknows:vo G (gV rs E' i) a o.op.operands:=fun x hx c hc=>by
  cases x with
  |tmp t=>simp only[zk4,aL]at hc;subst hc;exact hslot t (Ga.2 (.inr (.inl (by simpa using hx))))
  |const v=>exact wQ hc
  |global g=>simp[zk4]at hc
  |func f=>simp only[zk4,aL]at hc;subst hc;exact .clo (vs:=[]) rfl ax
 have hwant:=KH (G:=G) (E:=gV rs E' i) (a:=a) (ops:=ops) (o:=o) (fun g b d hg hd=>by
  simp only[jl]at hd;obtain⟨o',h1,h2⟩:=hd;exact hslot d (Ga.2 (.inr (.inr ⟨g,b,o',hg,by rw[yY];exact h1,h2⟩))))
 have hdst:∀d,o.dst=some d->d<a.tmps.size/\∀(j:Nat) (o':Oper),gS M j->ops.toList[j]?=some o'->o'.dst=some d->j<=i:=fun d hd=>by
  refine⟨?_,fun j o' hj hjo hjd=>Nat.le_of_lt ((hagree d (Ga.2 (.inl hd)) j o' hjo hjd).1 hj)⟩;have hp:=ha.put;rw[hd]at hp;simp only[fQ]at hp;split at hp
  .rename_i hb;rw[V.frame];simpa [jH]using hb
  .simp at hp
 have hclosed':∀j,gS (M.setIfInBounds i true) j->∀oj,ops.toList[j]?=some oj->∀p∈preds oj,gS (M.setIfInBounds i true) p:=fun j hj oj hoj p hp=>by
  rcases(mY U j).1 hj with rfl|hj
  .rw[ho]at hoj;simp only[aL]at hoj;subst hoj;exact(mY U p).2 (.inr (hpr p hp))
  .exact(mY U p).2 (.inr (V.closed j hj oj hoj p hp))
 -- an act comes up in its turn
 have hturn:nI o=true->i=m:=fun hact=>by
  have J:i∈jX ops.toList:=pO.2 ⟨o,ho,hact⟩;rcases B0 i m with h|h|h
  .exact(hnot (V.acts i J h)).elim
  .exact h
  .rcases V.act with e|e
   .omega
   .obtain⟨om,z,C⟩:=pO.1 e;exact(V.notyet (I m (cx.calm.clash m i om o h z ho (by unfold Ab.clash;simp[hact,C])))).elim
 -- how the invariant goes on
 have hfin:∀(v:Value) (w':World) (G':Gh) (X:Hp),VR G' r.val v->Step B nx0 G w X w' G' ->
  (∀k p,G'.β k=some p->G.β k=some p\/((zlR rs H' i).next<=k/\k<(zlR rs H' (i+1)).next)) ->
  ((i≠m/\X=zlR rs H' m)\/(i=m/\X=zlR rs H' (i+1)))->K (a.put o.dst v) w':=fun v w' G' X hv O hlow hX=>by
  have hslots':=V.slots.put O.ext U ho hr hv hdst;have hlow':∀k p,G'.β k=some p->k<nx0\/∃j,gS (M.setIfInBounds i true) j/\j<ops.toList.length/\(zlR rs H' j).next<=k/\k<(zlR rs H' (j+1)).next:=fun k p hk=>by
   rcases hlow k p hk with h|h
   .rcases V.low k p h with h|⟨j,h1,h2⟩
    .exact .inl h
    .exact .inr ⟨j,(mY U j).2 (.inr h1),h2⟩
   .exact .inr ⟨i,(mY U i).2 (.inl rfl),hil,h⟩
  have hframe':(a.put o.dst v).tmps.size=N:=by rw[<-V.frame];cases o.dst<;>simp[Act.put]
  have hdef':(a.put o.dst v).defers=[]:=by have:=V.defers;cases o.dst<;>exact this
  rcases hX with⟨hne,rfl⟩|⟨rfl,rfl⟩
  .refine hK _ _ m G' ⟨by simpa using V.size,hclosed',V.le,V.act,fun hd=>?_,fun e he hlt=>(mY U e).2 (.inr (V.acts e he hlt)),V.step.trans' O,hlow',hslots',hframe',hdef'⟩;rcases(mY U m).1 hd with h|h
   .exact hne h.symm
   .exact V.notyet h
  ·-- the next act
   obtain⟨m',q1,q2,q3,q4⟩:=FZ (l:=ops.toList) (ops.toList.length-(i+1)) (i+1) ac;obtain⟨g1,g2⟩:=cx.gap (m'-(i+1)) (i+1) ac (fun j h1 h2=>q4 j h1 ac);rw[show i+1+(m'-(i+1))=m' by omega]at g1 g2;have hst2:Step B nx0 G0 w0 (zlR rs H' m') w' G':=by
    have:=V.step.trans' O;exact⟨this.r.more g1 g2,this.ext,this.fr,this.new,this.low,dc this.mono g1,this.icy⟩
   have hact:∀e∈jX ops.toList,e<m'->gS (M.setIfInBounds i true) e:=fun e he hlt=>by
    by_cases h:e<i
    .exact(mY U e).2 (.inr (V.acts e he h))
    .by_cases h2:e=i
     .exact(mY U e).2 (.inl h2)
     .exact(q4 e ac hlt he).elim
   refine hK _ _ m' G' ⟨by simpa using V.size,hclosed',q2,q3,fun hd=>?_,hact,hst2,hlow',hslots',hframe',hdef'⟩;rcases(mY U m').1 hd with h|h
   .omega
   ·-- m' is done though i,an act before it,was not
    have hm'l:m'<ops.toList.length:=by
     rcases zd m' ops.toList.length with h3|h3
     .exact h3
     .unfold gS at h;rw[j5,FT (by rw[V.size];exact h3)]at h;simp at h
    rcases q3 with e|e
    .omega
    .obtain⟨om,z,C⟩:=pO.1 e;rcases V.act with e2|e2
     .omega
     .obtain⟨oi,hoi,hacti⟩:=pO.1 e2;rw[ho]at hoi;simp only[aL]at hoi;subst hoi;exact hbehind m' h om z (cx.calm.clash i m' o om ac ho z (by unfold Ab.clash;simp[hacti,C]))
 -- the range of m for the looks
 have hlo:∀e∈jX ops.toList,e∈(i7 ops.toList []).getD i []->e<m:=fun e he hA=>by
  have hd:=I e hA;rcases zd e m with h|h
  .exact h
  .exfalso;rcases V.act with e2|e2
   .have:=(pO.1 he);obtain⟨oe,hoe,_⟩:=this;have:=(fw.1 hoe).1;omega
   .by_cases e3:e=m
    .subst e3;exact V.notyet hd
    .obtain⟨om,z,C⟩:=pO.1 e2;obtain⟨oe,hoe,hacte⟩:=pO.1 he;exact V.notyet (FY cx.calm V.closed e oe hoe (V.closed e hd oe hoe) m (cx.calm.clash m e om oe ac z hoe (by unfold Ab.clash;simp[C,hacte])))
 have hhi:∀e∈jX ops.toList,i∈(i7 ops.toList []).getD e []->m<=e:=fun e he hA=>by
  rcases zd e m with h|h
  .obtain⟨oe,hoe,_⟩:=pO.1 he;exact(hbehind e (V.acts e he h) oe hoe hA).elim
  .exact h
 unfold wpOp;rw[show ops[i]?=some o by rw[<-yY];exact ho];simp only[];have hnxm:nx0<=(zlR rs H' m).next:=V.step.mono
 have hsame:Step B nx0 G w (zlR rs H' m) w G:=(mC V.step.r).weaken hnxm;have hstill:∀(v:Value) (w':World) (G':Gh),i≠m->VR G' r.val v->Step B (zlR rs H' m).next G w (zlR rs H' m) w' G'->K (a.put o.dst v) w':=fun v w' G' J hv O=>
  hfin v w' G' _ hv (O.weaken hnxm) (fun k p hk=>by
   rcases O.low k p hk with h|h
   .exact .inl h
   .have:=O.r.dom k p hk;omega) (.inl ⟨J,rfl⟩)
 have hnotact:nI o=false->i≠m:=fun hna e=>by
  rcases V.act with e2|e2
  .omega
  .obtain⟨om,z,C⟩:=pO.1 e2;rw[<-e,ho]at z;simp only[aL]at z;subst z;rw[hna]at C;simp at C
 cases hd:r.did with
 |false=>
  have hw:Region.wanted o (yielded ops a.tmps)=false:=by rw[<-hwant,ha.want];exact hd
  rw[hw];simp only[dE,dL];obtain⟨hval,hheap⟩:=ha.no hd;by_cases J:i=m
  .subst J;exact hfin undef w G (zlR rs H' (i+1)) (by rw[hval];exact yO G) (by rw[hheap];exact hsame) (fun k p hk=>.inl hk) (.inr ⟨rfl,rfl⟩)
  .exact hfin undef w G _ (by rw[hval];exact yO G) hsame (fun k p hk=>.inl hk) (.inl ⟨J,rfl⟩)
 |true=>
  have hw:Region.wanted o (yielded ops a.tmps)=true:=by rw[<-hwant,ha.want];exact hd
  rw[hw];simp only[dB];have hop:=ha.yes hd;refine .inl ?_;cases Z:zm7 o.op with
  |act=>
   have J:=hturn (by simp[nI,Z]);subst J;refine BZ fit hih V.step.r hknows hop fun v w' G' hv O=>?_;refine hfin v w' G' _ hv (O.weaken hnxm) (fun k p hk=>?_) (.inr ⟨rfl,rfl⟩);rcases O.low k p hk with h|h
   .exact .inl h
   .exact .inr ⟨h,O.r.dom k p hk⟩
  |calm=>
   have hnc:∀c,o.op≠.call c:=fun c e=>by
    rw[e]at Z;simp only[zm7]at Z;split at Z<;>simp at Z
   have J:=hnotact (by simp[nI,Z]);have hX:=(FO (P:=P) (by simp[sH,Z]) ((vr hnc).1 hop)).2 (zlR rs H' m);have hop':zmz P B.cfg ih f (gV rs E' i) (zlR rs H' m) o.op=.val r.val (zlR rs H' m):=(vr hnc).2 hX;exact BZ fit hih V.step.r hknows hop' fun v w' G' hv O=>hstill v w' G' J hv O
  |read=>
   have J:=hnotact (by simp[nI,Z]);have Y:=cx.look i r hr hd m V.act.symm hlo hhi;unfold zei at Y;rw[ha.eo,Z,ha.eE]at Y;simp only[]at Y;split at Y
   .rename_i v1 H1 hop';have hv1:=AV.beq_eq Y;subst hv1;have hH1:=FP (by simp[rE,Z]) hop';subst hH1;exact BZ fit (Snd.fail P B) V.step.r hknows hop' fun v w' G' hv O=>hstill v w' G' J hv O
   .simp at Y
  |make=>
   have J:=hnotact (by simp[nI,Z]);have hnc:∀c,o.op≠.call c:=fun c e=>by
    rw[e]at Z;simp only[zm7]at Z;split at Z<;>simp at Z
   have hopA:=(vr hnc).1 hop;obtain⟨blk,obj,ext,v,hH1,hrun,hmade,hv⟩:=U1 (P:=P) (w:=w) (by simp[tU,Z]) hknows hopA;have Y:=cx.look i r hr hd m V.act.symm hlo hhi;unfold zei at Y;rw[ha.eo,Z,ha.eH,ha.eH']at Y;simp only[]at Y;have hnext1:(zlR rs H' (i+1)).next=(zlR rs H' i).next+1:=by rw[hH1];rfl
   have hgetm:(zlR rs H' m).get (zlR rs H' i).next=some blk:=by
    split at Y
    .rename_i b b' h1 h2;rw[HB.beq_eq Y]at h1;rw[hH1,zkZ,am rfl]at h2;simp only[aL]at h2;subst h2;exact h1
    .simp at Y
   have hlt:i<m:=by
    rcases B0 i m with h|h|h
    .exact h
    .exact(J h).elim
    .exfalso;rcases V.act with e2|e2
     .omega
     .obtain⟨om,z,C⟩:=pO.1 e2;exact V.notyet (I m (cx.calm.clash m i om o h z ho (by unfold Ab.clash;simp[C,tU,Z])))
   have hr0:(zlR rs H' i).next<(zlR rs H' m).next:=by
    have:=cx.nextMono (m-(i+1)) (i+1) (by have:=V.le;omega);rw[show i+1+(m-(i+1))=m by omega]at this;omega
   have hnx0:nx0<=(zlR rs H' i).next:=by
    have:=cx.nextMono i 0 ac;rw[bL,cx.zeroH,hnx]at this;exact this
   have hno:∀q,G.β (zlR rs H' i).next=some q->False:=fun q hq=>by
    rcases V.low _ q hq with h|⟨j,h1,h2,h3,h4⟩
    .omega
    .rcases B0 j i with h|h|h
     .have:=cx.nextMono (i-(j+1)) (j+1) ac;rw[show j+1+(i-(j+1))=i by omega]at this;omega
     .subst h;exact hnot h1
     .have:=cx.nextMono (j-(i+1)) (i+1) ac;rw[show i+1+(j-(i+1))=j by omega]at this;omega
   have O:=Kb V.step.r hno hr0 hgetm hnx0 hmade;unfold Oper.wp;rw[hrun];refine hfin v _ _ _ (hv _ (sF _ _ _)) O (fun k p hk=>?_) (.inl ⟨J,rfl⟩);simp only[Gh.add]at hk;split at hk
   .rename_i e;exact .inr ⟨ac,ac⟩
   .exact .inl hk
theorem countP_set{M:Array Bool}{i:Nat}(I:i<M.size)(K:M[i]=false):(M.setIfInBounds i true).toList.countP (·=false)+1=M.toList.countP (·=false):=by
 rw[Kq,List.countP_set wU];have m:M.toList[i]' wU=false:=by simpa using K
 have Z:0<M.toList.countP (·=false):=List.countP_pos_iff.2 ⟨false,by rw[<-m];exact cR _,ax⟩;rw[m];simp only[j0,dB,sB,ip,dE,dL];omega
theorem Ve(fit:Fit P){n:Nat}{ih:Task->Res}(hih:Snd P B n ih){f N V:Nat}{ops:Array Oper}{E0 E':aw}{zlv H':Hp}{rs:List Rec}(cx:Ctx P B.cfg ih f N ops.toList E0 zlv E' H' rs)(hnx:zlv.next=V){G0:Gh}{w0:World}
 (hE':gV rs E' ops.toList.length=E') (hH':zlR rs H' ops.toList.length=H') {Q:Exit->Act->World->Prop} (hQ:∀e a w,lX B N V G0 w0 .normal E' H' e a w->Q e a w) :
 ∀(J:Nat) (M:Array Bool) (a:Act) (w:World) (m:Nat) (G:Gh),InvD rs ops.toList N B V E0 H' G0 w0 M a w m G->M.toList.countP (·=false)<=J->wpAny P .any ops Q J M a w:=by
 -- at the end all is done
 have U:∀(M:Array Bool) (a:Act) (w:World) (m:Nat) (G:Gh),InvD rs ops.toList N B V E0 H' G0 w0 M a w m G->Region.ready .any ops M=[]->Q .normal a w:=fun M a w m G Z I=>by
  have z:∀j,j<ops.toList.length->gS M j:=fun j=>by
   induction j using Nat.strongRecOn with
   |_ j ihj=>
    intro hj;have O:=aT hj;have C:j<M.size:=by rw[Z.size];exact hj
    cases hl:M[j]with
    |true=>
     unfold gS;rw[j5,rF C,hl];rfl
    |false=>
     exfalso;have:j∈Region.ready .any ops M:=mF.2 ⟨_,O,by rw[j5,rF C,hl];rfl,fun p hp=>by
      have hlt:=cx.calm.lt j _ O p hp;exact ihj p hlt ac⟩
     rw[I]at this;simp at this
  have hm:m=ops.toList.length:=by
   rcases Z.act with e|e
   .exact e
   .obtain⟨om,hom,_⟩:=pO.1 e;exact(Z.notyet (z m (fw.1 hom).1)).elim
  subst hm;have hst:=Z.step;rw[hH']at hst;refine hQ _ _ _ ⟨rfl,G,⟨Z.frame,fun t=>?_⟩,hst,Z.defers⟩;have:=Z.slots.agree cx (t:=t) (aB _) (fun j oj hoj _=>⟨fun _=>(fw.1 hoj).1,fun h=>z j h⟩);rw[hE']at this;exact this
 intro J;induction J with
 |zero=>
  intro M a w m G Z hc;have I:Region.ready .any ops M=[]:=by
   apply ze.2;intro i hi;obtain⟨o,O,Y,_⟩:=mF.1 hi;have K:i<M.size:=KK;rw[j5,rF K]at Y;have:=countP_set K sw;omega
  exact⟨I,U M a w m G Z I⟩
 |succ J ihf=>
  intro M a w m G Z hc;refine⟨fun I=>U M a w m G Z I,fun i hi=>?_⟩;obtain⟨o,O,Y,_⟩:=mF.1 hi;have K:i<M.size:=KK;rw[j5,rF K]at Y;have hcs:=countP_set K sw;exact Vd fit hih cx hnx Z hi (fun a' w' m' G' hI'=>ihf _ a' w' m' G' hI' ac)
theorem KP(fit:Fit P){n:Nat}{ih:Task->Res}(O:Snd P B n ih){f N:Nat}{ops:Array Oper}{E E':aw}{H H':Hp}{G:Gh}{w:World}{x:AX}{a:Act}(hr:zns P B.cfg ih f N ops.toList E H=.done x E' H')
 (h:R B H w G) (ht:TR N G E a) (hd:a.defers=[]) {Q:Exit->Act->World->Prop} (hQ:∀e a' w',lX B N H.next G w x E' H' e a' w'->Q e a' w'):wpAny P .any ops Q ops.size (Array.replicate ops.size false) a {w with drawn:=w.drawn+1}:=by
 unfold zns at hr;split at hr
 .rename_i K;split at hr
  .rename_i E1 H1 rs Y;split at hr
   .rename_i Z;simp only[Res.done.injEq]at hr;obtain⟨rfl,rfl,rfl⟩:=hr;have cx:=Vc K Y Z;have hlen:=cx.len;have J:gV rs E1 ops.toList.length=E1:=by unfold gV;rw[lD ac]
    have I:zlR rs H1 ops.toList.length=H1:=by unfold zlR;rw[lD ac]
    obtain⟨m,q1,q2,q3,q4⟩:=FZ (l:=ops.toList) ops.toList.length 0 ac;obtain⟨M,g2⟩:=cx.gap m 0 ac (fun j _ o=>q4 j ac ac);rw[bL,cx.zeroH]at M g2;have z:R B H {w with drawn:=w.drawn+1} G:=h.heap rfl;have U:Step B H.next G w (zlR rs H1 m) {w with drawn:=w.drawn+1} G:=
     ⟨z.more M g2,wO _,⟨rfl,rfl,rfl,aB _,fun _ _ _=>rfl⟩,vi _ _,fun _ _ h=>.inl h,M,fun _ _ _ h=>.inl h⟩
    have V:∀j,¬gS (Array.replicate ops.size false) j:=fun j o=>by
     unfold gS at o;rw[j5,KM]at o;split at o<;>simp at o
    refine Ve fit O cx rfl J I hQ ops.size _ a _ m G
     ⟨ax,fun j o=>(V j o).elim,q2,q3,V m,fun e he C=>(q4 e (dm _) C he).elim,U,fun r p hr=>.inl (h.dom r p hr),fun t=>.inr ⟨fun j o' o=>(V j o).elim,ht.slots t⟩,ht.size,hd⟩ ?_
    exact dc List.countP_le_length ax
   .simp at hr
  .simp at hr
 .simp at hr
end
def mG(ops:Array Oper):List Nat->Array Bool->Prop
 |[],listed=>Region.ready .any ops listed=[]
 |i::L,listed=>i∈Region.ready .any ops listed/\mG ops L (listed.setIfInBounds i true)
theorem KQ{ops:Array Oper}:∀(J t:Nat) (M:Array Bool),M.size=ops.size->M.toList.countP (·=false)<=J->mG ops (Region.linearise.go .any ops J t M []) M
 |0,t,M,hs,hc=>by
  show Region.ready .any ops M=[];apply ze.2;intro i I;obtain⟨o,Y,Z,_⟩:=mF.1 I;have K:i<M.size:=KL;rw[j5,rF K]at Z;have:=countP_set K su;omega
 |J+1,t,M,hs,hc=>by
  simp only[Region.linearise.go];change mG ops (match (Region.ready .any ops M)[t%(Region.ready .any ops M).length]? with
   |some i=>Region.linearise.go .any ops J (t/(Region.ready .any ops M).length) (M.setIfInBounds i true) [i]
   |none=>[].reverse) M
  cases I:(Region.ready .any ops M)[t%(Region.ready .any ops M).length]? with
  |none=>
   show Region.ready .any ops M=[];cases hr:Region.ready .any ops M with
   |nil=>rfl
   |cons x z=>
    rw[hr]at I;have C:t%(x::z).length<(x::z).length:=Nat.mod_lt _ ax;simp at I;simp at C;omega
  |some i=>
   simp only[];rw[linearise_go_acc,List.reverse_singleton,FU];have V:=j7 I;refine⟨V,KQ J _ _ (by simpa using hs) ?_⟩;obtain⟨o,Y,Z,_⟩:=mF.1 V;have K:i<M.size:=KL;rw[j5,rF K]at Z;have:=countP_set K su;omega
section
variable {P:Program} {Q:Exit -> Act -> World -> Prop}
theorem Gb{ops:Array Oper}:∀(L:List Nat) (J:Nat) (M:Array Bool) (a:Act) (w:World),wpAny P .any ops Q J M a w->mG ops L M->wpOps P ops Q L a w
 |[],0,M,a,w,h,_=>h.2
 |[],J+1,M,a,w,h,hv=>h.1 hv
 |i::L,0,M,a,w,h,hv=>by
  have m:=hv.1;rw[h.1]at m;simp at m
 |i::L,J+1,M,a,w,h,hv=>by
  rw[wpOps_cons];exact wpOp_mono (fun a w O=>Gb L J _ a w O hv.2) (h.2 i hv.1)
theorem Vf{ops:Array Oper}{id:Nat}{a:Act}{w:World}(V:P.follows .mixedOrders=true)
 (h:∀L,mG ops L (Array.replicate ops.size false)->wpOps P ops Q L a {w with drawn:=w.drawn+1}):(Code.region id ops true).wp P Q a w:=
 wp_region_draw fun t=>by
  simp only[Region.schedule,V,nN,dB];exact h _ (KQ ops.size t _ ax (dc List.countP_le_length ax))
theorem Gc{ops ops':Array Oper}{φ:Nat->Nat}:∀(L:List Nat) (a:Act) (w:World),
 (∀i∈L,∃o V,ops[i]?=some o/\ops'[φ i]?=some V/\(∃M U,V={o with after:=M,guard:=U})/\∀a:Act,Region.wanted V (yielded ops' a.tmps)=Region.wanted o (yielded ops a.tmps)) ->
 wpOps P ops' Q (L.map φ) a w->wpOps P ops Q L a w
 |[],_,_,_,h=>h
 |i::L,a,w,hr,h=>by
  rw[dM,wpOps_cons]at h;rw[wpOps_cons];obtain⟨o,V,m,K,⟨M,U,z⟩,J⟩:=hr i ee;have Z:∀a w,wpOps P ops' Q (L.map φ) a w->wpOps P ops Q L a w:=fun a w=>Gc L a w (fun j O=>hr j (el _ O));have Y:=wpOp_mono Z h;unfold wpOp at Y⊢;rw[K]at Y;rw[m];simp only[]at Y⊢;rw[J a]at Y;subst z;exact Y
end
theorem B3(q p:Nat)(l:List Oper):(eJ q p l).length=l.length:=by
 unfold eJ;split<;>simp
theorem zg{q p:Nat}{l:List Oper}{i:Nat}{o:Oper}(h:l[i]?=some o):
 ∃Z,(eJ q p l)[i]?=some Z/\(∃M,Z={o with after:=M})/\(i≠q->Z=o)/\∀j,j∈preds Z↔j∈preds o\/(i=q/\j=p):=by
 unfold eJ;have Y:=(fw.1 h).1;by_cases e:i=q
 .subst e;rw[h];refine⟨_,List.getElem?_set_self Y,⟨_,rfl⟩,fun J=>(J rfl).elim,fun j=>?_⟩;unfold preds;have:(o.after.push {on:=p,ground:=.data}).toList=o.after.toList++[{on:=p,ground:=.data}]:=ax;rw[this,List.filter_append,l0,mX];have V:(List.filter (Region.binds .any) [({on:=p,ground:=.data}:Edge)])=[{on:=p,ground:=.data}]:=rfl;rw[V];simp
 .have hx:∀I,(l.set q I)[i]?=some o:=fun I=>by rw[List.getElem?_set_ne (fun h=>e h.symm)];exact h
  split
  .exact⟨o,hx _,⟨o.after,rfl⟩,fun _=>rfl,fun j=>⟨.inl,fun h=>h.elim id (fun h=>(e h.1).elim)⟩⟩
  .exact⟨o,h,⟨o.after,rfl⟩,fun _=>rfl,fun j=>⟨.inl,fun h=>h.elim id (fun h=>(e h.1).elim)⟩⟩
theorem KR{q p:Nat}{l:List Oper}{i:Nat}{Z:Oper}(h:(eJ q p l)[i]?=some Z):∃o,l[i]?=some o:=by
 have:=(fw.1 h).1;rw[B3]at this;exact⟨_,aT this⟩
theorem Vg{q p:Nat}{l:List Oper}(j:Nat):((eJ q p l)[j]?).bind (·.dst)=(l[j]?).bind (·.dst):=by
 cases h:l[j]? with
 |none=>
  rw[lD (by rw[B3];exact List.getElem?_eq_none_iff.1 h)]
 |some o=>
  obtain⟨Z,m,⟨M,rfl⟩,_⟩:=zg (q:=q) (p:=p) h;rw[m];rfl
theorem KS{q p:Nat}{l:List Oper}{M:Array Bool}{i:Nat}(h:i∈Region.ready .any (eJ q p l).toArray M):i∈Region.ready .any l.toArray M:=by
 obtain⟨O,m,V,z⟩:=mF.1 h;simp only[]at m;obtain⟨o,J⟩:=KR m;obtain⟨I,Z,_,_,U⟩:=zg (q:=q) (p:=p) J;rw[m]at Z;simp only[aL]at Z;subst Z;exact mF.2 ⟨o,J,V,fun j Y=>z j ((U j).2 (.inl Y))⟩
theorem zh{q p:Nat}{l:List Oper}{M:Array Bool}{i:Nat}(h:i∈Region.ready .any l.toArray M)(C:i=q->M.getD p false=true):i∈Region.ready .any (eJ q p l).toArray M:=by
 obtain⟨o,m,Y,z⟩:=mF.1 h;simp only[]at m;obtain⟨I,V,_,_,U⟩:=zg (q:=q) (p:=p) m;refine mF.2 ⟨I,V,Y,fun j Z=>?_⟩;rcases(U j).1 Z with h|⟨O,rfl⟩
 .exact z j h
 .exact C O
theorem Vh{M:Array Bool}{i p:Nat}(h:M.getD p false=true):(M.setIfInBounds i true).getD p false=true:=by
 simp only[j5,wN]at *;split
 .split
  .rfl
  .rename_i m j;subst m;rw[FT ac]at h;simp at h
 .exact h
theorem Gd{q p:Nat}{l:List Oper}:∀{L:List Nat}{M:Array Bool},M.getD p false=true->mG l.toArray L M->mG (eJ q p l).toArray L M
 |[],M,_,hv=>by
  show Region.ready .any (eJ q p l).toArray M=[];apply ze.2;intro i I;have:=KS I;rw[show Region.ready .any l.toArray M=[]from hv]at this;simp at this
 |i::L,M,hd,hv=>⟨zh hv.1 (fun _=>hd),Gd (Vh hd) hv.2⟩
theorem KT{p q:Nat}(K:p≠q){l:List Oper}:∀{L:List Nat}{M:Array Bool},M.size=l.length->mG l.toArray L M->mG (eJ q p l).toArray L M\/mG (eJ p q l).toArray L M
 |[],M,_,hv=>.inl <|by
  show Region.ready .any (eJ q p l).toArray M=[];apply ze.2;intro i I;have:=KS I;rw[show Region.ready .any l.toArray M=[]from hv]at this;simp at this
 |i::L,M,hs,hv=>by
  have Y:i<M.size:=by
   obtain⟨o,J,_⟩:=mF.1 hv.1;rw[hs];exact(fw.1 J).1
  have Z:(M.setIfInBounds i true).getD i false=true:=by
   simp[j5,Y]
  by_cases m:i=q
  .subst m;exact .inr ⟨zh hv.1 (fun e=>(K e.symm).elim),Gd Z hv.2⟩
  .by_cases U:i=p
   .subst U;exact .inl ⟨zh hv.1 (fun e=>(m e).elim),Gd Z hv.2⟩
   .rcases KT K (by simpa using hs) hv.2 with h|h
    .exact .inl ⟨zh hv.1 (fun e=>(m e).elim),h⟩
    .exact .inr ⟨zh hv.1 (fun e=>(U e).elim),h⟩
theorem Ge{ops:Array Oper}:∀{L:List Nat}{M:Array Bool},mG ops L M->∀i∈L,∃o,ops.toList[i]?=some o
 |[],_,_,i,I=>by simp at I
 |j::L,M,hv,i,I=>by
  rcases fX.1 I with rfl|I
  .obtain⟨o,J,_⟩:=mF.1 hv.1;exact⟨o,J⟩
  .exact Ge hv.2 i I
theorem KU{P:Program}{Q:Exit->Act->World->Prop}{q p:Nat}{l:List Oper}{L:List Nat}{M:Array Bool}{a:Act}{w:World}(Z:mG l.toArray L M)
 (h:wpOps P (eJ q p l).toArray Q L a w):wpOps P l.toArray Q L a w:=by
 refine Gc (ops':=(eJ q p l).toArray) (φ:=id) L a w (fun i I=>?_) j8;obtain⟨o,J⟩:=Ge Z i I;simp only[]at J;obtain⟨U,Y,⟨V,rfl⟩,_⟩:=zg (q:=q) (p:=p) J;refine⟨o,_,yK,sw,⟨V,o.guard,rfl⟩,fun a=>?_⟩;have hy:yielded (eJ q p l).toArray a.tmps=yielded l.toArray a.tmps:=funext fun j=>by
  unfold yielded;have:=Vg (q:=q) (p:=p) (l:=l) j;simp only[List.getElem?_toArray,this]
 rw[hy];rfl
structure PermD (ord:List Nat) (l:List Oper):Prop where
 len:ord.length=l.length
 bk:∀k:Nat,k<l.length->∃i,ord[k]?=some i/\i<l.length/\jt ord i=k
 lt:∀i:Nat,i<l.length->jt ord i<l.length/\ord[jt ord i]?=some i
 pre:∀(i:Nat) o,l[i]?=some o->(∀p∈preds o,p<l.length)/\∀j b,o.guard=some (j,b)->j<l.length
theorem Vi{ord:List Nat}{l:List Oper}(h:vc ord l=true):PermD ord l:=by
 unfold vc at h;simp only[co,iP,lZ]at h;obtain⟨⟨m,Y⟩,z⟩:=h;refine⟨jk m,fun k Z=>?_,fun i I=>?_,fun i o J=>?_⟩
 .have:=(Y k Z).1.1;split at this
  .rename_i i I;simp only[co]at this;exact⟨i,I,by simpa [jH]using this.1,jk this.2⟩
  .simp at this
 .have O:=(Y i I).1.2;have V:=(Y i I).2;refine⟨by simpa [jH]using O,?_⟩;split at V
  .rename_i k Z;rw[Z,jk V]
  .simp at V
 .have:=z o (j7 J);refine⟨fun p hp=>by simpa [jH]using this.1 p hp,fun j b K=>?_⟩;have U:=this.2;rw[K]at U;simpa [jH]using U
theorem KV{Z β:Type}{f:Z->Option β}:∀{z:List Z},(∀x∈z,(f x).isSome=true)->∀k:Nat,(z.filterMap f)[k]?=(z[k]?).bind f
 |[],_,k=>by simp
 |x::z,h,k=>by
  obtain⟨y,hy⟩:=Option.isSome_iff_exists.1 (h x ee);rw[List.filterMap_cons_some hy];cases k with
  |zero=>simp[hy]
  |succ k=>simp[KV (fun x hx=>h x (el _ hx)) k]
section
variable {ord:List Nat} {l:List Oper} (hp:PermD ord l)
include hp
theorem PermD.at'{i:Nat}{o:Oper}(h:l[i]?=some o):(zmE ord l)[jt ord i]?=some (sr ord o):=by
 have Y:=(fw.1 h).1;unfold zmE;rw[KV (fun x hx=>?_)]
 .rw[(hp.lt i Y).2];simp[h]
 .obtain⟨k,Z⟩:=FV.1 hx;have I:k<l.length:=by rw[<-hp.len];exact(fw.1 Z).1
  obtain⟨V,m,j,_⟩:=hp.bk k I;rw[Z]at m;simp only[aL]at m;subst m;rw[aT j];rfl
theorem PermD.length:(zmE ord l).length=l.length:=by
 have:∀k,k<l.length->((zmE ord l)[k]?).isSome=true:=fun k o=>by
  obtain⟨i,m,j,z⟩:=hp.bk k o;have:=hp.at' (aT j);rw[z]at this;rw[this];rfl
 refine Nat.le_antisymm (dc (List.length_filterMap_le _ _) (by rw[hp.len];exact aB _)) ?_;rcases zd (zmE ord l).length l.length with h|h
 .have:=this _ h;rw[lD (aB _)]at this;simp at this
 .exact h
theorem PermD.of{k:Nat}{Z:Oper}(h:(zmE ord l)[k]?=some Z):∃i o,l[i]?=some o/\jt ord i=k/\Z=sr ord o:=by
 have Y:k<l.length:=by rw[<-hp.length];exact(fw.1 h).1
 obtain⟨i,m,j,z⟩:=hp.bk k Y;have:=hp.at' (aT j);rw[z,h]at this;simp only[aL]at this;exact⟨i,_,aT j,z,this⟩
theorem PermD.inj{i j:Nat}(I:i<l.length)(o:j<l.length)(h:jt ord i=jt ord j):i=j:=by
 have m:=(hp.lt i I).2;rw[h,(hp.lt j o).2]at m;simpa using m.symm
theorem PermD.preds{o:Oper}:Ab.preds (sr ord o)=(Ab.preds o).map (jt ord):=by
 unfold Ab.preds sr;simp only[sJ];rw[List.filter_map];have:(Region.binds .any ∘ fun e:Edge=>{e with on:=jt ord e.on})=Region.binds .any:=rfl;rw[this,List.filter_filter];simp only[vt,sJ];rfl
def zi(ord:List Nat)(l:List Oper)(x y:Array Bool):Prop:=x.size=l.length/\y.size=l.length/\∀i,i<l.length->y[jt ord i]?=x[i]?
theorem zi.set{x y:Array Bool}(h:zi ord l x y){i:Nat}(I:i<l.length):zi ord l (x.setIfInBounds i true) (y.setIfInBounds (jt ord i) true):=by
 refine⟨by simpa using h.1,by simpa using h.2.1,fun j o=>?_⟩;simp only[wN];by_cases e:i=j
 .subst e;rw[am rfl,am rfl,am (by rw[h.2.1];exact(hp.lt i I).1),am (by rw[h.1];exact I)]
 .rw[af e,af (fun Z=>e (hp.inj I o Z))];exact h.2.2 j o
theorem KW{x y:Array Bool}(h:zi ord l x y){i:Nat}(I:i<l.length):jt ord i∈Region.ready .any (zmE ord l).toArray y↔i∈Region.ready .any l.toArray x:=by
 have J:=aT I;have U:=hp.at' J;rw[mF,mF];simp only[];have hd:∀(j:Nat) (b:Bool),j<l.length->y.getD (jt ord j) b=x.getD j b:=fun j b M=>by
  simp only[j5,h.2.2 j M]
 constructor
 .rintro⟨K,Y,V,m⟩;rw[U]at Y;simp only[aL]at Y;subst Y;refine⟨_,J,by rw[<-hd i true I];exact V,fun p Z=>?_⟩;rw[<-hd p false ((hp.pre i _ J).1 p Z)];exact m _ (by rw[hp.preds];exact List.mem_map_of_mem Z)
 .rintro⟨K,Y,V,m⟩;rw[J]at Y;simp only[aL]at Y;subst Y;refine⟨_,U,by rw[hd i true I];exact V,fun p Z=>?_⟩;rw[hp.preds]at Z;obtain⟨O,o,rfl⟩:=kV.1 Z;rw[hd O false ((hp.pre i _ J).1 O o)];exact m O o
theorem KX:∀{L:List Nat}{x y:Array Bool},zi ord l x y->mG l.toArray L x->mG (zmE ord l).toArray (L.map (jt ord)) y
 |[],x,y,hs,hv=>by
  show Region.ready .any (zmE ord l).toArray y=[];apply ze.2;intro k Z;obtain⟨V,j,_⟩:=mF.1 Z;simp only[]at j;obtain⟨i,o,m,Y,_⟩:=hp.of j;have I:=(fw.1 m).1;rw[<-Y]at Z;have:=(KW hp hs I).1 Z;rw[show Region.ready .any l.toArray x=[]from hv]at this;simp at this
 |i::L,x,y,hs,hv=>by
  obtain⟨o,J,_⟩:=mF.1 hv.1;have I:i<l.length:=(fw.1 J).1;exact⟨(KW hp hs I).2 hv.1,KX (hs.set hp I) hv.2⟩
theorem Vj{P:Program}{Q:Exit->Act->World->Prop}{L:List Nat}{M:Array Bool}{a:Act}{w:World}(Y:mG l.toArray L M)
 (h:wpOps P (zmE ord l).toArray Q (L.map (jt ord)) a w):wpOps P l.toArray Q L a w:=by
 refine Gc (ops':=(zmE ord l).toArray) (φ:=jt ord) L a w (fun i I=>?_) h;obtain⟨o,J⟩:=Ge Y i I;simp only[]at J;have U:=hp.at' J;refine⟨o,sr ord o,yK,by simpa using U,⟨_,_,rfl⟩,fun a=>?_⟩;unfold Region.wanted sr;cases K:o.guard with
 |none=>rfl
 |some V=>
  obtain⟨j,b⟩:=V;have Z:=(hp.pre i o J).2 j b K;have m:=hp.at' (aT Z);simp only[];unfold yielded;simp only[List.getElem?_toArray,m,aT Z];rfl
end
theorem T.beq_eq{Z:Type}{O:Z->Z->Bool}(o:∀a b,O a b=true->a=b):∀{x y:T Z},T.beq O x y=true->x=y
 | .e,.e,_=>rfl
 | .e,.n _ _ _,h=>by simp[T.beq]at h
 | .n _ _ _,.e,h=>by simp[T.beq]at h
 | .n v l r,.n Y J C,h=>by
   simp only[T.beq,co]at h;rw[T.beq_eq o h.1.2,T.beq_eq o h.2];have m:=h.1.1;cases v<;>cases Y <;>simp only[dE]at m
   .rfl
   .rw[o _ _ m]
theorem Vk{ops:List Oper}{O U:aw}{Y I:Hp}(h:yF ops O U Y I=true):(∀o∈ops,∀d,o.dst=some d->O.at d=U.at d)/\Y=I:=by
 unfold yF at h;simp only[co,iP]at h;refine⟨fun o J d hd=>?_,?_⟩
 .have:=h.1.1 o J;rw[hd]at this;exact AV.beq_eq this
 .have m:=jk h.1.2;have j:=T.beq_eq (fun a b=>HB.beq_eq) h.2;cases Y;cases I;simp only[]at m j;rw[m,j]
section
variable {P:Program} {B:Bs} {cfg:Cfg}
theorem Vl{N t:Nat}{E O:aw}{J:Option Tmp}{v:AV}(h:fQ N E J v=some O)(j:J≠some t):O.at t=E.at t:=by
 unfold fQ at h;split at h
 .rename_i d;split at h
  .simp only[aL]at h;rw[<-h,wP,af (fun e=>j oL)]
  .simp at h
 .simp only[aL]at h;rw[<-h]
theorem KY{ih:Task->Res}{f N t:Nat}{I:List Oper}:∀{rs:List Rec}{l:List Oper}{E E':aw}{H H':Hp},oK P cfg ih f N I rs l E H E' H'->(∀o∈l,o.dst≠some t)->E'.at t=E.at t
 |[],[],_,_,_,_,h,_=>by rw[h.1]
 |[],_::_,_,_,_,_,h,_=>by simp[oK]at h
 |_::_,[],_,_,_,_,h,_=>by simp[oK]at h
 |r::rs,o::l,E,E',H,H',h,ht=>by
  obtain⟨_,_,_,_,_,_,E1,hp,Z⟩:=h;rw[KY Z (fun o J=>ht o (el _ J)),Vl hp (ht o ee)]
theorem KZ{ih:Task->Res}{f N t:Nat}{ops:List Oper}{E C:aw}{H H':Hp}{x:AX}(h:zns P cfg ih f N ops E H=.done x C H')(j:∀o∈ops,o.dst≠some t):x=.normal/\C.at t=E.at t:=by
 unfold zns at h;split at h
 .split at h
  .rename_i E1 H1 rs K;split at h
   .simp only[Res.done.injEq]at h;obtain⟨rfl,rfl,rfl⟩:=h;exact⟨rfl,KY (zb K) j⟩
   .simp at h
  .simp at h
 .simp at h
theorem Vm{ord:List Nat}{l:List Oper}{o:Oper}(h:o∈zmE ord l):∃Z∈l,o.dst=Z.dst:=by
 unfold zmE at h;rw[List.mem_filterMap]at h;obtain⟨i,_,j⟩:=h;split at j
 .rename_i Z J;simp only[aL]at j;subst j;exact⟨Z,j7 J,rfl⟩
 .simp at j
theorem K0{q p:Nat}{l:List Oper}{o:Oper}(h:o∈eJ q p l):∃Z∈l,o.dst=Z.dst:=by
 obtain⟨i,I⟩:=FV.1 h;obtain⟨V,m⟩:=KR I;obtain⟨U,j,⟨M,Y⟩,_⟩:=zg (q:=q) (p:=p) m;rw[I]at j;simp only[aL]at j;exact⟨V,j7 m,by rw[j,Y]⟩
theorem K1{ops:List Oper}{M j:Res}{x:AX}{C:aw}{H':Hp}(h:tV ops M j=.done x C H'):
 x=.normal/\M=.done .normal C H'/\∃U,j=.done .normal U H'/\∀o∈ops,∀d,o.dst=some d->C.at d=U.at d:=by
 unfold tV at h;split at h
 .split at h
  .rename_i Z;simp only[Res.done.injEq]at h;obtain⟨rfl,rfl,rfl⟩:=h;obtain⟨m,Y⟩:=Vk Z;subst Y;exact⟨rfl,rfl,_,rfl,m⟩
  .simp at h
 .simp at h
theorem Gf{ih:Task->Res}{f N t:Nat}{E C:aw}{H H':Hp}{x:AX}:∀{Y:Plan}{ops:List Oper},znt P cfg ih f N E H Y ops=.done x C H'->(∀o∈ops,o.dst≠some t)->C.at t=E.at t
 | .text,ops,h,ht=>(KZ h ht).2
 | .perm ord,ops,h,ht=>by
   simp only[znt]at h;split at h
   .exact(KZ h (fun o J=>by obtain⟨Z,m,j⟩:=Vm J;rw[j];exact ht Z m)).2
   .simp at h
 | .split p q a b,ops,h,ht=>by
   simp only[znt]at h;split at h
   .simp at h
   .obtain⟨_,m,_⟩:=K1 h;exact Gf m (fun o J=>by obtain⟨Z,m,j⟩:=K0 J;rw[j];exact ht Z m)
theorem lX.same{N K:Nat}{G:Gh}{w:World}{x:AX}{O Z:aw}{H':Hp}(U:∀t,O.at t=Z.at t){e:Exit}{a:Act}{w':World}(h:lX B N K G w x Z H' e a w'):lX B N K G w x O H' e a w':=by
 obtain⟨m,Y,j,z,V⟩:=h;exact⟨m,Y,⟨j.size,fun t=>by rw[U];exact j.slots t⟩,z,V⟩
theorem Gg(fit:Fit P){n:Nat}{ih:Task->Res}(m:Snd P B n ih){f N:Nat}{E:aw}{H:Hp}{G:Gh}{w:World}{a:Act}(h:R B H w G)(j:TR N G E a)(hd:a.defers=[]){Q:Exit->Act->World->Prop}:
 ∀(pl:Plan) (l:List Oper) {E':aw}{H':Hp}{x:AX},znt P B.cfg ih f N E H pl l=.done x E' H'->(∀e Y V,lX B N H.next G w x E' H' e Y V->Q e Y V)->∀L,mG l.toArray L (Array.replicate l.length false) ->
  wpOps P l.toArray Q L a {w with drawn:=w.drawn+1}
 | .text,l,E',H',x,hr,hQ,L,hv=>Gb L _ _ a _ (by
  have:=KP (ops:=l.toArray) fit m hr h j hd hQ;simpa using this) hv
 | .perm ord,l,E',H',x,hr,hQ,L,hv=>by
   simp only[znt]at hr;split at hr
   .rename_i hp;have hp:=Vi hp;refine Vj hp hv (Gb _ _ _ a _ (KP (ops:=(zmE ord l).toArray) fit m hr h j hd hQ) ?_);refine KX hp ⟨ax,by simp[hp.length],fun i C=>?_⟩ hv;have:=(hp.lt i C).1;simp[hp.length,C,this]
   .simp at hr
 | .split p q pa pb,l,E',H',x,hr,hQ,L,hv=>by
   simp only[znt]at hr;split at hr
   .simp at hr
   .rename_i K;have z:p≠q:=yL K;obtain⟨rfl,h1,E2,h2,h3⟩:=K1 hr;rcases KT z ax hv with O|U
    .exact KU hv (Gg fit m h j hd pa _ h1 hQ L (by rw[B3];exact O))
    .have M:∀t,E'.at t=E2.at t:=fun t=>by
      by_cases j:∃o∈l,o.dst=some t
      .obtain⟨o,J,hd⟩:=j;exact h3 o J t hd
      .have I:∀o∈l,o.dst≠some t:=fun o J hd=>j ⟨o,J,hd⟩;have Z:∀q p,∀o∈eJ q p l,o.dst≠some t:=fun q p o J=>by obtain⟨o',g1,g2⟩:=K0 J;rw[g2];exact I o' g1
       rw[Gf h1 (Z _ _),Gf h2 (Z _ _)]
     exact KU hv (Gg fit m h j hd pb _ h2 (fun e Y V hp=>hQ _ _ _ (lX.same M hp)) L (by rw[B3];exact U))
theorem Vn(fit:Fit P){n:Nat}{ih:Task->Res}(m:Snd P B n ih){f N id:Nat}{ops:Array Oper}{E C:aw}{H H':Hp}{G:Gh}{w:World}{x:AX}{a:Act}{pl:Plan}(hr:znt P B.cfg ih f N E H pl ops.toList=.done x C H')
 (h:R B H w G) (j:TR N G E a) (hd:a.defers=[]):Code.wp P (.region id ops true) (lX B N H.next G w x C H') a w:=by
 refine Vf fit.mixed fun L V=>?_;have:=Gg fit m h j hd pl ops.toList hr (fun _ _ _ hp=>hp) L wT;simpa using this
end
structure Grow (w:World) (F:Nat->Nat->Option Value) (w':World) (F':Nat->Nat->Option Value):Prop where
 below:Below w.heap.size w w'
 more:∀b o v,F b o=some v->F' b o=some v
 icy:∀b o v,F' b o=some v->F b o=some v\/w.heap.size<=b
 frz:∀b o v,F' b o=some v->w'.cell? ⟨b,o,none⟩=some v
def bM(P:Program)(ρ:Nat->Int)(f:FuncId)(M:List AV)(r:AV):Prop:=
 (∃V,P.funcs[f]?=some V/\V.body.isSome=true)/\∀(G:Gh) (w:World) (vs:List Value),G.ρ=ρ->(∀b o v,G.F b o=some v->w.cell? ⟨b,o,none⟩=some v)->cm G M vs ->
   Calls P f vs.toArray w (fun e J=>∃v U,e=.returned v/\VR {G with F:=U} r v/\Grow w G.F J U)
def Vo(P:Program)(B:Bs):Prop:=∀f M r,B.cfg.call f M=some r->bM P B.ρ f M r
theorem Gi{w w':World}(h:Below w.heap.size w w'){b o:Nat}(C:b<w.heap.size):w'.cell? ⟨b,o,none⟩=w.cell? ⟨b,o,none⟩/\w'.frozen? ⟨b,o,none⟩=w.frozen? ⟨b,o,none⟩:=
 ⟨by simp only[World.cell?,h.block b C],h.frozen (p:=⟨b,o,none⟩) C⟩
theorem R.grow{B:Bs}{H:Hp}{w w':World}{G:Gh}{V:Nat->Nat->Option Value}(h:R B H w G)(g:Grow w G.F w' V):Step B H.next G w H w' {G with F:=V}:=by
 have U:Ext G {G with F:=V}:=⟨fun _ _ h=>h,g.more,rfl⟩;have I:∀{b o:Nat}{v:Value},w.cell? ⟨b,o,none⟩=some v->w'.cell? ⟨b,o,none⟩=some v:=fun hc=>by rw[(Gi g.below (qE hc)).1];exact hc
 refine⟨?_,U,⟨g.below.os,g.below.tape,g.below.output,g.below.size,fun k hk _=>g.below.block k hk⟩,fun r b o x hr=>.inl hr,fun _ _ h=>.inl h,aB _,fun b o v J=>(g.icy b o v J).imp id fun C=>dc h.base C⟩;exact{
  base:=dc h.base g.below.size
  dom:=h.dom
  lt:=fun r b o x hr=>⟨(h.lt r b o x hr).1,mB (h.lt r b o x hr).2 g.below.size⟩
  cells:=fun r b o x z imm Y hr hc j c O=>by
   obtain⟨v,m,K⟩:=h.cells r b o x z imm Y hr hc j c O;exact⟨v,I m,K.mono U⟩
  imm:=fun r b o x z imm Y hr hc j O M=>let ⟨v,J⟩:=h.imm r b o x z imm Y hr hc j O M;⟨v,g.more _ _ _ J⟩
  ext:=h.ext
  fits:=h.fits
  room:=fun r b o x z imm Y hr hc j O M=>by
   obtain⟨⟨v,m⟩,K,h3⟩:=h.room r b o x z imm Y hr hc j O M;have C:=(h.lt r b o x hr).2;refine⟨⟨v,I m⟩,by rw[(Gi g.below C).2];exact K,?_⟩;show V b (o+j)=none;cases hF:V b (o+j)with
   |none=>rfl
   |some u=>rcases g.icy _ _ _ hF with h4|h4
            ·rw[h3]at h4;simp at h4
            .omega
  apart:=h.apart
  map:=fun r b o x es hr hc=>by
   obtain⟨ms,Z,m,K⟩:=h.map r b o x es hr hc;exact⟨ms,Z,by rw[g.below.block b (h.lt r b o x hr).2];exact m,K.mono U⟩
  mapApart:=h.mapApart
  frz:=g.frz
  val:=h.val
  sym:=h.sym}
theorem Gj(z:Nat):∀(n:Nat) (l:List AV),(gN z n l).length=n
 |0,_=>rfl
 |n+1,l=>by simp[gN,Gj z n]
theorem zj(z:Nat):∀(n:Nat) (l:List AV) (i:Nat) (V:List AV),l.length=n*z->(gN z n l)[i]?=some V->V.length=z/\∀(j:Nat) c,V[j]?=some c->l[i*z+j]?=some c
 |0,_,i,V,_,h=>by simp[gN]at h
 |n+1,l,i,V,hl,h=>by
  rw[pL,zf]at hl;simp only[gN]at h;cases i with
  |zero=>
   simp at h;subst h;refine⟨yT,fun j c o=>?_⟩;rw[rD]at o;split at o
   .rw[vm,bL];exact o
   .simp at o
  |succ i=>
   obtain⟨m,Z⟩:=zj z n (l.drop z) i V FQ j8;refine⟨m,fun j c o=>?_⟩;have:=Z j c o;rw[tX]at this;rw[pL,zf,show i*z+z+j=z+(i*z+j) by omega];exact this
theorem B4{B:Bs}{w:World}{g:AV->Hp->Option (AV×Hp)}
 (K:∀(v:AV) (H:Hp) (q:AV) (H':Hp) (G:Gh) (x:Value),R B H w G->VR G v x->g v H=some (q,H')->∃O,Step B H.next G w H' w O/\VR O q x) :
 ∀(z:List AV) (vs:List Value) (H:Hp) (Y:List AV) (H':Hp) (G:Gh),R B H w G->cm G z vs->gO g z H=some (Y,H')->∃O,Step B H.next G w H' w O/\cm O Y vs
 |[],vs,H,Y,H',G,h,hv,hi=>by
  simp only[gO,cZ]at hi;obtain⟨rfl,rfl⟩:=hi;exact⟨G,mC h,hv⟩
 |c::z,[],H,Y,H',G,h,hv,hi=>by have:=hv.1;simp at this
 |c::z,v::vs,H,Y,H',G,h,hv,hi=>by
  simp only[gO]at hi;split at hi
  .rename_i d H1 m;split at hi
   .rename_i C I j;simp only[cZ]at hi;obtain⟨rfl,rfl⟩:=hi;obtain⟨U,M⟩:=hv.of_cons;obtain⟨J,Z,o⟩:=K c H d H1 G v h U m;obtain⟨G2,V,r2⟩:=B4 K z vs H1 C I J Z.r (M.mono Z.ext) j;exact⟨G2,Z.trans V,mV (o.mono V.ext) r2⟩
   .simp at hi
  .simp at hi
theorem B5{B:Bs}{w:World}:∀(n:Nat) (v:AV) (H:Hp) (q:AV) (H':Hp) (G:Gh) (x:Value),R B H w G->VR G v x->fh n v H=some (q,H')->∃G',Step B H.next G w H' w G'/\VR G' q x
 |0,_,_,_,_,_,_,_,_,h=>by simp[fh]at h
 |n+1,v,H,q,H',G,x,h,hv,I=>by
  unfold fh at I;split at I
  .rename_i r U Z z;split at I
   .rename_i cs imm tip O;split at I
    .rename_i hle;simp only[co]at hle;have hle1:=yX hle.1;have hle2:=yX hle.2;split at I
     .rename_i l H1 hil;simp only[cZ]at I;obtain⟨rfl,rfl⟩:=I;cases hv with
      |sl hr hl hcx=>
       rename_i b o xx cap;have V:=h.cells r b o xx cs imm tip hr O;have s1:=yQ h hr O (n:=max imm (U+Z*z)) ac ac tip id;obtain⟨Y,ho1,ho2⟩:=V.list;have hlen:((cs.drop U).take (Z*z)).length=Z*z:=by rw[j6,lA];omega
       obtain⟨G2,s2,r2⟩:=B4 (B5 n) _ ((Y.drop U).take (Z*z)) _ l H1 _ s1.r (((ho1.drop U).take (Z*z)).mono s1.ext) hil;refine⟨G2,s1.trans s2,?_⟩;have hll:l.length=Z*z:=by
        have e1:=r2.1;have e2:=((ho1.drop U).take (Z*z)).1;rw[hlen]at e2;omega
       have hlc:=Gj z Z l;have hovl:Y.length=cs.length:=ho1.1.symm;have hat:∀m,m<Z*z->∃v,Y[U+m]?=some v/\G2.F b (o+U+m)=some v/\∀c,l[m]?=some c->VR G2 c v:=fun m hm=>by
        have C:U+m<Y.length:=ac;refine⟨Y[U+m],aT C,?_,fun c hc=>?_⟩
        .refine s2.ext.F _ _ _ ?_;have J:=ho2 (U+m) Y[U+m] (aT C);show(G.ice w b o (max imm (U+Z*z))).F b (o+U+m)=some Y[U+m];simp only[Gh.ice];rw[<-iE]at J;split
         .rename_i v' hv';have:=h.frz _ _ _ hv';rw[J]at this;exact this.symm
         .rw[am ⟨by trivial,ac,ac⟩];exact J
        .refine r2.2 m c _ hc ?_;rw[rD,am hm,tX];exact aT C
       have hin:∀i j,i<Z->j<z->i*z+j<Z*z:=fun i j I hj=>by
        calc i*z+j<i*z+z:=by omega
         _=(i+1)*z:=by rw[pL,zf]
         _<=Z*z:=wW _ I
       have key:VR G2 (.lst (gN z Z l)) (.slice (some ⟨b,o+U,none⟩) (gN z Z l).length cap):=by
        refine .lst (fun i j=>(Y[U+(i*z+j)]?).getD undef) (z:=z) (fun i M K=>(zj z Z l i M hll K).1) (fun i j I hj=>?_) (fun i j M c K hcj=>?_) (by rw[hlc];exact hl)
        .rw[hlc]at I;obtain⟨v,e1,e2,_⟩:=hat _ (hin i j I hj);rw[e1,iE (o+U)];exact e2
        .have hm:=(zj z Z l i M hll K).2 j c hcj;have C:=(fw.1 hm).1;obtain⟨v,e1,_,e3⟩:=hat (i*z+j) ac;rw[e1];exact e3 c hm
       rw[hlc]at key;exact key
     .simp at I
    .simp at I
   .simp at I
  .rename_i cs;split at I
   .rename_i ds H1 hil;simp only[cZ]at I;obtain⟨rfl,rfl⟩:=I;cases hv with
    |agg hl hvs=>
     obtain⟨G',s,r⟩:=B4 (B5 n) cs _ H ds H1 G h ⟨hl,hvs⟩ hil;exact⟨G',s,.agg r.1 r.2⟩
   .simp at I
  .simp at I
  .simp at I
  .simp only[cZ]at I;obtain⟨rfl,rfl⟩:=I;exact⟨G,mC h,hv⟩
section
variable {P:Program} {B:Bs} {G:Gh} {H H':Hp} {w:World}
theorem K2:∀(M:List AV) (i:Nat) (E:aw) (t:Nat),(zD i M E).at t=if i<=t/\t<i+M.length then M.getD (t-i) zmx else E.at t
 |[],i,E,t=>by
  simp only[zD,eW,sG];rw[af ac]
 |v::vs,i,E,t=>by
  simp only[zD,K2 vs (i+1),eK];by_cases m:i+1<=t/\t<i+1+vs.length
  .rw[am m,am ac,show t-i=(t-(i+1))+1 by omega];rfl
  .rw[af m,wP];by_cases j:t=i
   .subst j;rw[am rfl,am ac];simp
   .rw[af j,af ac]
theorem Gk:∀(d t:Nat),aw.at (yG d) t=zmx
 |0,_=>rfl
 |d+1,t=>by
  unfold aw.at yG;rw[vj];cases h:Nat.beq t 0 with
  |true=>rfl
  |false=>
   rw[znF];cases j:Nat.beq (Nat.mod t 2) 1 with
   |true=>exact Gk d _
   |false=>exact Gk d _
theorem Vp(N t:Nat):aw.at (vd N) t=zmx:=Gk _ _
theorem TR.start{M:List AV}{vs:List Value}(h:cm G M vs)(Z:Nat):
 TR (max Z M.length) G (zD 0 M (vd (max Z M.length))) {tmps:=vs.toArray++Array.replicate (Z-vs.toArray.size) undef,defers:=[] }:=by
 have Y:=h.1;refine⟨b9,fun t=>?_⟩;rw[K2];simp only[dm,j9,bL,BR];by_cases j:t<M.length
 .rw[am j];have m:M.getD t zmx=M[t]:=by simp[List.getD,j]
  rw[m];have:(vs.toArray++Array.replicate (Z-vs.toArray.size) undef).getD t undef=vs[t]' ac:=by
   rw[j5,Array.getElem?_append_left b9];simp[show t<vs.length by omega]
  rw[this];exact h.2 t _ _ (aT j) (aT ac)
 .rw[af j,Vp];have:(vs.toArray++Array.replicate (Z-vs.toArray.size) undef).getD t undef=undef:=by
   rw[j5,Array.getElem?_append_right b9];simp only[KM];split<;>rfl
  rw[this];exact yO G
theorem Vq(h:R B H w G){N:Nat}{E:aw}{a:Act}(j:TR N G E a){r:ResultVar}{c:AV}(hr:zl1 P E H r=some c):
 ∃v,(match r with
  | .tmp t=>pure (a.tmps.getD t undef)
  | .cell x t=>do loadVar t (<-asAddr (a.tmps.getD x undef)):Sem Value).run P w=.ok v w/\VR G c v:=by
 cases r with
 |tmp t=>
  simp only[zl1,aL]at hr;subst hr;exact⟨_,rfl,j.slots t⟩
 |cell x t=>
  simp only[zl1]at hr;have hx:=j.slots x;obtain⟨v,m,Z⟩:=Kl (P:=P) h hx hr;refine⟨v,?_,Z⟩;show(do loadVar t (<-asAddr (a.tmps.getD x undef)):Sem Value).run P w=.ok v w;generalize a.tmps.getD x undef=Y at hx m⊢;generalize E.at x=J at hx hr;cases hx<;>simp[iN]at hr<;>simpa [Instr.loadAt,Instr.sureAddr,asAddr]using m
theorem K3(h:R B H w G){N:Nat}{E:aw}{a:Act}(j:TR N G E a):∀{rs:List ResultVar}{z:List AV},zlX P E H rs=some z ->
 ∃vs,(rs.mapM (fun
  | .tmp t=>pure (a.tmps.getD t undef)
  | .cell x t=>do loadVar t (<-asAddr (a.tmps.getD x undef)):ResultVar->Sem Value)).run P w=.ok vs w/\cm G z vs
 |[],z,hr=>by
  simp only[zlX,aL]at hr;subst hr;exact⟨[],ax,qD G⟩
 |r::rs,z,hr=>by
  simp only[zlX]at hr;split at hr
  .rename_i c K m Z;simp only[aL]at hr;subst hr;obtain⟨v,Y,I⟩:=Vq (P:=P) h j m;obtain⟨vs,k1,V⟩:=K3 h j Z;refine⟨v::vs,?_,mV I V⟩;rw[List.mapM_cons];simp only[fA,Y,fF,k1,lB]
  .simp at hr
theorem K4(h:R B H w G){N:Nat}{E:aw}{a:Act}(Z:TR N G E a){V:Func}{r:AV}(hr:wK P V.results.toList E H=.val r H'):
 H'=H/\∃v,(results V a.tmps).run P w=.ok v w/\VR G r v:=by
 unfold wK at hr;split at hr
 .rename_i z Y;simp only[Res.val.injEq]at hr;obtain⟨rfl,rfl⟩:=hr;obtain⟨vs,m,j⟩:=K3 (P:=P) h Z Y;refine⟨rfl,?_⟩;have K:(results V a.tmps).run P w=.ok (if h:vs.toArray.size=1 then vs.toArray[0]else .tuple vs.toArray) w:=by
   unfold results;rw[Array.mapM_eq_mapM_toList];simp only[fA,Sem.run_map];exact jm (fun r:Result (List Value)=>(r.andThen fun a J=>Result.ok a.toArray J).andThen fun a J=>Sem.run P (pure (if h:a.size=1 then a[0]else Value.tuple a)) J) m
  refine⟨_,K,?_⟩
  match z,vs,j with
  |[],[],j=>exact .tup (vs:=[]) rfl ax
  |[c],[v],j=>exact j.of_cons.1
  |c::c'::z,v::v'::vs,j=>
   have:¬(v::v'::vs).toArray.size=1:=ax;rw[dif_neg this];exact .tup j.1 j.2
  |[],_::_,j=>have:=j.1;simp at this
  |[_],[],j=>have:=j.1;simp at this
  |[_],_::_::_,j=>have:=j.1;simp at this
  |_::_::_,[],j=>have:=j.1;simp at this
  |_::_::_,[_],j=>have:=j.1;simp at this
 .simp at hr
theorem Gl(_fit:Fit P){n:Nat}{ih:Task->Res}(m:Snd P B n ih){f:FuncId}{M:List AV}{r:AV}(U:pG P ih f M H=.val r H'){vs:List Value}(h:R B H w G)(hv:cm G M vs):
 (∃V,P.funcs[f]?=some V/\V.body.isSome=true)/\Calls P f vs.toArray w (fun e J=>∃v Z,e=.returned v/\VR Z r v/\Step B H.next G w H' J Z):=by
 unfold pG at U;split at U
 .rename_i V Y;split at U
  .rename_i c hc;refine⟨⟨V,Y,by rw[hc];rfl⟩,calls_of_wp Y hc ?_⟩;have K:=TR.start hv V.ntmps;split at U
   .rename_i E1 H1 O;refine t9 (fun e a' J o=>?_) (m.code _ _ _ _ _ _ _ _ O G w _ h K rfl);obtain⟨rfl,Z,j,I,hd⟩:=o;obtain⟨rfl,v,C,z⟩:=K4 (P:=P) I.r j U;exact⟨hd,v,C,v,Z,rfl,z,I⟩
   .rename_i E1 H1 O;refine t9 (fun e a' J o=>?_) (m.code _ _ _ _ _ _ _ _ O G w _ h K rfl);obtain⟨rfl,Z,j,I,hd⟩:=o;obtain⟨rfl,v,C,z⟩:=K4 (P:=P) I.r j U;exact⟨hd,v,C,v,Z,rfl,z,I⟩
   .simp at U
  .simp at U
 .simp at U
theorem Gm{n:Nat}{ih:Task->Res}(Y:Snd P B n ih){f N:Nat}{b:Code}{r:Res}{x:AX}{C:aw}(U:pH ih f N b r=.done x C H'):
 ∃Z E1 H1,r=.done Z E1 H1/\((Z=.normal/\ih (.code f N b E1 H1)=.done x C H')\/(Z≠.normal/\x=Z/\C=E1/\H'=H1)):=by
 unfold pH at U;split at U
 .rename_i E1 H1;exact⟨.normal,E1,H1,rfl,.inl ⟨rfl,U⟩⟩
 .rename_i z;subst U;exact⟨x,C,H',rfl,.inr ⟨fun e=>by subst e;exact z _ _ rfl,rfl,rfl,rfl⟩⟩
theorem Vr(fit:Fit P){n:Nat}{ih:Task->Res}(m:Snd P B n ih){f N:Nat}{c:Code}{E:aw}{x:AX}{E':aw}(U:step P B.cfg ih (.code f N c E H)=.done x E' H')
 {a:Act} (h:R B H w G) (Y:TR N G E a) (hd:a.defers=[]):Code.wp P c (lX B N H.next G w x E' H') a w:=by
 cases c with
 |skip=>
  simp only[step,Res.done.injEq]at U;obtain⟨rfl,rfl,rfl⟩:=U;exact wp_skip ⟨rfl,G,Y,mC h,hd⟩
 |region id ops draw=>
  cases draw with
  |false=>
   exact wp_region_list (FL fit m ops.toList U h Y hd (fun _ _ _ hp=>hp))
  |true=>exact Vn fit m U h Y hd
 |seq p q=>
  obtain⟨x1,E1,H1,V,M⟩:=Gm m U;refine wp_seq (t9 (fun e K J o=>?_) (m.code _ _ _ _ _ _ _ _ V G w a h Y hd));obtain⟨rfl,O,j,I,Z⟩:=o;rcases M with⟨rfl,M⟩|⟨z,rfl,rfl,rfl⟩
  .exact t9 (fun e a w o=>BY I o) (m.code _ _ _ _ _ _ _ _ M O J K I.r j Z)
  .cases x with
   |normal=>exact(z rfl).elim
   |exit id=>exact⟨rfl,O,j,I,Z⟩
   |ret=>exact⟨rfl,O,j,I,Z⟩
 |cond y p q=>
  simp only[step,ve]at U;split at U
  .rename_i hy;have C:=FK Y hy;have:a.eval y=.bool true:=by generalize a.eval y=v at C;cases C;rfl
   exact wp_cond_true this (m.code _ _ _ _ _ _ _ _ U G w a h Y hd)
  .rename_i hy;have C:=FK Y hy;have:a.eval y=.bool false:=by generalize a.eval y=v at C;cases C;rfl
   exact wp_cond_false this (m.code _ _ _ _ _ _ _ _ U G w a h Y hd)
  .simp at U
 |block id p=>
  simp only[step]at U;cases V:ih (.code f N p E H)with
  |done x1 E1 H1=>
   rw[V]at U;refine wp_block (t9 (fun e K J o=>?_) (m.code _ _ _ _ _ _ _ _ V G w a h Y hd));obtain⟨rfl,O,j,I,Z⟩:=o;cases x1 with
   |normal=>
    simp only[znO,Res.done.injEq]at U;obtain⟨rfl,rfl,rfl⟩:=U;exact⟨rfl,O,j,I,Z⟩
   |ret=>
    simp only[znO,Res.done.injEq]at U;obtain⟨rfl,rfl,rfl⟩:=U;exact⟨rfl,O,j,I,Z⟩
   |exit id'=>
    simp only[znO]at U;cases C:Nat.beq id' id with
    |true=>
     rw[C]at U;simp only[Res.done.injEq]at U;obtain⟨rfl,rfl,rfl⟩:=U;have:=jk C;subst this;simp only[FI,Exit.inBlock,dB];exact⟨rfl,O,j,I,Z⟩
    |false=>
     rw[C]at U;simp only[Res.done.injEq]at U;obtain⟨rfl,rfl,rfl⟩:=U;have:=yL C;simp only[FI,Exit.inBlock];rw[af this];exact⟨rfl,O,j,I,Z⟩
  |val v H1=>rw[V]at U;simp[znO]at U
  |fail=>rw[V]at U;simp[znO]at U
 |loop p=>
  refine wp_loop_rounds (n+1) ?_;rw[rounds_succ];obtain⟨x1,E1,H1,V,M⟩:=Gm m U;refine t9 (fun e K J o=>?_) (m.code _ _ _ _ _ _ _ _ V G w a h Y hd);obtain⟨rfl,O,j,I,Z⟩:=o;rcases M with⟨rfl,M⟩|⟨z,rfl,rfl,rfl⟩
  .exact FJ (fun e a w o=>BY I o) (m.loop _ _ _ _ _ _ _ _ M O J K I.r j Z)
  .cases x with
   |normal=>exact(z rfl).elim
   |exit id=>exact⟨rfl,O,j,I,Z⟩
   |ret=>exact⟨rfl,O,j,I,Z⟩
 |exit id=>
  simp only[step,Res.done.injEq]at U;obtain⟨rfl,rfl,rfl⟩:=U;exact wp_exit ⟨rfl,G,Y,mC h,hd⟩
 |ret=>
  simp only[step,Res.done.injEq]at U;obtain⟨rfl,rfl,rfl⟩:=U;exact wp_ret ⟨rfl,G,Y,mC h,hd⟩
 |rangeFunc _ _ _ _=>simp[step]at U
 |scope _=>simp[step]at U
 |label _=>simp[step]at U
 |goto _=>simp[step]at U
 |refuse _=>simp[step]at U
theorem Vs(V:Fit P){n:Nat}{ih:Task->Res}(m:Snd P B n ih){f N:Nat}{c:Code}{E:aw}{x:AX}{C:aw}(U:step P B.cfg ih (.code f N (.loop c) E H)=.done x C H')
 {a:Act} (h:R B H w G) (M:TR N G E a) (hd:a.defers=[]):Code.rounds P c (lX B N H.next G w x C H') (n+1) a w:=by
 rw[rounds_succ];obtain⟨x1,E1,H1,h1,Y⟩:=Gm m U;refine t9 (fun e K J o=>?_) (m.code _ _ _ _ _ _ _ _ h1 G w a h M hd);obtain⟨rfl,O,j,I,Z⟩:=o;rcases Y with⟨rfl,Y⟩|⟨z,rfl,rfl,rfl⟩
 .exact FJ (fun e a w o=>BY I o) (m.loop _ _ _ _ _ _ _ _ Y O J K I.r j Z)
 .cases x with
  |normal=>exact(z rfl).elim
  |exit id=>exact⟨rfl,O,j,I,Z⟩
  |ret=>exact⟨rfl,O,j,I,Z⟩
theorem K5(fit:Fit P)(hc:Vo P B):∀n,Snd P B n (zmi P B.cfg n)
 |0=>⟨fun _ _ _ _ _ h=>by simp[zmi]at h,fun _ _ _ _ _ _ _ _ h=>by simp[zmi]at h,fun _ _ _ _ _ _ _ _ h=>by simp[zmi]at h⟩
 |n+1=>by
  have m:=K5 fit hc n;have he:zmi P B.cfg (n+1)=step P B.cfg (zmi P B.cfg n):=rfl;rw[he];refine⟨fun f M H r H' U G w vs h Z=>?_,fun f N c E H x E' H' U G w a h ht hd=>Vr fit m U h ht hd,fun f N c E H x E' H' U G w a h ht hd=>Vs fit m U h ht hd⟩;have V:∀{G:Gh}{M:List AV}{vs:List Value}{H:Hp}{C:AV},B.cfg.call f M=some C->R B H w G->cm G M vs ->
   (∃o,P.funcs[f]?=some o/\o.body.isSome=true)/\Calls P f vs.toArray w (fun e Y=>∃v O,e=.returned v/\VR O C v/\Step B H.next G w H Y O):=fun{G M vs H C} hr h Z=>by
   obtain⟨h1,h2⟩:=hc f M C hr;refine⟨h1,(h2 G w vs h.val h.frz Z).mono fun e Y z=>?_⟩;obtain⟨v,F',rfl,J,hg⟩:=z;exact⟨v,_,rfl,J,h.grow hg⟩
  have K:∀{G:Gh}{M:List AV}{vs:List Value}{H H':Hp}{r:AV},pI P B.cfg (zmi P B.cfg n) f M H=.val r H'->R B H w G->cm G M vs ->
   (∃o,P.funcs[f]?=some o/\o.body.isSome=true)/\Calls P f vs.toArray w (fun e Y=>∃v O,e=.returned v/\VR O r v/\Step B H.next G w H' Y O):=fun{G M vs H H' r} U h Z=>by
   unfold pI at U;split at U
   .unfold yH at U;split at U
    .rename_i asx H1 j;split at U
     .rename_i C hr;simp only[Res.val.injEq]at U;obtain⟨rfl,rfl⟩:=U;obtain⟨G1,s1,r1⟩:=B4 (B5 100) M vs H asx H1 G h Z j;obtain⟨h1,h2⟩:=V hr s1.r r1;refine⟨h1,h2.mono fun e Y z=>?_⟩;obtain⟨v,O,rfl,J,I⟩:=z;exact⟨v,O,rfl,J,s1.trans I⟩
     .exact Gl fit m U h Z
    .exact Gl fit m U h Z
   .exact Gl fit m U h Z
  simp only[step]at U;split at U
  .rename_i C hr;simp only[Res.val.injEq]at U;obtain⟨rfl,rfl⟩:=U;exact V hr h Z
  .unfold wL at U;split at U
   .rename_i v1 H1 hz hv1;obtain⟨g1,g2⟩:=K hv1 h Z;refine⟨g1,g2.mono fun e Y z=>?_⟩;obtain⟨v,O,rfl,J,I⟩:=z;cases hi:fh 100 v1 H1 with
    |none=>rw[hi]at U;simp[iD]at U
    |some p=>
     obtain⟨q,H2⟩:=p;rw[hi]at U;simp only[iD,Res.val.injEq]at U;obtain⟨rfl,rfl⟩:=U;obtain⟨G2,s2,r2⟩:=B5 100 v1 H1 _ _ O v I.r J hi;exact⟨v,G2,rfl,r2,I.trans s2⟩
   .exact K U h Z
end
open Go Go.RowKit Go.WideShapes Go.ChangeShapes
theorem Vt(r:Nat):zlv.get r=none:=rfl
theorem R.start{w:World}{G:Gh}{cfg:Cfg}(K:∀b o v,G.F b o=some v->w.cell? ⟨b,o,none⟩=some v)(C:∀r,G.β r=none)(J:oE cfg.dec G.ρ):R ⟨w.heap.size,G.ρ,cfg⟩ zlv w G:=by
 refine⟨aB _,?_,?_,?_,?_,?_,?_,?_,?_,?_,K,rfl,J,?_⟩<;>intros<;>simp_all
theorem w1{g:AV->Option AV}:∀{z Y:List AV},iceL g z=some Y->Y.length=z.length/\∀(i:Nat) d,Y[i]?=some d->∃c,z[i]?=some c/\g c=some d
 |[],Y,h=>by
  simp only[iceL,aL]at h;subst h;exact⟨rfl,ax⟩
 |c::z,Y,h=>by
  simp only[iceL]at h;split at h
  .rename_i d C m j;simp only[aL]at h;subst h;obtain⟨Z,V⟩:=w1 j;refine⟨by simp[Z],fun i e o=>?_⟩;cases i with
   |zero=>simp at o;subst o;exact⟨c,rfl,m⟩
   |succ i=>exact V i e BP
  .simp at h
theorem K6{g:AV->Option AV}:∀{z Y:List (List AV)},tW g z=some Y->Y.length=z.length/\∀(i:Nat) d,Y[i]?=some d->∃c,z[i]?=some c/\iceL g c=some d
 |[],Y,h=>by
  simp only[tW,aL]at h;subst h;exact⟨rfl,ax⟩
 |c::z,Y,h=>by
  simp only[tW]at h;split at h
  .rename_i d C m j;simp only[aL]at h;subst h;obtain⟨Z,V⟩:=K6 j;refine⟨by simp[Z],fun i e o=>?_⟩;cases i with
   |zero=>simp at o;subst o;exact⟨c,rfl,m⟩
   |succ i=>exact V i e BP
  .simp at h
theorem zk{H:Hp}{G G2:Gh}{w:World}(hρ:G2.ρ=G.ρ)(hF:∀b o v,G.F b o=some v->G2.F b o=some v)
 (J:∀r b o x cs imm tip,G.β r=some (b,o,x)->H.get r=some (.cells cs imm tip)->jI G w b o cs/\∀j v,w.cell? ⟨b,o+j,none⟩=some v->G2.F b (o+j)=some v) :
 ∀(n:Nat) (v:AV) (x:Value) (q:AV),VR G v x->iceV H n v=some q->VR G2 q x
 |0,_,_,_,_,h=>by simp[iceV]at h
 |n+1,v,x,q,hv,h=>by
  have hlist:∀{cs ds:List AV}{vs:List Value},cm G cs vs->iceL (iceV H n) cs=some ds->cm G2 ds vs:=fun{cs ds vs} Y hi=>by
   obtain⟨h1,h2⟩:=w1 hi;refine⟨by rw[h1];exact Y.1,fun i d u hd hu=>?_⟩;obtain⟨c,hc,hcd⟩:=h2 i d hd;exact zk hρ hF J n c u d (Y.2 i c u hc hu) hcd
  cases hv with
  |int k a=>simp only[iceV,aL]at h;subst h;exact .int _ _
  |sx k e=>simp only[iceV,aL]at h;subst h;rw[<-hρ];exact .sx _ _
  |bool b=>simp only[iceV,aL]at h;subst h;exact .bool _
  |str s l hs=>simp only[iceV,aL]at h;subst h;exact .str _ _ hs
  |nilP=>simp only[iceV,aL]at h;subst h;exact .nilP
  |nilM=>simp only[iceV,aL]at h;subst h;exact .nilM
  |nilF=>simp only[iceV,aL]at h;subst h;exact .nilF
  |nilS=>simp only[iceV,aL]at h;subst h;exact .nilS
  |ptr _=>simp[iceV]at h
  |iptr _ _ _=>simp[iceV]at h
  |map _=>simp[iceV]at h
  |clo _ _=>simp[iceV]at h
  |agg hl Y=>
   simp only[iceV]at h;split at h
   .rename_i ds hds;simp only[aL]at h;subst h;have:=hlist ⟨hl,Y⟩ hds;exact .agg this.1 this.2
   .simp at h
  |tup hl Y=>
   simp only[iceV]at h;split at h
   .rename_i ds hds;simp only[aL]at h;subst h;have:=hlist ⟨hl,Y⟩ hds;exact .tup this.1 this.2
   .simp at h
  |lst0 a cap=>
   simp only[iceV,tW,aL]at h;subst h;exact .lst0 _ _
  |lst vs hz hFx hvx hc=>
   rename_i xs b o cap z;simp only[iceV]at h;split at h
   .rename_i ys hys;simp only[aL]at h;subst h;obtain⟨h1,h2⟩:=K6 hys;rw[<-h1];refine .lst vs (z:=z) (fun i V hr=>?_) (fun i j hi hj=>hF _ _ _ (hFx i j (by rw[<-h1];exact hi) hj)) (fun i j V c hr hcj=>?_) (by rw[h1];exact hc)
    .obtain⟨c,C,hc2⟩:=h2 i V hr;rw[(w1 hc2).1];exact hz i c C
    .obtain⟨c0,C,hc2⟩:=h2 i V hr;obtain⟨c1,hc3,hc4⟩:=(w1 hc2).2 j c hcj;exact zk hρ hF J n c1 (vs i j) c (hvx i j c0 c1 C hc3) hc4
   .simp at h
  |sl hr hl hcx=>
   rename_i r O U z b o xx cap;simp only[iceV]at h;split at h
   .rename_i cs imm tip hg;split at h
    .rename_i l hil;split at h
     .rename_i I;simp only[aL]at h;subst h;obtain⟨hh,hnew⟩:=J r b o xx cs imm tip hr hg;obtain⟨h1,h2⟩:=w1 hil;have Z:∀(m:Nat) c,l[m]?=some c->∃v,w.cell? ⟨b,o+O+m,none⟩=some v/\VR G2 c v:=fun m c hm=>by
       obtain⟨c0,hc0,C⟩:=h2 m c hm;rw[rD]at hc0;split at hc0
       .rw[tX]at hc0;obtain⟨v,M,hv2⟩:=hh _ _ hc0;exact⟨v,by rw[iE];exact M,zk hρ hF J n c0 v c hv2 C⟩
       .simp at hc0
      have hlc:=Gj z U l;have hin:∀i j,i<U->j<z->i*z+j<l.length:=fun i j hi hj=>by
       rw[I]
       calc i*z+j<i*z+z:=by omega
        _=(i+1)*z:=by rw[pL,zf]
        _<=U*z:=wW _ hi
      have key:VR G2 (.lst (gN z U l)) (.slice (some ⟨b,o+O,none⟩) (gN z U l).length cap):=by
       refine .lst (fun i j=>(w.cell? ⟨b,o+O+(i*z+j),none⟩).getD undef) (z:=z) (fun i V K=>(zj z U l i V I K).1) (fun i j hi hj=>?_) (fun i j V c K hcj=>?_) (by rw[hlc];exact hl)
       .rw[hlc]at hi;have hm:=hin i j hi hj;obtain⟨v,M,_⟩:=Z (i*z+j) _ (aT hm);rw[M];have:=hnew (O+(i*z+j)) v (by rw[<-iE];exact M);rw[show o+O+i*z+j=o+(O+(i*z+j)) by omega];exact this
       .have hm:=(zj z U l i V I K).2 j c hcj;obtain⟨v,M,hv2⟩:=Z (i*z+j) c hm;rw[M];exact hv2
      rw[hlc]at key;exact key
     .simp at h
    .simp at h
   .simp at h
theorem Vu(w:World){G G2:Gh}(Z:G2.ρ=G.ρ)(U:∀b o v,G.F b o=some v->G2.F b o=some v){m:Nat}{M:List AV}(h:ss m M=true){vs:List Value}(V:cm G M vs):cm G2 M vs:=by
 unfold ss at h;split at h
 .rename_i z C;have:=qG h;subst this;obtain⟨h1,h2⟩:=w1 C;refine⟨V.1,fun i c v hc O=>?_⟩;obtain⟨c0,j,Y⟩:=h2 i c hc;rw[hc]at j;simp only[aL]at j;subst j;exact zk (H:=zlv) (w:=w) Z U (fun r b o x cs K J _ I=>by simp[Vt]at I) m c v c (V.2 i c v hc O) Y
 .simp at h
theorem Gn{P:Program}{ih:Task->Res}{f:FuncId}{M:List AV}{H H':Hp}{r:AV}(h:pG P ih f M H=.val r H'):∃V,P.funcs[f]?=some V/\V.body.isSome=true:=by
 unfold pG at h;split at h
 .rename_i V m;split at h
  .rename_i c C;exact⟨V,m,by simp[C]⟩
  .simp at h
 .simp at h
theorem Vv{P:Program}{cfg:Cfg}{ρ:Nat->Int}(z:∀f M r,cfg.call f M=some r->bM P ρ f M r){n:Nat}{f:FuncId}{M:List AV}{H H':Hp}{r:AV}(h:zmi P cfg n (.call f M H)=.val r H'):
 ∃V,P.funcs[f]?=some V/\V.body.isSome=true:=by
 cases n with
 |zero=>simp[zmi]at h
 |succ n=>
  have o:zmi P cfg (n+1)=step P cfg (zmi P cfg n):=rfl;rw[o]at h;simp only[step]at h;split at h
  .rename_i C hr;exact(z f M C hr).1
  .have K:∀{r:AV}{H':Hp},pI P cfg (zmi P cfg n) f M H=.val r H'->∃V,P.funcs[f]?=some V/\V.body.isSome=true:=fun{r H'} h=>by
    unfold pI at h;split at h
    .unfold yH at h;split at h
     .split at h
      .rename_i hr;exact(z _ _ _ hr).1
      .exact Gn h
     .exact Gn h
    .exact Gn h
   unfold wL at h;split at h
   .rename_i Z;exact K Z
   .exact K h
theorem Gp{P:Program}(fit:Fit P){cfg:Cfg}{ρ:Nat->Int}(hD:oE cfg.dec ρ)(hc:∀f M r,cfg.call f M=some r->bM P ρ f M r){n m k:Nat}{f:FuncId}{M:List AV}{r:AV}
 (hp:ss k M=true) (h:yI P cfg n m f M=some r):bM P ρ f M r:=by
 unfold yI at h;split at h
 .rename_i v0 H' I;refine⟨Vv hc I,fun G w vs O K Z=>?_⟩;subst O;have hv0:cm {G with β:=fun _=>none} M vs:=Vu w (G:=G) (G2:={G with β:=fun _=>none}) rfl (fun _ _ _ h=>h) hp Z;have hr0:R ⟨w.heap.size,G.ρ,cfg⟩ zlv w {G with β:=fun _=>none}:=R.start (G:={G with β:=fun _=>none}) K (fun _=>rfl) hD;refine((K5 (B:=⟨w.heap.size,G.ρ,cfg⟩) fit hc n).call f M zlv _ H' I _ w vs hr0 hv0).2.mono fun e Y hh=>?_;obtain⟨x,G',rfl,hx,U⟩:=hh;have J:Below w.heap.size w Y:=⟨U.fr.os,U.fr.tape,U.fr.output,U.fr.size,fun k hk=>U.fr.block k hk (fun r b o x hr=>by simp at hr)⟩;refine⟨x,fun b o=>if b<w.heap.size then G.F b o else Y.cell? ⟨b,o,none⟩,rfl,?_,J,fun b o v Z=>?_,fun b o v Z=>?_,fun b o v Z=>?_⟩
  .refine zk (G:=G') (w:=Y) (H:=H') ?_ (fun b o v Z=>?_) (fun r b o x cs C z hr hg=>?_) m v0 x r hx h
   .exact U.ext.ρ.symm
   .rcases U.icy b o v Z with V|V
    .show(if b<w.heap.size then G.F b o else Y.cell? ⟨b,o,none⟩)=some v;rw[am (qE (K b o v V))];exact V
    .show(if b<w.heap.size then G.F b o else Y.cell? ⟨b,o,none⟩)=some v;rw[af (by have:w.heap.size<=b:=V;omega)];exact U.r.frz b o v Z
   .refine⟨U.r.cells r b o x cs C z hr hg,fun j v hj=>?_⟩;have V:w.heap.size<=b:=(U.r.lt r b o x hr).1;show(if b<w.heap.size then G.F b (o+j)else Y.cell? ⟨b,o+j,none⟩)=some v;rw[af ac];exact hj
  .rw[am (qE (K b o v Z))];exact Z
  .split at Z
   .exact .inl Z
   .exact .inr ac
  .split at Z
   .rename_i hb;rw[(Gi J hb).1];exact K b o v Z
   .exact Z
 .simp at h
theorem K7{P:Program}{ρ:Nat->Int}{f:FuncId}{M:List AV}{b:Bool}(h:bM P ρ f M (.bool b)){vs:List Value}{w:World}{F:Nat->Nat->Option Value}
 (Y:∀b o v,F b o=some v->w.cell? ⟨b,o,none⟩=some v) (Z:cm ⟨fun _=>none,F,ρ⟩ M vs) :
 Calls P f vs.toArray w (fun e J=>e=.returned (.bool b)/\Below w.heap.size w J):=by
 refine(h.2 ⟨fun _=>none,F,ρ⟩ w vs rfl Y Z).mono fun e J V=>?_;obtain⟨v,U,rfl,hr,K⟩:=V;cases hr;exact⟨rfl,K.below⟩
def Gq:Res->Bool
 | .val (.bool true) _=>true
 |_=>false
theorem Vw{P:Program}(fit:Fit P){cfg:Cfg}{ρ:Nat->Int}(J:oE cfg.dec ρ)(z:∀f M r,cfg.call f M=some r->bM P ρ f M r){n k:Nat}{f:FuncId}{M:List AV}
 (C:ss k M=true) (h:Gq (zmi P cfg n (.call f M zlv))=true):bM P ρ f M (.bool true):=by
 refine Gp fit J z (n:=n) (m:=1) C ?_;unfold yI;unfold Gq at h;split at h
 .rename_i H o;rw[o];rfl
 .simp at h
theorem Vx{P:Program}(fit:Fit P){cfg:Cfg}{ρ:Nat->Int}(J:oE cfg.dec ρ)(z:∀f M r,cfg.call f M=some r->bM P ρ f M r){n m k:Nat}{f:FuncId}{M:List AV}{r:AV}
 (C:ss k M=true) (h:Fa P cfg n m f M r=true):bM P ρ f M r:=by
 unfold Fa at h;split at h
 .rename_i q V;rw[<-AV.beq_eq h];exact Gp fit J z C V
 .simp at h
theorem pP(ρ:Nat->Int):oE (fun _ _ _=>none) ρ:=fun _ _ _ _ _ h=>lY
def w5(P:Program)(ρ:Nat->Int):List (FuncId×List AV×AV)->Prop
 |[]=>True
 |p::l=>bM P ρ p.1 p.2.1 p.2.2/\w5 P ρ l
theorem B6{P:Program}{ρ:Nat->Int}:∀{l:List (FuncId×List AV×AV)},w5 P ρ l->∀f M r,vh l f M=some r->bM P ρ f M r
 |[],_,_,_,_,h=>by simp[vh]at h
 |p::l,hk,f,M,r,h=>by
  simp only[vh]at h;split at h
  .rename_i K;split at h
   .rename_i O;simp only[aL]at h;subst h;rw[<-jk K,<-qG O];exact hk.1
   .exact B6 hk.2 f M r h
  .exact B6 hk.2 f M r h
def zl:List (Nat×Nat×Plan)->FuncId->Nat->Plan
 |[],_,_=>.text
 |p::l,f,id=>match Nat.beq p.1 f with
  |true=>match Nat.beq p.2.1 id with
   |true=>p.2.2
   |false=>zl l f id
  |false=>zl l f id
def Vy(pls:List (Nat×Nat×Plan))(l:List (FuncId×List AV×AV)):Cfg:={keep:=fun _=>false,call:=vh l,ice:=fun f=>l.any fun p=>Nat.beq p.1 f,plan:=zl pls}
theorem Vz{P:Program}(fit:Fit P){ρ:Nat->Int}{pls:List (Nat×Nat×Plan)}{l:List (FuncId×List AV×AV)}(Z:w5 P ρ l){n m k:Nat}{f:FuncId}{M:List AV}{r:AV}
 (C:ss k M=true) (h:Fa P (Vy pls l) n m f M r=true):bM P ρ f M r:=Vx fit (pP ρ) (B6 Z) C h
def Gs:Cfg:={keep:=fun _=>false}
theorem VA{P:Program}{ρ:Nat->Int}:∀f M r,Gs.call f M=some r->bM P ρ f M r:=fun _ _ _ h=>by simp[Gs]at h
def K8(P:Program):Bool:=P.funcs.all (fun V=>!(V.body.isSome&&V.name == "runtime.NumGoroutine"))&&P.follows .mixedOrders
theorem Fit.of{P:Program}(h:K8 P=true):Fit P:=by
 simp only[K8,co]at h;refine⟨fun f V K C=>?_,h.2⟩;have m:=h.1;rw[FS]at m;have:=m V (by exact Array.mem_of_getElem? K);simpa [C]using this
theorem closed{P:Program}(fit:Fit P){n f:Nat}(h:Gq (zmi P Gs n (.call f [] zlv))=true){w:World}:
 Calls P f #[] w (fun e J=>e=.returned (.bool true)/\Below w.heap.size w J):=
 K7 (ρ:=fun _=>0) (F:=fun _ _=>none) (Vw fit (pP _) VA (k:=1) rfl h) (fun _ _ _ h=>lY) (qD _)
section
variable {H:Type} {enc:TypeId × Value -> H} {P:Program}
theorem VB{f:Func}{s:ChangeSpec}{apart K M O:Bool}{W o:World}{Z:Array Value}{v:Value}{m gs:List (DataW H)}{U pa pv:List MemPlace}
 (hW:DataW.Whole enc P f.params.toList s.vars apart W Z.toList m gs U)
 (C:∀(b:Nat) (z:Nat->Bool) (hd:Bool),DataW.TrodAll enc P o b z hd f.resultTypes.toList (v.resultList f.resultTypes.size) (s.fn H (m++gs)).results [])
 (I:∀z:Nat->Bool,(∀p∈U,z p.block=true)->DataW.TrodAll enc P o 0 z true f.params.toList Z.toList (s.fn H (m++gs)).args pa)
 (Y:∀z:Nat->Bool,(∀p∈U,z p.block=true)->DataW.TrodVars enc P o z s.vars (s.fn H (m++gs)).vars pv)
 (J:U=pa++pv) (hb:Below W.heap.size W o)
 (hok:∀(j:Nat) (t:TypeId) (r:Value),f.resultTypes[j]?=some t->(v.resultList f.resultTypes.size)[j]?=some r->Value.okWide P o .any 0 t r) :
 s.post enc P f apart K M O W Z v o:=by
 have hlt:∀p∈U,p.block<W.heap.size:=fun p hp=>hW.lt p hp;have V:∀p∈U,(fun b=>decide (b<W.heap.size)) p.block=true:=fun p hp=>by simpa using hlt p hp
 refine⟨m,gs,U,[],pa,pv,hW,C _ _ _,I _ V,Y _ V,World.keptBut_mono (fun p hp=>⟨hp,?_⟩) (hb.frame (·∈ U)),fun _=>?_⟩
 .rw[J,mX]at hp;exact Or.inr hp
 .obtain⟨_,_,_,_,_,hz,hn⟩:=hW;refine⟨hok,_,_,([]++pa)++pv,⟨[]++pa,pv,trodAll_append (I _ (fun _ _=>rfl)) (C _ _ _),Y _ (fun _ _=>rfl),rfl,?_,?_⟩,?_⟩
  .intro b off hp;have hin:MemPlace.cell b off∈U:=by rw[J];simpa using hp
   rw[hb.frozen (hlt _ hin)];exact hz b off hin
  .intro ha;have:=hn ha;rw[J]at this;simpa using this
  .intro p hp _;rw[J];simpa using hp
end
end Go.Ab
