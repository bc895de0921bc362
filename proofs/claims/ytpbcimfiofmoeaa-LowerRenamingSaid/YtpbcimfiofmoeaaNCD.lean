/- Parts: AbDraw, AbPlan, AbCon, AbSound, AbLaw. -/
import Derived.Below
import Derived.ChangeSame
import Derived.Orders
import Derived.Test.YtpbcimfiofmoeaaNCC
set_option linter.unusedSimpArgs false
set_option linter.unusedVariables false
set_option linter.unusedSectionVars false
set_option linter.defProp false
set_option maxHeartbeats 32000000
namespace Go.Ab
set_option maxRecDepth 20000
open Go
theorem j5{P:Prop}(h:P:=by simpa using h):P:=h
theorem m0{P:Prop}(h:P:=by rw[e]):P:=h
theorem j6{P:Prop}(h:P:=by simp at h):P:=h
theorem EA{P:Prop}(h:P:=by rw[V.size];exact(List.getElem?_eq_some_iff.1 J).1):P:=h
theorem EB{P:Prop}(h:P:=by rw[hs];have:=(List.getElem?_eq_some_iff.1 V).1;simpa using this):P:=h
theorem Bf{P:Prop}(h:P:=by rw[List.length_drop];omega):P:=h
def fz:=@List.mem_cons
def pJ:=@List.mem_append
def Bg:=@List.mem_flatMap
def nP:=@List.mem_range
def mc:=@Bool.not_true
def jv:=@Bool.false_or
def qK:=@List.mem_filter
def oI:=@Array.getElem?_eq_getElem
def r8:=@Bool.not_eq_true'
def Bh:=@Array.all_eq_true_iff_forall_mem
def pK:=@Bool.or_eq_true
def kJ:=@List.mem_map
def uW:=@Nat.lt_or_ge
def Bi:=@Array.getElem?_eq_none
def uX:=@List.any_eq_false
def xG:=@Nat.lt_trichotomy
def uY:=@List.eq_nil_iff_forall_not_mem
def md:=@List.getElem?_eq_none
def EC:=@Array.getElem?_replicate
def nQ:=@Bool.true_or
def eQ:=@List.mem_cons_self
def fH:=@List.mem_cons_of_mem
def jJ:=@List.map_append
def Bj:=@List.mem_iff_getElem?
def ja:=@List.map_map
def xH:=@Bool.and_self
def uZ:=@Nat.one_mul
def kK:=@true_and
end Go.Ab
namespace Go.Ab
set_option maxRecDepth 20000
open Go Go.RowKit
theorem Bk{i:Nat}:∀{l V:List Nat},i∈te V l↔i∈V\/i∈l
 |[],V=>by simp[te]
 |x::xs,V=>by
  simp only[te];split
  .rename_i h;have I:x∈V:=j5;rw[Bk,fz];exact⟨fun h=>h.elim .inl (fun h=>.inr (.inr h)),fun h=>h.elim .inl (fun h=>h.elim (fun e=>.inl (by subst e;exact I)) .inr)⟩
  .rw[Bk,fz,fz];exact⟨fun h=>h.elim (fun h=>h.elim (fun e=>.inr (.inl e)) .inl) (fun h=>.inr (.inr h)),fun h=>h.elim (fun h=>.inl (.inr h)) (fun h=>h.elim (fun e=>.inl (.inl e)) .inr)⟩
theorem MH{i:Nat}{l:List Nat}:i∈uA l↔i∈l:=by unfold uA;rw[Bk];simp
theorem Bl:∀(l:List Oper) (V:List (List Nat)) (i:Nat),i<V.length->(gg l V).getD i []=V.getD i []
 |[],V,i,_=>rfl
 |o::l,V,i,h=>by
  simp only[gg];rw[Bl l _ i cc];simp[List.getD,lZ h]
theorem ED:∀(l:List Oper) (V:List (List Nat)) (j:Nat) (o:Oper),l[j]?=some o ->
 ∃Z:List (List Nat),Z.length=V.length+j/\(∀i,i<Z.length->(gg l V).getD i []=Z.getD i [])/\(gg l V).getD (V.length+j) []=uA (preds o++(preds o).flatMap fun i=>Z.getD i [])
 |[],_,_,_,h=>by simp at h
 |o::l,V,0,o',h=>by
  simp at h;subst h;refine⟨V,rfl,fun i z=>Bl _ _ i z,?_⟩;simp only[gg,pG];rw[Bl l _ V.length aw];simp[List.getD]
 |o::l,V,j+1,o',h=>by
  obtain⟨Z,Y,g,m⟩:=ED l (V++[uA (preds o++(preds o).flatMap fun i=>V.getD i [])]) j o' j5;simp only[fy,cS,ed]at Y m;refine⟨Z,ac,g,?_⟩;simp only[gg];rw[show V.length+(j+1)=V.length+(0+1)+j by omega];exact m
theorem MI{l:List Oper}{j:Nat}{o:Oper}(O:l[j]?=some o)(V:∀p∈preds o,p<j){i:Nat}:
 i∈(gg l []).getD j []↔i∈preds o\/∃p∈preds o,i∈(gg l []).getD p []:=by
 obtain⟨U,Z,g,m⟩:=ED l [] j o O;simp only[ed,b4]at Z m;rw[m,MH,pJ,Bg];constructor
 .rintro(h|⟨p,Y,I⟩)
  .exact .inl h
  .exact .inr ⟨p,Y,by rw[g p (by rw[Z];exact V p Y)];exact I⟩
 .rintro(h|⟨p,Y,I⟩)
  .exact .inl h
  .exact .inr ⟨p,Y,by rw[<-g p (by rw[Z];exact V p Y)];exact I⟩
structure CalmD (l:List Oper):Prop where
 lt:∀j o,l[j]?=some o->∀p∈preds o,p<j
 guard:∀j o g b,l[j]?=some o->o.guard=some (g,b)->g∈(gg l []).getD j []
 clash:∀i j p q,i<j->l[i]?=some p->l[j]?=some q->Ab.clash l p q=true->i∈(gg l []).getD j []
theorem MJ{l:List Oper}(h:oB l=true):CalmD l:=by
 unfold oB at h;simp only[iB,nP]at h;have K:∀j o,l[j]?=some o->(∀p∈preds o,p<j)/\(∀g b,o.guard=some (g,b)->g∈(gg l []).getD j [])/\∀i p,i<j->l[i]?=some p->Ab.clash l p o=true->i∈(gg l []).getD j []:=fun j o Y=>by
  have:=h j (ej.1 Y).1;rw[Y]at this;simp only[bT,iB,oG,nP]at this;obtain⟨⟨O,V⟩,m⟩:=this;refine⟨O,fun g b C=>?_,fun i p z hp hc=>?_⟩
  .rw[C]at V;simpa using V
  .have:=m i z;rw[hp]at this;simp only[hc,mc,jv]at this;simpa using this
 exact⟨fun j o Y=>(K j o Y).1,fun j o g b Y=>(K j o Y).2.1 g b,fun i j p q Z z U=>(K j q U).2.2 i p Z z⟩
theorem Bm{l:List Oper}(V:CalmD l){D:Nat->Prop}(U:∀j,D j->∀o,l[j]?=some o->∀p∈preds o,D p):
 ∀(j:Nat) o,l[j]?=some o->(∀p∈preds o,D p)->∀i∈(gg l []).getD j [],D i:=by
 intro j;induction j using Nat.strongRecOn with
 |_ j ih=>
  intro o Z hp i z;rcases(MI Z (V.lt j o Z)).1 z with h|⟨p,Y,I⟩
  .exact hp i h
  .have K:=V.lt j o Z p Y;have M:=(ej.1 Z).1;have C:l[p]?=some (l[p]' ac):=aY ac;exact ih p K _ C (fun q O=>U p (hp p Y) _ C q O) i I
theorem m1{l:List Oper}{i:Nat}:i∈iw l↔∃o,l[i]?=some o/\lh o=true:=by
 unfold iw;rw[qK,nP];constructor
 .rintro⟨Z,g⟩;rw[aY Z]at g;exact⟨_,aY Z,g⟩
 .rintro⟨o,Z,g⟩;exact⟨(ej.1 Z).1,by rw[Z];exact g⟩
theorem j7{ops:Array Oper}{Z:Array Bool}{i:Nat}:i∈Region.ready .any ops Z↔∃o,ops.toList[i]?=some o/\Z.getD i true=false/\∀p∈preds o,Z.getD p false=true:=by
 unfold Region.ready preds;rw[qK,nP,uR];constructor
 .rintro⟨Y,g⟩;rw[oI Y]at g;simp only[bT,r8,i8,bP,Bh,pK]at g;refine⟨_,oI Y,g.1,fun p hp=>?_⟩;simp only[kJ,qK]at hp;obtain⟨e,⟨J,C⟩,rfl⟩:=hp;rcases g.2 e (by simpa using J)with h|h
  .rw[C]at h;simp at h
  .exact h
 .rintro⟨o,Y,g,m⟩;have z:i<ops.size:=by
   rcases uW i ops.size with h|h
   .exact h
   .rw[Bi h]at Y;simp at Y
  refine⟨z,?_⟩;rw[Y];simp only[bT,r8,i8,bP,Bh,pK];refine⟨g,fun e U=>?_⟩;cases V:Region.binds .any e with
  |false=>exact .inl rfl
  |true=>exact .inr (m e.on (by simp only[kJ,qK];exact⟨e,⟨by simpa using U,V⟩,rfl⟩))
theorem Bn{l:List Oper}:∀(k s:Nat),s+k=l.length->∃m,s<=m/\m<=l.length/\(m=l.length\/m∈iw l)/\∀j,s<=j->j<m->j∉iw l
 |0,s,hs=>⟨s,aA _,ac,.inl ac,fun j i g=>ac⟩
 |k+1,s,hs=>by
  by_cases h:s∈iw l
  .exact⟨s,aA _,ac,.inr h,fun j i g=>ac⟩
  .obtain⟨m,i,g,Y,L⟩:=Bn (l:=l) k (s+1) ac;refine⟨m,ac,g,Y,fun j V Z=>?_⟩;by_cases e:j=s
   .subst e;exact h
   .exact L j ac Z
section
variable {P:Program} {B:Bs} {cfg:Cfg}
structure Ctx (P:Program) (cfg:Cfg) (ih:Task->Res) (f N:Nat) (l:List Oper) (E0:au) (zbk:Hp) (E':au) (H':Hp) (rs:List Rec):Prop where
 calm:CalmD l
 len:rs.length=l.length
 at':∀(i:Nat) (r:Rec),rs[i]?=some r->∃o,l[i]?=some o/\AtD P cfg ih f N l o r (zcK rs E' i) (zcK rs E' (i+1)) (zbE rs H' i) (zbE rs H' (i+1))
 zeroE:zcK rs E' 0=E0
 zeroH:zbE rs H' 0=zbk
 next:∀i,i<l.length->(zbE rs H' i).next<=(zbE rs H' (i+1)).next
 look:∀(i:Nat) (r:Rec),rs[i]?=some r->r.did=true->∀m,(m∈iw l\/m=l.length)->(∀e∈iw l,e∈(gg l []).getD i []->e<m)->(∀e∈iw l,i∈(gg l []).getD e []->m<=e) ->
  zdd P cfg r (zbE rs H' m)=true
theorem MK{ih:Task->Res}{f N:Nat}{l:List Oper}{E0 E':au}{zbk H':Hp}{rs:List Rec}(hc:oB l=true)(hr:iu P cfg ih f N l l E0 zbk=.done E' H' rs)(K:rK P cfg (mO l) rs H'=true):
 Ctx P cfg ih f N l E0 zbk E' H' rs:=by
 have I:=uV hr;obtain⟨z1,z2⟩:=Bb I;have Y:=Ba I;unfold rK at K;simp only[bT,iB]at K;refine⟨MJ hc,Y,fun i r z=>rZ I z,z1,z2,fun i z=>?_,fun i r z hd m hm h1 h2=>?_⟩
 .have hi':i<rs.length:=by omega
  have J:=aY hi';obtain⟨o,_,ha⟩:=rZ I J;have h3:=uQ (K.1 _ (oF J));rw[ha.eH,ha.eH']at h3;exact h3
 .obtain⟨o,ho,ha⟩:=rZ I z;have L:xh (gg l []) (iw l) i m=true:=by
   unfold xh;simp only[r8,iC,uX,bT,not_and];refine⟨fun e U hA O=>?_,fun e U hA g=>?_⟩
   .have:=h1 e U (by simpa using hA);have:=uQ O;omega
   .have:=h2 e U (by simpa using hA);have:e<m:=by simpa [i4]using g
    omega
  have C:∀k,zcN o.op=k->(k=.read\/k=.make)->(i,m)∈mO l:=fun k Z hor=>by
   unfold mO;rw[Bg];refine⟨i,nP.2 (ej.1 ho).1,?_⟩;rw[ho];have V:(i,m)∈((iw l++[l.length]).filter (xh (gg l []) (iw l) i)).map fun m=>(i,m):=
    kJ.2 ⟨m,qK.2 ⟨by simpa using hm,L⟩,rfl⟩
   rcases hor with rfl|rfl<;>simp only[Z]<;>exact V
  have j:(i,m)∈mO l->zdd P cfg r (zbE rs H' m)=true:=fun h=>by
   have:=K.2 _ h;simp only[z,hd,mc,jv]at this;exact this
  have M:r.o=o:=ha.eo;cases Z:zcN o.op with
  |read=>exact j (C _ Z (.inl rfl))
  |make=>exact j (C _ Z (.inr rfl))
  |calm=>unfold zdd;rw[M,Z]
  |act=>unfold zdd;rw[M,Z]
section
variable {ih:Task -> Res} {f N:Nat} {ops:Array Oper} {E0 E':au} {zbk H':Hp} {rs:List Rec} (cx:Ctx P cfg ih f N ops.toList E0 zbk E' H' rs)
include cx
theorem Ctx.record{i:Nat}{o:Oper}(Y:ops.toList[i]?=some o):∃r,rs[i]?=some r/\AtD P cfg ih f N ops.toList o r (zcK rs E' i) (zcK rs E' (i+1)) (zbE rs H' i) (zbE rs H' (i+1)):=by
 have z:i<rs.length:=by rw[cx.len];exact(ej.1 Y).1
 obtain⟨V,Z,g⟩:=cx.at' i _ (aY z);rw[Y]at Z;simp only[az]at Z;subst Z;exact⟨_,aY z,g⟩
theorem Ctx.gap:∀(d s:Nat),s+d<=ops.toList.length->(∀j,s<=j->j<s+d->j∉iw ops.toList) ->
 (zbE rs H' s).next<=(zbE rs H' (s+d)).next/\∀r,r<(zbE rs H' s).next->(zbE rs H' (s+d)).get r=(zbE rs H' s).get r
 |0,s,_,_=>⟨aA _,fun _ _=>rfl⟩
 |d+1,s,hs,hn=>by
  obtain⟨i,g⟩:=Ctx.gap d s ac (fun j V U=>hn j V ac);have K:s+d<ops.toList.length:=ac;obtain⟨r,hr,ha⟩:=cx.record (aY K);have Y:lh (ops.toList[s+d])=false:=by
   cases Z:lh (ops.toList[s+d])with
   |false=>rfl
   |true=>exact(hn (s+d) ac ac (m1.2 ⟨_,aY K,Z⟩)).elim
  have m:zbE rs H' (s+d+1)=zbE rs H' (s+d)\/∃z,zbE rs H' (s+d+1)=(zbE rs H' (s+d)).alloc z:=by
   cases hd:r.did with
   |true=>exact MG Y (ha.yes hd)
   |false=>exact .inl (ha.no hd).2
  rw[show s+(d+1)=s+d+1 by omega];rcases m with e|⟨z,e⟩
  .rw[e];exact⟨i,g⟩
  .rw[e];refine⟨cc,fun k O=>?_⟩;rw[zaY,af ac];exact g k O
theorem Ctx.nextMono:∀(d s:Nat),s+d<=ops.toList.length->(zbE rs H' s).next<=(zbE rs H' (s+d)).next
 |0,_,_=>aA _
 |d+1,s,hs=>cm (Ctx.nextMono d s ac) (by rw[show s+(d+1)=s+d+1 by omega];exact cx.next _ ac)
theorem Ctx.slotAt(t:Nat):∀s,s<=ops.toList.length ->
 (∃(i:Nat) (r:Rec) (o:Oper),i<s/\rs[i]?=some r/\ops.toList[i]?=some o/\o.dst=some t/\(∀(j:Nat) (Z:Oper),j<s->ops.toList[j]?=some Z->Z.dst=some t->j<=i)/\(zcK rs E' s).at t=r.val) \/
 ((∀(j:Nat) (Z:Oper),j<s->ops.toList[j]?=some Z->Z.dst≠some t)/\(zcK rs E' s).at t=E0.at t)
 |0,_=>.inr ⟨fun j Z U=>ac,by rw[cx.zeroE]⟩
 |s+1,hs=>by
  have V:ops.toList[s]?=some (ops.toList[s]' ac):=aY ac;obtain⟨r,hr,ha⟩:=cx.record V;have L:=ha.put;have O:=Ctx.slotAt t s ac;by_cases hd:(ops.toList[s]' ac).dst=some t
  .refine .inl ⟨s,r,_,ac,hr,V,hd,fun j Z U _ _=>ac,?_⟩;rw[hd]at L;simp only[ei]at L;split at L
   .simp only[az]at L;rw[<-L,tl,aj rfl]
   .simp at L
  .have Y:(zcK rs E' (s+1)).at t=(zcK rs E' s).at t:=by
    cases M:(ops.toList[s]' ac).dst with
    |none=>
     rw[M]at L;simp only[ei,az]at L;rw[<-L]
    |some d=>
     rw[M]at L hd;simp only[ei]at L;split at L
     .simp only[az]at L;rw[<-L,tl,af (fun e=>hd m0)]
     .simp at L
   rw[Y];rcases O with⟨i,z,Z,C,I,m,h4,h5,h6⟩|⟨C,I⟩
   .refine .inl ⟨i,z,Z,ac,I,m,h4,fun j J U g K=>?_,h6⟩;by_cases e:j=s
    .subst e;rw[V]at g;simp only[az]at g;subst g;exact(hd K).elim
    .exact h5 j J ac g K
   .refine .inr ⟨fun j Z U g=>?_,I⟩;by_cases e:j=s
    .subst e;rw[V]at g;simp only[az]at g;subst g;exact hd
    .exact C j Z ac g
end
def eW(o:Array Bool)(j:Nat):Prop:=o.getD j false=true
def tx(rs:List Rec)(l:List Oper)(Z:au)(D:Nat->Prop)(G:Gh)(a:Act):Prop:=∀t,
 (∃(i:Nat) (r:Rec) (o:Oper),D i/\rs[i]?=some r/\l[i]?=some o/\o.dst=some t/\(∀(j:Nat) (g:Oper),D j->l[j]?=some g->g.dst=some t->j<=i)/\VR G r.val (a.tmps.getD t undef)) \/
 ((∀(j:Nat) (g:Oper),D j->l[j]?=some g->g.dst≠some t)/\VR G (Z.at t) (a.tmps.getD t undef))
theorem tx.agree{ih:Task->Res}{f N:Nat}{ops:Array Oper}{z E':au}{zbk H':Hp}{rs:List Rec}(cx:Ctx P cfg ih f N ops.toList z zbk E' H' rs){D:Nat->Prop}{G:Gh}{a:Act}(hs:tx rs ops.toList z D G a){t s:Nat}
 (M:s<=ops.toList.length) (U:∀(j:Nat) (o:Oper),ops.toList[j]?=some o->o.dst=some t->(D j↔j<s)):VR G ((zcK rs E' s).at t) (a.tmps.getD t undef):=by
 rcases cx.slotAt t s M with⟨i,r,o,L,K,I,C,h5,h6⟩|⟨L,K⟩
 .rw[h6];have V:=(U i o I C).2 L;rcases hs t with⟨J,r',g,Z,O,Y,m,g5,g6⟩|⟨Z,_⟩
  .have e1:=h5 J g ((U J g Y m).1 Z) Y m;have e2:=g5 i o V I C;have:J=i:=ac;subst this;rw[K]at O;simp only[az]at O;subst O;exact g6
  .exact(Z i o V I C).elim
 .rw[K];rcases hs t with⟨J,r',g,Z,O,Y,m,g5,g6⟩|⟨_,O⟩
  .exact(L J g ((U J g Y m).1 Z) Y m).elim
  .exact O
structure InvD (rs:List Rec) (l:List Oper) (N:Nat) (B:Bs) (nx0:Nat) (E0:au) (H':Hp) (G0:Gh) (w0:World) (listed:Array Bool) (a:Act) (w:World) (m:Nat) (G:Gh):Prop where
 size:listed.size=l.length
 closed:∀j,eW listed j->∀o,l[j]?=some o->∀p∈preds o,eW listed p
 le:m<=l.length
 act:m=l.length\/m∈iw l
 notyet:¬eW listed m
 acts:∀e∈iw l,e<m->eW listed e
 step:Step B nx0 G0 w0 (zbE rs H' m) w G
 low:∀r p,G.β r=some p->r<nx0\/∃j,eW listed j/\j<l.length/\(zbE rs H' j).next<=r/\r<(zbE rs H' (j+1)).next
 slots:tx rs l E0 (eW listed) G a
 frame:a.tmps.size=N
 defers:a.defers=[]
theorem eW.set{o:Array Bool}{i:Nat}(z:i<o.size)(j:Nat):eW (o.setIfInBounds i true) j↔j=i\/eW o j:=by
 unfold eW;rw[iA,iA,tj];by_cases e:i=j
 .subst e;simp[z]
 .rw[af e];constructor
  .exact fun h=>.inr h
  .rintro(h|h)
   .exact(e h.symm).elim
   .exact h
def kL:=@eW.set
theorem tx.put{rs:List Rec}{l:List Oper}{E0:au}{Z:Array Bool}{G C:Gh}{a:Act}(hs:tx rs l E0 (eW Z) G a)(he:Ext G C){i:Nat}(z:i<Z.size){o:Oper}(L:l[i]?=some o){r:Rec}(hr:rs[i]?=some r)
 {v:Value} (hv:VR C r.val v) (hd:∀d,o.dst=some d->d<a.tmps.size/\∀(j:Nat) (V:Oper),eW Z j->l[j]?=some V->V.dst=some d->j<=i):tx rs l E0 (eW (Z.setIfInBounds i true)) C (a.put o.dst v):=by
 intro t;by_cases M:o.dst=some t
 .obtain⟨h1,h2⟩:=hd t M;refine .inl ⟨i,r,o,(kL z i).2 (.inl rfl),hr,L,M,fun j V Y g K=>?_,?_⟩
  .rcases(kL z j).1 Y with e|Y
   .omega
   .exact h2 j V Y g K
  .rw[M];simp only[Act.put];simpa [Array.getD,h1]using hv
 .have U:(a.put o.dst v).tmps.getD t undef=a.tmps.getD t undef:=by
   cases O:o.dst with
   |none=>rfl
   |some d=>
    rw[O]at M;have hne:d≠t:=fun e=>M m0;simp only[Act.put,iA,tj];rw[af hne]
  rw[U];rcases hs t with⟨i',r',V,I,m,g3,g4,g5,g6⟩|⟨I,m⟩
  .refine .inl ⟨i',r',V,(kL z i').2 (.inr I),m,g3,g4,fun j J Y g K=>?_,g6.mono he⟩;rcases(kL z j).1 Y with e|Y
   .subst e;rw[L]at g;simp only[az]at g;subst g;exact(M K).elim
   .exact g5 j J Y g K
  .refine .inr ⟨fun j V Y g K=>?_,m.mono he⟩;rcases(kL z j).1 Y with e|Y
   .subst e;rw[L]at g;simp only[az]at g;subst g;exact(M K).elim
   .exact I j V Y g K
theorem Bo{I:List Oper}{o:Oper}{t:Nat}:t∈qB I o↔o.dst=some t\/(Operand.tmp t)∈o.op.operands.toList\/∃g b Z,o.guard=some (g,b)/\I[g]?=some Z/\Z.dst=some t:=by
 unfold qB DU;simp only[pJ,Option.mem_toList,List.mem_filterMap];constructor
 .rintro((h|⟨x,V,h⟩)|h)
  .exact .inl h
  .cases x<;>simp at h;subst h;exact .inr (.inl V)
  .cases C:o.guard with
   |none=>rw[C]at h;simp at h
   |some p=>
    obtain⟨g,b⟩:=p;rw[C]at h;simp only[Option.mem_toList,dx]at h;obtain⟨Z,i,Y⟩:=h;exact .inr (.inr ⟨g,b,Z,rfl,i,Y⟩)
 .rintro(h|h|⟨g,b,Z,i,Y,m⟩)
  .exact .inl (.inl h)
  .exact .inl (.inr ⟨_,h,rfl⟩)
  .refine .inr ?_;rw[i];simp[Y,m]
theorem EE{I:List Oper}{p q:Oper}{d:Nat}(h:(p.dst=some d/\d∈qB I q)\/(q.dst=some d/\d∈qB I p)):Ab.clash I p q=true:=by
 unfold Ab.clash;rcases h with⟨i,g⟩|⟨i,g⟩
 .rw[i];simp[g]
 .rw[i];simp[g]
theorem Step.trans'{Z:Nat}{H' L:Hp}{G Y C:Gh}{w w' I:World}(h:Step B Z G w H' w' Y)(k:Step B Z Y w' L I C):Step B Z G w L I C:=
 ⟨k.r,h.ext.trans k.ext,h.fr.trans k.fr h.new,h.new.trans k.new h.fr.size,fun r p hr=>by
  rcases k.low r p hr with i|i
  .exact h.low r p i
  .exact .inr i,k.mono,fun b o v M=>by
  rcases k.icy b o v M with i|i
  .exact h.icy b o v i
  .exact .inr i⟩
theorem Step.weaken{L Y:Nat}{H':Hp}{G C:Gh}{w w':World}(h:Step B L G w H' w' C)(U:Y<=L):Step B Y G w H' w' C:=
 ⟨h.r,h.ext,h.fr,h.new,fun r p hr=>(h.low r p hr).imp id (fun e=>cm U e),cm U h.mono,h.icy⟩
theorem Snd.fail(P:Program)(B:Bs):Snd P B 0 (fun _=>.fail):=
 ⟨fun _ _ _ _ _ h=>j6,fun _ _ _ _ _ _ _ _ h=>j6,fun _ _ _ _ _ _ _ _ h=>j6⟩
theorem ML(fit:Fit P){n:Nat}{ih:Task->Res}(hih:Snd P B n ih){f N nx0:Nat}{ops:Array Oper}{E0 E':au}{zbk H':Hp}{rs:List Rec}(cx:Ctx P B.cfg ih f N ops.toList E0 zbk E' H' rs)(hnx:zbk.next=nx0){G0 G:Gh}{w0 w:World}
 {Y:Array Bool}{a:Act}{m:Nat} (U:InvD rs ops.toList N B nx0 E0 H' G0 w0 Y a w m G) {i:Nat} (hi:i∈Region.ready .any ops Y) {K:Act->World->Prop}{Q:Exit->Act->World->Prop}
 (hK:∀a' w' m' G',InvD rs ops.toList N B nx0 E0 H' G0 w0 (Y.setIfInBounds i true) a' w' m' G'->K a' w'):wpOp P ops Q i K a w:=by
 obtain⟨o,ho,hun,hpr⟩:=j7.1 hi;obtain⟨r,hr,ha⟩:=cx.record ho;have hil:i<ops.toList.length:=(ej.1 ho).1;have J:i<Y.size:=by rw[U.size];exact hil
 have hnot:¬eW Y i:=fun hd=>by
  unfold eW at hd;rw[iA,oI J]at hd;rw[iA,oI J]at hun;simp only[bP]at hd hun;rw[hd]at hun;simp at hun
 -- what comes before i is done;what comes behind it is not
 have I:∀j∈(gg ops.toList []).getD i [],eW Y j:=Bm cx.calm U.closed i o ho hpr;have hbehind:∀j,eW Y j->∀oj,ops.toList[j]?=some oj->i∉(gg ops.toList []).getD j []:=fun j hj oj hoj hm=>
  hnot (Bm cx.calm U.closed j oj hoj (U.closed j hj oj hoj) i hm)
 -- the writers of the slots that i names
 have hagree:∀t∈qB ops.toList o,∀(j:Nat) (oj:Oper),ops.toList[j]?=some oj->oj.dst=some t->(eW Y j↔j<i):=fun t ht j oj hoj hjd=>by
  constructor
  .intro hj;rcases xG j i with h|h|h
   .exact h
   .subst h;exact(hnot hj).elim
   .exact(hbehind j hj oj hoj (cx.calm.clash i j o oj h ho hoj (EE (.inr ⟨hjd,ht⟩)))).elim
  .intro hj;exact I j (cx.calm.clash j i oj o hj hoj ho (EE (.inl ⟨hjd,ht⟩)))
 have hslot:∀t∈qB ops.toList o,VR G ((zcK rs E' i).at t) (a.tmps.getD t undef):=fun t ht=>U.slots.agree cx (Nat.le_of_lt hil) (hagree t ht);have z:rY G (zcK rs E' i) a o.op.operands:=fun x hx c hc=>by
  cases x with
  |tmp t=>simp only[zaZ,az]at hc;subst hc;exact hslot t (Bo.2 (.inr (.inl (by simpa using hx))))
  |const v=>exact tm hc
  |global g=>simp[zaZ]at hc
  |func f=>simp only[zaZ,az]at hc;subst hc;exact .clo (vs:=[]) rfl aw
 have hwant:=Ew (G:=G) (E:=zcK rs E' i) (a:=a) (ops:=ops) (o:=o) (fun g b d hg hd=>by
  simp only[dx]at hd;obtain⟨o',h1,h2⟩:=hd;exact hslot d (Bo.2 (.inr (.inr ⟨g,b,o',hg,by rw[uR];exact h1,h2⟩))))
 have hdst:∀d,o.dst=some d->d<a.tmps.size/\∀(j:Nat) (o':Oper),eW Y j->ops.toList[j]?=some o'->o'.dst=some d->j<=i:=fun d hd=>by
  refine⟨?_,fun j o' hj hjo hjd=>Nat.le_of_lt ((hagree d (Bo.2 (.inl hd)) j o' hjo hjd).1 hj)⟩;have hp:=ha.put;rw[hd]at hp;simp only[ei]at hp;split at hp
  .rename_i hb;rw[U.frame];simpa [i4]using hb
  .simp at hp
 have hclosed':∀j,eW (Y.setIfInBounds i true) j->∀oj,ops.toList[j]?=some oj->∀p∈preds oj,eW (Y.setIfInBounds i true) p:=fun j hj oj hoj p hp=>by
  rcases(kL J j).1 hj with rfl|hj
  .rw[ho]at hoj;simp only[az]at hoj;subst hoj;exact(kL J p).2 (.inr (hpr p hp))
  .exact(kL J p).2 (.inr (U.closed j hj oj hoj p hp))
 -- an act comes up in its turn
 have hturn:lh o=true->i=m:=fun hact=>by
  have L:i∈iw ops.toList:=m1.2 ⟨o,ho,hact⟩;rcases xG i m with h|h|h
  .exact(hnot (U.acts i L h)).elim
  .exact h
  .rcases U.act with e|e
   .omega
   .obtain⟨om,C,O⟩:=m1.1 e;exact(U.notyet (I m (cx.calm.clash m i om o h C ho (by unfold Ab.clash;simp[hact,O])))).elim
 -- how the invariant goes on
 have hfin:∀(v:Value) (w':World) (G':Gh) (X:Hp),VR G' r.val v->Step B nx0 G w X w' G' ->
  (∀k p,G'.β k=some p->G.β k=some p\/((zbE rs H' i).next<=k/\k<(zbE rs H' (i+1)).next)) ->
  ((i≠m/\X=zbE rs H' m)\/(i=m/\X=zbE rs H' (i+1)))->K (a.put o.dst v) w':=fun v w' G' X hv M hlow hX=>by
  have hslots':=U.slots.put M.ext J ho hr hv hdst;have hlow':∀k p,G'.β k=some p->k<nx0\/∃j,eW (Y.setIfInBounds i true) j/\j<ops.toList.length/\(zbE rs H' j).next<=k/\k<(zbE rs H' (j+1)).next:=fun k p hk=>by
   rcases hlow k p hk with h|h
   .rcases U.low k p h with h|⟨j,h1,h2⟩
    .exact .inl h
    .exact .inr ⟨j,(kL J j).2 (.inr h1),h2⟩
   .exact .inr ⟨i,(kL J i).2 (.inl rfl),hil,h⟩
  have hframe':(a.put o.dst v).tmps.size=N:=by rw[<-U.frame];cases o.dst<;>simp[Act.put]
  have hdef':(a.put o.dst v).defers=[]:=by have:=U.defers;cases o.dst<;>exact this
  rcases hX with⟨hne,rfl⟩|⟨rfl,rfl⟩
  .refine hK _ _ m G' ⟨by simpa using U.size,hclosed',U.le,U.act,fun hd=>?_,fun e he hlt=>(kL J e).2 (.inr (U.acts e he hlt)),U.step.trans' M,hlow',hslots',hframe',hdef'⟩;rcases(kL J m).1 hd with h|h
   .exact hne h.symm
   .exact U.notyet h
  ·-- the next act
   obtain⟨m',q1,q2,q3,q4⟩:=Bn (l:=ops.toList) (ops.toList.length-(i+1)) (i+1) ac;obtain⟨g1,g2⟩:=cx.gap (m'-(i+1)) (i+1) ac (fun j h1 h2=>q4 j h1 ac);rw[show i+1+(m'-(i+1))=m' by omega]at g1 g2;have hst2:Step B nx0 G0 w0 (zbE rs H' m') w' G':=by
    have:=U.step.trans' M;exact⟨this.r.more g1 g2,this.ext,this.fr,this.new,this.low,cm this.mono g1,this.icy⟩
   have hact:∀e∈iw ops.toList,e<m'->eW (Y.setIfInBounds i true) e:=fun e he hlt=>by
    by_cases h:e<i
    .exact(kL J e).2 (.inr (U.acts e he h))
    .by_cases h2:e=i
     .exact(kL J e).2 (.inl h2)
     .exact(q4 e ac hlt he).elim
   refine hK _ _ m' G' ⟨by simpa using U.size,hclosed',q2,q3,fun hd=>?_,hact,hst2,hlow',hslots',hframe',hdef'⟩;rcases(kL J m').1 hd with h|h
   .omega
   ·-- m' is done though i,an act before it,was not
    have hm'l:m'<ops.toList.length:=by
     rcases uW m' ops.toList.length with h3|h3
     .exact h3
     .unfold eW at h;rw[iA,Bi (by rw[U.size];exact h3)]at h;simp at h
    rcases q3 with e|e
    .omega
    .obtain⟨om,C,O⟩:=m1.1 e;rcases U.act with e2|e2
     .omega
     .obtain⟨oi,hoi,hacti⟩:=m1.1 e2;rw[ho]at hoi;simp only[az]at hoi;subst hoi;exact hbehind m' h om C (cx.calm.clash i m' o om ac ho C (by unfold Ab.clash;simp[hacti,O]))
 -- the range of m for the looks
 have hlo:∀e∈iw ops.toList,e∈(gg ops.toList []).getD i []->e<m:=fun e he hA=>by
  have hd:=I e hA;rcases uW e m with h|h
  .exact h
  .exfalso;rcases U.act with e2|e2
   .have:=(m1.1 he);obtain⟨oe,hoe,_⟩:=this;have:=(ej.1 hoe).1;omega
   .by_cases e3:e=m
    .subst e3;exact U.notyet hd
    .obtain⟨om,C,O⟩:=m1.1 e2;obtain⟨oe,hoe,hacte⟩:=m1.1 he;exact U.notyet (Bm cx.calm U.closed e oe hoe (U.closed e hd oe hoe) m (cx.calm.clash m e om oe ac C hoe (by unfold Ab.clash;simp[O,hacte])))
 have hhi:∀e∈iw ops.toList,i∈(gg ops.toList []).getD e []->m<=e:=fun e he hA=>by
  rcases uW e m with h|h
  .obtain⟨oe,hoe,_⟩:=m1.1 he;exact(hbehind e (U.acts e he h) oe hoe hA).elim
  .exact h
 unfold wpOp;rw[show ops[i]?=some o by rw[<-uR];exact ho];simp only[];have hnxm:nx0<=(zbE rs H' m).next:=U.step.mono
 have hsame:Step B nx0 G w (zbE rs H' m) w G:=(jY U.step.r).weaken hnxm;have hstill:∀(v:Value) (w':World) (G':Gh),i≠m->VR G' r.val v->Step B (zbE rs H' m).next G w (zbE rs H' m) w' G'->K (a.put o.dst v) w':=fun v w' G' L hv M=>
  hfin v w' G' _ hv (M.weaken hnxm) (fun k p hk=>by
   rcases M.low k p hk with h|h
   .exact .inl h
   .have:=M.r.dom k p hk;omega) (.inl ⟨L,rfl⟩)
 have hnotact:lh o=false->i≠m:=fun hna e=>by
  rcases U.act with e2|e2
  .omega
  .obtain⟨om,C,O⟩:=m1.1 e2;rw[<-e,ho]at C;simp only[az]at C;subst C;rw[hna]at O;simp at O
 cases hd:r.did with
 |false=>
  have hw:Region.wanted o (yielded ops a.tmps)=false:=by rw[<-hwant,ha.want];exact hd
  rw[hw];simp only[cK,de];obtain⟨hval,hheap⟩:=ha.no hd;by_cases L:i=m
  .subst L;exact hfin undef w G (zbE rs H' (i+1)) (by rw[hval];exact uI G) (by rw[hheap];exact hsame) (fun k p hk=>.inl hk) (.inr ⟨rfl,rfl⟩)
  .exact hfin undef w G _ (by rw[hval];exact uI G) hsame (fun k p hk=>.inl hk) (.inl ⟨L,rfl⟩)
 |true=>
  have hw:Region.wanted o (yielded ops a.tmps)=true:=by rw[<-hwant,ha.want];exact hd
  rw[hw];simp only[cZ];have hop:=ha.yes hd;refine .inl ?_;cases Z:zcN o.op with
  |act=>
   have L:=hturn (by simp[lh,Z]);subst L;refine xF fit hih U.step.r z hop fun v w' G' hv M=>?_;refine hfin v w' G' _ hv (M.weaken hnxm) (fun k p hk=>?_) (.inr ⟨rfl,rfl⟩);rcases M.low k p hk with h|h
   .exact .inl h
   .exact .inr ⟨h,M.r.dom k p hk⟩
  |calm=>
   have hnc:∀c,o.op≠.call c:=fun c e=>by
    rw[e]at Z;simp only[zcN]at Z;split at Z<;>simp at Z
   have L:=hnotact (by simp[lh,Z]);have hX:=(Bc (P:=P) (by simp[pI,Z]) ((r0 hnc).1 hop)).2 (zbE rs H' m);have hop':zcd P B.cfg ih f (zcK rs E' i) (zbE rs H' m) o.op=.val r.val (zbE rs H' m):=(r0 hnc).2 hX;exact xF fit hih U.step.r z hop' fun v w' G' hv M=>hstill v w' G' L hv M
  |read=>
   have L:=hnotact (by simp[lh,Z]);have V:=cx.look i r hr hd m U.act.symm hlo hhi;unfold zdd at V;rw[ha.eo,Z,ha.eE]at V;simp only[]at V;split at V
   .rename_i v1 H1 hop';have hv1:=AV.beq_eq V;subst hv1;have hH1:=Be (by simp[oH,Z]) hop';subst hH1;exact xF fit (Snd.fail P B) U.step.r z hop' fun v w' G' hv M=>hstill v w' G' L hv M
   .simp at V
  |make=>
   have L:=hnotact (by simp[lh,Z]);have hnc:∀c,o.op≠.call c:=fun c e=>by
    rw[e]at Z;simp only[zcN]at Z;split at Z<;>simp at Z
   have hopA:=(r0 hnc).1 hop;obtain⟨blk,obj,ext,v,hH1,hrun,hmade,hv⟩:=Mz (P:=P) (w:=w) (by simp[qC,Z]) z hopA;have V:=cx.look i r hr hd m U.act.symm hlo hhi;unfold zdd at V;rw[ha.eo,Z,ha.eH,ha.eH']at V;simp only[]at V;have hnext1:(zbE rs H' (i+1)).next=(zbE rs H' i).next+1:=by rw[hH1];rfl
   have hgetm:(zbE rs H' m).get (zbE rs H' i).next=some blk:=by
    split at V
    .rename_i b b' h1 h2;rw[HB.beq_eq V]at h1;rw[hH1,zaY,aj rfl]at h2;simp only[az]at h2;subst h2;exact h1
    .simp at V
   have hlt:i<m:=by
    rcases xG i m with h|h|h
    .exact h
    .exact(L h).elim
    .exfalso;rcases U.act with e2|e2
     .omega
     .obtain⟨om,C,O⟩:=m1.1 e2;exact U.notyet (I m (cx.calm.clash m i om o h C ho (by unfold Ab.clash;simp[O,qC,Z])))
   have hr0:(zbE rs H' i).next<(zbE rs H' m).next:=by
    have:=cx.nextMono (m-(i+1)) (i+1) (by have:=U.le;omega);rw[show i+1+(m-(i+1))=m by omega]at this;omega
   have hnx0:nx0<=(zbE rs H' i).next:=by
    have:=cx.nextMono i 0 ac;rw[b4,cx.zeroH,hnx]at this;exact this
   have hno:∀q,G.β (zbE rs H' i).next=some q->False:=fun q hq=>by
    rcases U.low _ q hq with h|⟨j,h1,h2,h3,h4⟩
    .omega
    .rcases xG j i with h|h|h
     .have:=cx.nextMono (i-(j+1)) (j+1) ac;rw[show j+1+(i-(j+1))=i by omega]at this;omega
     .subst h;exact hnot h1
     .have:=cx.nextMono (j-(i+1)) (i+1) ac;rw[show i+1+(j-(i+1))=j by omega]at this;omega
   have M:=DY U.step.r hno hr0 hgetm hnx0 hmade;unfold Oper.wp;rw[hrun];refine hfin v _ _ _ (hv _ (zdK _ _ _)) M (fun k p hk=>?_) (.inl ⟨L,rfl⟩);simp only[Gh.add]at hk;split at hk
   .rename_i e;exact .inr ⟨ac,ac⟩
   .exact .inl hk
theorem countP_set{o:Array Bool}{i:Nat}(z:i<o.size)(Y:o[i]=false):(o.setIfInBounds i true).toList.countP (·=false)+1=o.toList.countP (·=false):=by
 rw[Ed,List.countP_set xt];have Z:o.toList[i]' xt=false:=qF;have V:0<o.toList.countP (·=false):=List.countP_pos_iff.2 ⟨false,by rw[<-Z];exact dW _,aw⟩;rw[Z];simp only[mT,cZ,qH,iZ,cK,de];omega
theorem MM(fit:Fit P){n:Nat}{ih:Task->Res}(hih:Snd P B n ih){f N M:Nat}{ops:Array Oper}{E0 g:au}{zbk H':Hp}{rs:List Rec}(cx:Ctx P B.cfg ih f N ops.toList E0 zbk g H' rs)(hnx:zbk.next=M){G0:Gh}{w0:World}
 (hE':zcK rs g ops.toList.length=g) (hH':zbE rs H' ops.toList.length=H') {Q:Exit->Act->World->Prop} (hQ:∀e a w,jI B N M G0 w0 .normal g H' e a w->Q e a w) :
 ∀(Y:Nat) (Z:Array Bool) (a:Act) (w:World) (m:Nat) (G:Gh),InvD rs ops.toList N B M E0 H' G0 w0 Z a w m G->Z.toList.countP (·=false)<=Y->wpAny P .any ops Q Y Z a w:=by
 -- at the end all is done
 have K:∀(Z:Array Bool) (a:Act) (w:World) (m:Nat) (G:Gh),InvD rs ops.toList N B M E0 H' G0 w0 Z a w m G->Region.ready .any ops Z=[]->Q .normal a w:=fun Z a w m G V U=>by
  have L:∀j,j<ops.toList.length->eW Z j:=fun j=>by
   induction j using Nat.strongRecOn with
   |_ j ihj=>
    intro hj;have J:=aY hj;have I:j<Z.size:=by rw[V.size];exact hj
    cases hl:Z[j]with
    |true=>
     unfold eW;rw[iA,oI I,hl];rfl
    |false=>
     exfalso;have:j∈Region.ready .any ops Z:=j7.2 ⟨_,J,by rw[iA,oI I,hl];rfl,fun p hp=>by
      have hlt:=cx.calm.lt j _ J p hp;exact ihj p hlt ac⟩
     rw[U]at this;simp at this
  have hm:m=ops.toList.length:=by
   rcases V.act with e|e
   .exact e
   .obtain⟨om,hom,_⟩:=m1.1 e;exact(V.notyet (L m (ej.1 hom).1)).elim
  subst hm;have z:=V.step;rw[hH']at z;refine hQ _ _ _ ⟨rfl,G,⟨V.frame,fun t=>?_⟩,z,V.defers⟩;have:=V.slots.agree cx (t:=t) (aA _) (fun j oj hoj _=>⟨fun _=>(ej.1 hoj).1,fun h=>L j h⟩);rw[hE']at this;exact this
 intro Y;induction Y with
 |zero=>
  intro Z a w m G V hc;have U:Region.ready .any ops Z=[]:=by
   apply uY.2;intro i hi;obtain⟨o,J,O,_⟩:=j7.1 hi;have C:i<Z.size:=EA;rw[iA,oI C]at O;have:=countP_set C (by simpa using O);omega
  exact⟨U,K Z a w m G V U⟩
 |succ Y ihf=>
  intro Z a w m G V hc;refine⟨fun U=>K Z a w m G V U,fun i hi=>?_⟩;obtain⟨o,J,O,_⟩:=j7.1 hi;have C:i<Z.size:=EA;rw[iA,oI C]at O;have hcs:=countP_set C (by simpa using O);exact ML fit hih cx hnx V hi (fun a' w' m' G' hI'=>ihf _ a' w' m' G' hI' ac)
theorem EF(fit:Fit P){n:Nat}{ih:Task->Res}(V:Snd P B n ih){f N:Nat}{ops:Array Oper}{E J:au}{H H':Hp}{G:Gh}{w:World}{x:AX}{a:Act}(hr:li P B.cfg ih f N ops.toList E H=.done x J H')
 (h:R B H w G) (I:TR N G E a) (hd:a.defers=[]) {Q:Exit->Act->World->Prop} (hQ:∀e C w',jI B N H.next G w x J H' e C w'->Q e C w'):wpAny P .any ops Q ops.size (Array.replicate ops.size false) a {w with drawn:=w.drawn+1}:=by
 unfold li at hr;split at hr
 .rename_i o;split at hr
  .rename_i E1 H1 rs U;split at hr
   .rename_i Y;simp only[Res.done.injEq]at hr;obtain⟨rfl,rfl,rfl⟩:=hr;have cx:=MK o U Y;have hlen:=cx.len;have z:zcK rs E1 ops.toList.length=E1:=by unfold zcK;rw[md ac]
    have M:zbE rs H1 ops.toList.length=H1:=by unfold zbE;rw[md ac]
    obtain⟨m,q1,q2,q3,q4⟩:=Bn (l:=ops.toList) ops.toList.length 0 ac;obtain⟨O,g2⟩:=cx.gap m 0 ac (fun j _ g=>q4 j ac ac);rw[b4,cx.zeroH]at O g2;have L:R B H {w with drawn:=w.drawn+1} G:=h.heap rfl;have i:Step B H.next G w (zbE rs H1 m) {w with drawn:=w.drawn+1} G:=
     ⟨L.more O g2,tk _,⟨rfl,rfl,rfl,aA _,fun _ _ _=>rfl⟩,rS _ _,fun _ _ h=>.inl h,O,fun _ _ _ h=>.inl h⟩
    have Z:∀j,¬eW (Array.replicate ops.size false) j:=fun j g=>by
     unfold eW at g;rw[iA,EC]at g;split at g<;>simp at g
    refine MM fit V cx rfl z M hQ ops.size _ a _ m G
     ⟨aw,fun j g=>(Z j g).elim,q2,q3,Z m,fun e he K=>(q4 e (dg _) K he).elim,i,fun r p hr=>.inl (h.dom r p hr),fun t=>.inr ⟨fun j o' g=>(Z j g).elim,I.slots t⟩,I.size,hd⟩ ?_
    exact cm List.countP_le_length aw
   .simp at hr
  .simp at hr
 .simp at hr
end
def j8(ops:Array Oper):List Nat->Array Bool->Prop
 |[],listed=>Region.ready .any ops listed=[]
 |i::L,listed=>i∈Region.ready .any ops listed/\j8 ops L (listed.setIfInBounds i true)
theorem EG{ops:Array Oper}:∀(m t:Nat) (Z:Array Bool),Z.size=ops.size->Z.toList.countP (·=false)<=m->j8 ops (Region.linearise.go .any ops m t Z []) Z
 |0,t,Z,hs,hc=>by
  show Region.ready .any ops Z=[];apply uY.2;intro i z;obtain⟨o,V,Y,_⟩:=j7.1 z;have C:i<Z.size:=EB;rw[iA,oI C]at Y;have:=countP_set C qF;omega
 |m+1,t,Z,hs,hc=>by
  simp only[Region.linearise.go];change j8 ops (match (Region.ready .any ops Z)[t%(Region.ready .any ops Z).length]? with
   |some i=>Region.linearise.go .any ops m (t/(Region.ready .any ops Z).length) (Z.setIfInBounds i true) [i]
   |none=>[].reverse) Z
  cases z:(Region.ready .any ops Z)[t%(Region.ready .any ops Z).length]? with
  |none=>
   show Region.ready .any ops Z=[];cases hr:Region.ready .any ops Z with
   |nil=>rfl
   |cons x M=>
    rw[hr]at z;have K:t%(x::M).length<(x::M).length:=Nat.mod_lt _ aw;simp at z;simp at K;omega
  |some i=>
   simp only[];rw[linearise_go_acc,List.reverse_singleton,List.singleton_append];have U:=oF z;refine⟨U,EG m _ _ (by simpa using hs) ?_⟩;obtain⟨o,V,Y,_⟩:=j7.1 U;have C:i<Z.size:=EB;rw[iA,oI C]at Y;have:=countP_set C qF;omega
section
variable {P:Program} {Q:Exit -> Act -> World -> Prop}
theorem Bp{ops:Array Oper}:∀(L:List Nat) (m:Nat) (o:Array Bool) (a:Act) (w:World),wpAny P .any ops Q m o a w->j8 ops L o->wpOps P ops Q L a w
 |[],0,o,a,w,h,_=>h.2
 |[],m+1,o,a,w,h,hv=>h.1 hv
 |i::L,0,o,a,w,h,hv=>by
  have Z:=hv.1;rw[h.1]at Z;simp at Z
 |i::L,m+1,o,a,w,h,hv=>by
  rw[wpOps_cons];exact wpOp_mono (fun a w ha=>Bp L m _ a w ha hv.2) (h.2 i hv.1)
theorem MN{ops:Array Oper}{id:Nat}{a:Act}{w:World}(V:P.follows .mixedOrders=true)
 (h:∀L,j8 ops L (Array.replicate ops.size false)->wpOps P ops Q L a {w with drawn:=w.drawn+1}):(Code.region id ops true).wp P Q a w:=
 wp_region_draw fun t=>by
  simp only[Region.schedule,V,nQ,cZ];exact h _ (EG ops.size t _ aw (cm List.countP_le_length aw))
theorem Bq{ops ops':Array Oper}{φ:Nat->Nat}:∀(L:List Nat) (a:Act) (w:World),
 (∀i∈L,∃o g,ops[i]?=some o/\ops'[φ i]?=some g/\(∃z m,g={o with after:=z,guard:=m})/\∀a:Act,Region.wanted g (yielded ops' a.tmps)=Region.wanted o (yielded ops a.tmps)) ->
 wpOps P ops' Q (L.map φ) a w->wpOps P ops Q L a w
 |[],_,_,_,h=>h
 |i::L,a,w,hr,h=>by
  rw[dN,wpOps_cons]at h;rw[wpOps_cons];obtain⟨o,g,U,O,⟨z,m,M⟩,K⟩:=hr i eQ;have Z:∀a w,wpOps P ops' Q (L.map φ) a w->wpOps P ops Q L a w:=fun a w=>Bq L a w (fun j V=>hr j (fH _ V));have Y:=wpOp_mono Z h;unfold wpOp at Y⊢;rw[O]at Y;rw[U];simp only[]at Y⊢;rw[K a]at Y;subst M;exact Y
end
theorem xI(q p:Nat)(l:List Oper):(iy q p l).length=l.length:=by
 unfold iy;split<;>simp
theorem u5{q p:Nat}{l:List Oper}{i:Nat}{o:Oper}(h:l[i]?=some o):
 ∃g,(iy q p l)[i]?=some g/\(∃z,g={o with after:=z})/\(i≠q->g=o)/\∀j,j∈preds g↔j∈preds o\/(i=q/\j=p):=by
 unfold iy;have Z:=(ej.1 h).1;by_cases e:i=q
 .subst e;rw[h];refine⟨_,List.getElem?_set_self Z,⟨_,rfl⟩,fun hn=>(hn rfl).elim,fun j=>?_⟩;unfold preds;have:(o.after.push {on:=p,ground:=.data}).toList=o.after.toList++[{on:=p,ground:=.data}]:=aw;rw[this,List.filter_append,jJ,pJ];have Y:(List.filter (Region.binds .any) [({on:=p,ground:=.data}:Edge)])=[{on:=p,ground:=.data}]:=rfl;rw[Y];simp
 .have I:∀L,(l.set q L)[i]?=some o:=fun L=>by rw[List.getElem?_set_ne (fun h=>e h.symm)];exact h
  split
  .exact⟨o,I _,⟨o.after,rfl⟩,fun _=>rfl,fun j=>⟨.inl,fun h=>h.elim id (fun h=>(e h.1).elim)⟩⟩
  .exact⟨o,h,⟨o.after,rfl⟩,fun _=>rfl,fun j=>⟨.inl,fun h=>h.elim id (fun h=>(e h.1).elim)⟩⟩
theorem EH{q p:Nat}{l:List Oper}{i:Nat}{g:Oper}(h:(iy q p l)[i]?=some g):∃o,l[i]?=some o:=by
 have:=(ej.1 h).1;rw[xI]at this;exact⟨_,aY this⟩
theorem MO{q p:Nat}{l:List Oper}(j:Nat):((iy q p l)[j]?).bind (·.dst)=(l[j]?).bind (·.dst):=by
 cases h:l[j]? with
 |none=>
  rw[md (by rw[xI];exact List.getElem?_eq_none_iff.1 h)]
 |some o=>
  obtain⟨g,i,⟨z,rfl⟩,_⟩:=u5 (q:=q) (p:=p) h;rw[i];rfl
theorem EI{q p:Nat}{l:List Oper}{Z:Array Bool}{i:Nat}(h:i∈Region.ready .any (iy q p l).toArray Z):i∈Region.ready .any l.toArray Z:=by
 obtain⟨L,Y,O,m⟩:=j7.1 h;simp only[]at Y;obtain⟨o,U⟩:=EH Y;obtain⟨K,V,_,_,M⟩:=u5 (q:=q) (p:=p) U;rw[Y]at V;simp only[az]at V;subst V;exact j7.2 ⟨o,U,O,fun j g=>m j ((M j).2 (.inl g))⟩
theorem u6{q p:Nat}{l:List Oper}{Z:Array Bool}{i:Nat}(h:i∈Region.ready .any l.toArray Z)(I:i=q->Z.getD p false=true):i∈Region.ready .any (iy q p l).toArray Z:=by
 obtain⟨o,Y,V,m⟩:=j7.1 h;simp only[]at Y;obtain⟨L,U,_,_,O⟩:=u5 (q:=q) (p:=p) Y;refine j7.2 ⟨L,U,V,fun j g=>?_⟩;rcases(O j).1 g with h|⟨M,rfl⟩
 .exact m j h
 .exact I M
theorem MP{o:Array Bool}{i p:Nat}(h:o.getD p false=true):(o.setIfInBounds i true).getD p false=true:=by
 simp only[iA,tj]at *;split
 .split
  .rfl
  .rename_i Z g;subst Z;rw[Bi ac]at h;simp at h
 .exact h
theorem Br{q p:Nat}{l:List Oper}:∀{L:List Nat}{o:Array Bool},o.getD p false=true->j8 l.toArray L o->j8 (iy q p l).toArray L o
 |[],o,_,hv=>by
  show Region.ready .any (iy q p l).toArray o=[];apply uY.2;intro i z;have:=EI z;rw[show Region.ready .any l.toArray o=[]from hv]at this;simp at this
 |i::L,o,hd,hv=>⟨u6 hv.1 (fun _=>hd),Br (MP hd) hv.2⟩
theorem EJ{p q:Nat}(z:p≠q){l:List Oper}:∀{L:List Nat}{Z:Array Bool},Z.size=l.length->j8 l.toArray L Z->j8 (iy q p l).toArray L Z\/j8 (iy p q l).toArray L Z
 |[],Z,_,hv=>.inl <|by
  show Region.ready .any (iy q p l).toArray Z=[];apply uY.2;intro i O;have:=EI O;rw[show Region.ready .any l.toArray Z=[]from hv]at this;simp at this
 |i::L,Z,hs,hv=>by
  have Y:i<Z.size:=by
   obtain⟨o,M,_⟩:=j7.1 hv.1;rw[hs];exact(ej.1 M).1
  have C:(Z.setIfInBounds i true).getD i false=true:=by
   simp[iA,Y]
  by_cases V:i=q
  .subst V;exact .inr ⟨u6 hv.1 (fun e=>(z e.symm).elim),Br C hv.2⟩
  .by_cases U:i=p
   .subst U;exact .inl ⟨u6 hv.1 (fun e=>(V e).elim),Br C hv.2⟩
   .rcases EJ z (by simpa using hs) hv.2 with h|h
    .exact .inl ⟨u6 hv.1 (fun e=>(V e).elim),h⟩
    .exact .inr ⟨u6 hv.1 (fun e=>(U e).elim),h⟩
theorem Bt{ops:Array Oper}:∀{L:List Nat}{Z:Array Bool},j8 ops L Z->∀i∈L,∃o,ops.toList[i]?=some o
 |[],_,_,i,z=>by simp at z
 |j::L,Z,hv,i,z=>by
  rcases fz.1 z with rfl|z
  .obtain⟨o,Y,_⟩:=j7.1 hv.1;exact⟨o,Y⟩
  .exact Bt hv.2 i z
theorem EK{P:Program}{Q:Exit->Act->World->Prop}{q p:Nat}{l:List Oper}{L:List Nat}{Z:Array Bool}{a:Act}{w:World}(M:j8 l.toArray L Z)
 (h:wpOps P (iy q p l).toArray Q L a w):wpOps P l.toArray Q L a w:=by
 refine Bq (ops':=(iy q p l).toArray) (φ:=id) L a w (fun i z=>?_) j5;obtain⟨o,Y⟩:=Bt M i z;simp only[]at Y;obtain⟨g,V,⟨U,rfl⟩,_⟩:=u5 (q:=q) (p:=p) Y;refine⟨o,_,qF,by simpa using V,⟨U,o.guard,rfl⟩,fun a=>?_⟩;have O:yielded (iy q p l).toArray a.tmps=yielded l.toArray a.tmps:=funext fun j=>by
  unfold yielded;have:=MO (q:=q) (p:=p) (l:=l) j;simp only[List.getElem?_toArray,this]
 rw[O];rfl
structure PermD (ord:List Nat) (l:List Oper):Prop where
 len:ord.length=l.length
 bk:∀k:Nat,k<l.length->∃i,ord[k]?=some i/\i<l.length/\gS ord i=k
 lt:∀i:Nat,i<l.length->gS ord i<l.length/\ord[gS ord i]?=some i
 pre:∀(i:Nat) o,l[i]?=some o->(∀p∈preds o,p<l.length)/\∀j b,o.guard=some (j,b)->j<l.length
theorem MQ{Z:List Nat}{l:List Oper}(h:uB Z l=true):PermD Z l:=by
 unfold uB at h;simp only[bT,iB,nP]at h;obtain⟨⟨M,g⟩,m⟩:=h;refine⟨hM M,fun k Y=>?_,fun i z=>?_,fun i o O=>?_⟩
 .have:=(g k Y).1.1;split at this
  .rename_i i z;simp only[bT]at this;exact⟨i,z,by simpa [i4]using this.1,hM this.2⟩
  .simp at this
 .have L:=(g i z).1.2;have V:=(g i z).2;refine⟨by simpa [i4]using L,?_⟩;split at V
  .rename_i k Y;rw[Y,hM V]
  .simp at V
 .have:=m o (oF O);refine⟨fun p hp=>by simpa [i4]using this.1 p hp,fun j b C=>?_⟩;have U:=this.2;rw[C]at U;simpa [i4]using U
theorem EL{z β:Type}{f:z->Option β}:∀{M:List z},(∀x∈M,(f x).isSome=true)->∀k:Nat,(M.filterMap f)[k]?=(M[k]?).bind f
 |[],_,k=>by simp
 |x::M,h,k=>by
  obtain⟨y,o⟩:=Option.isSome_iff_exists.1 (h x eQ);rw[List.filterMap_cons_some o];cases k with
  |zero=>simp[o]
  |succ k=>simp[EL (fun x I=>h x (fH _ I)) k]
section
variable {ord:List Nat} {l:List Oper} (hp:PermD ord l)
include hp
theorem PermD.at'{i:Nat}{o:Oper}(h:l[i]?=some o):(gh ord l)[gS ord i]?=some (qD ord o):=by
 have z:=(ej.1 h).1;unfold gh;rw[EL (fun x Y=>?_)]
 .rw[(hp.lt i z).2];simp[h]
 .obtain⟨k,j⟩:=Bj.1 Y;have I:k<l.length:=by rw[<-hp.len];exact(ej.1 j).1
  obtain⟨J,Z,g,_⟩:=hp.bk k I;rw[j]at Z;simp only[az]at Z;subst Z;rw[aY g];rfl
theorem PermD.length:(gh ord l).length=l.length:=by
 have:∀k,k<l.length->((gh ord l)[k]?).isSome=true:=fun k j=>by
  obtain⟨i,Z,g,m⟩:=hp.bk k j;have:=hp.at' (aY g);rw[m]at this;rw[this];rfl
 refine Nat.le_antisymm (cm (List.length_filterMap_le _ _) (by rw[hp.len];exact aA _)) ?_;rcases uW (gh ord l).length l.length with h|h
 .have:=this _ h;rw[md (aA _)]at this;simp at this
 .exact h
theorem PermD.of{k:Nat}{g:Oper}(h:(gh ord l)[k]?=some g):∃i o,l[i]?=some o/\gS ord i=k/\g=qD ord o:=by
 have j:k<l.length:=by rw[<-hp.length];exact(ej.1 h).1
 obtain⟨i,Y,Z,m⟩:=hp.bk k j;have:=hp.at' (aY Z);rw[m,h]at this;simp only[az]at this;exact⟨i,_,aY Z,m,this⟩
theorem PermD.inj{i j:Nat}(z:i<l.length)(g:j<l.length)(h:gS ord i=gS ord j):i=j:=by
 have Z:=(hp.lt i z).2;rw[h,(hp.lt j g).2]at Z;simpa using Z.symm
theorem PermD.preds{o:Oper}:Ab.preds (qD ord o)=(Ab.preds o).map (gS ord):=by
 unfold Ab.preds qD;simp only[ja];rw[List.filter_map];have:(Region.binds .any ∘ fun e:Edge=>{e with on:=gS ord e.on})=Region.binds .any:=rfl;rw[this,List.filter_filter];simp only[xH,ja];rfl
def u7(Z:List Nat)(l:List Oper)(x y:Array Bool):Prop:=x.size=l.length/\y.size=l.length/\∀i,i<l.length->y[gS Z i]?=x[i]?
theorem u7.set{x y:Array Bool}(h:u7 ord l x y){i:Nat}(z:i<l.length):u7 ord l (x.setIfInBounds i true) (y.setIfInBounds (gS ord i) true):=by
 refine⟨by simpa using h.1,by simpa using h.2.1,fun j g=>?_⟩;simp only[tj];by_cases e:i=j
 .subst e;rw[aj rfl,aj rfl,aj (by rw[h.2.1];exact(hp.lt i z).1),aj (by rw[h.1];exact z)]
 .rw[af e,af (fun I=>e (hp.inj z g I))];exact h.2.2 j g
theorem EM{x y:Array Bool}(h:u7 ord l x y){i:Nat}(U:i<l.length):gS ord i∈Region.ready .any (gh ord l).toArray y↔i∈Region.ready .any l.toArray x:=by
 have V:=aY U;have M:=hp.at' V;rw[j7,j7];simp only[];have hd:∀(j:Nat) (b:Bool),j<l.length->y.getD (gS ord j) b=x.getD j b:=fun j b g=>by
  simp only[iA,h.2.2 j g]
 constructor
 .rintro⟨K,Z,O,L⟩;rw[M]at Z;simp only[az]at Z;subst Z;refine⟨_,V,by rw[<-hd i true U];exact O,fun p z=>?_⟩;rw[<-hd p false ((hp.pre i _ V).1 p z)];exact L _ (by rw[hp.preds];exact List.mem_map_of_mem z)
 .rintro⟨K,Z,O,L⟩;rw[V]at Z;simp only[az]at Z;subst Z;refine⟨_,M,by rw[hd i true U];exact O,fun p z=>?_⟩;rw[hp.preds]at z;obtain⟨C,Y,rfl⟩:=kJ.1 z;rw[hd C false ((hp.pre i _ V).1 C Y)];exact L C Y
theorem EN:∀{L:List Nat}{x y:Array Bool},u7 ord l x y->j8 l.toArray L x->j8 (gh ord l).toArray (L.map (gS ord)) y
 |[],x,y,hs,hv=>by
  show Region.ready .any (gh ord l).toArray y=[];apply uY.2;intro k j;obtain⟨U,Z,_⟩:=j7.1 j;simp only[]at Z;obtain⟨i,o,Y,g,_⟩:=hp.of Z;have z:=(ej.1 Y).1;rw[<-g]at j;have:=(EM hp hs z).1 j;rw[show Region.ready .any l.toArray x=[]from hv]at this;simp at this
 |i::L,x,y,hs,hv=>by
  obtain⟨o,V,_⟩:=j7.1 hv.1;have z:i<l.length:=(ej.1 V).1;exact⟨(EM hp hs z).2 hv.1,EN (hs.set hp z) hv.2⟩
theorem MR{P:Program}{Q:Exit->Act->World->Prop}{L:List Nat}{Z:Array Bool}{a:Act}{w:World}(V:j8 l.toArray L Z)
 (h:wpOps P (gh ord l).toArray Q (L.map (gS ord)) a w):wpOps P l.toArray Q L a w:=by
 refine Bq (ops':=(gh ord l).toArray) (φ:=gS ord) L a w (fun i z=>?_) h;obtain⟨o,Y⟩:=Bt V i z;simp only[]at Y;have M:=hp.at' Y;refine⟨o,qD ord o,qF,xj,⟨_,_,rfl⟩,fun a=>?_⟩;unfold Region.wanted qD;cases U:o.guard with
 |none=>rfl
 |some J=>
  obtain⟨j,b⟩:=J;have g:=(hp.pre i o Y).2 j b U;have C:=hp.at' (aY g);simp only[];unfold yielded;simp only[List.getElem?_toArray,C,aY g];rfl
end
theorem T.beq_eq{z:Type}{Z:z->z->Bool}(U:∀a b,Z a b=true->a=b):∀{x y:T z},T.beq Z x y=true->x=y
 | .e,.e,_=>rfl
 | .e,.n _ _ _,h=>by simp[T.beq]at h
 | .n _ _ _,.e,h=>by simp[T.beq]at h
 | .n v l r,.n Y j V,h=>by
   simp only[T.beq,bT]at h;rw[T.beq_eq U h.1.2,T.beq_eq U h.2];have i:=h.1.1;cases v<;>cases Y <;>simp only[cK]at i
   .rfl
   .rw[U _ _ i]
theorem MS{ops:List Oper}{U i:au}{V m:Hp}(h:Aw ops U i V m=true):(∀o∈ops,∀d,o.dst=some d->U.at d=i.at d)/\V=m:=by
 unfold Aw at h;simp only[bT,iB]at h;refine⟨fun o Y d hd=>?_,?_⟩
 .have:=h.1.1 o Y;rw[hd]at this;exact AV.beq_eq this
 .have Z:=hM h.1.2;have g:=T.beq_eq (fun a b=>HB.beq_eq) h.2;cases V;cases m;simp only[]at Z g;rw[Z,g]
section
variable {P:Program} {B:Bs} {cfg:Cfg}
theorem MT{N t:Nat}{E U:au}{K:Option Tmp}{v:AV}(h:ei N E K v=some U)(M:K≠some t):U.at t=E.at t:=by
 unfold ei at h;split at h
 .rename_i d;split at h
  .simp only[az]at h;rw[<-h,tl,af (fun e=>M m0)]
  .simp at h
 .simp only[az]at h;rw[<-h]
theorem EO{ih:Task->Res}{f N t:Nat}{I:List Oper}:∀{rs:List Rec}{l:List Oper}{E E':au}{H H':Hp},l8 P cfg ih f N I rs l E H E' H'->(∀o∈l,o.dst≠some t)->E'.at t=E.at t
 |[],[],_,_,_,_,h,_=>by rw[h.1]
 |[],_::_,_,_,_,_,h,_=>by simp[l8]at h
 |_::_,[],_,_,_,_,h,_=>by simp[l8]at h
 |r::rs,o::l,E,E',H,H',h,ht=>by
  obtain⟨_,_,_,_,_,_,E1,hp,U⟩:=h;rw[EO U (fun o Y=>ht o (fH _ Y)),MT hp (ht o eQ)]
theorem EP{ih:Task->Res}{f N t:Nat}{ops:List Oper}{E j:au}{H H':Hp}{x:AX}(h:li P cfg ih f N ops E H=.done x j H')(M:∀o∈ops,o.dst≠some t):x=.normal/\j.at t=E.at t:=by
 unfold li at h;split at h
 .split at h
  .rename_i E1 H1 rs U;split at h
   .simp only[Res.done.injEq]at h;obtain⟨rfl,rfl,rfl⟩:=h;exact⟨rfl,EO (uV U) M⟩
   .simp at h
  .simp at h
 .simp at h
theorem MU{Z:List Nat}{l:List Oper}{o:Oper}(h:o∈gh Z l):∃Y∈l,o.dst=Y.dst:=by
 unfold gh at h;rw[List.mem_filterMap]at h;obtain⟨i,_,g⟩:=h;split at g
 .rename_i Y V;simp only[az]at g;subst g;exact⟨Y,oF V,rfl⟩
 .simp at g
theorem EQ{q p:Nat}{l:List Oper}{o:Oper}(h:o∈iy q p l):∃g∈l,o.dst=g.dst:=by
 obtain⟨i,z⟩:=Bj.1 h;obtain⟨K,Y⟩:=EH z;obtain⟨L,Z,⟨V,O⟩,_⟩:=u5 (q:=q) (p:=p) Y;rw[z]at Z;simp only[az]at Z;exact⟨K,oF Y,by rw[Z,O]⟩
theorem ER{ops:List Oper}{Z g:Res}{x:AX}{j:au}{H':Hp}(h:rM ops Z g=.done x j H'):
 x=.normal/\Z=.done .normal j H'/\∃i,g=.done .normal i H'/\∀o∈ops,∀d,o.dst=some d->j.at d=i.at d:=by
 unfold rM at h;split at h
 .split at h
  .rename_i J;simp only[Res.done.injEq]at h;obtain⟨rfl,rfl,rfl⟩:=h;obtain⟨Y,V⟩:=MS J;subst V;exact⟨rfl,rfl,_,rfl,Y⟩
  .simp at h
 .simp at h
theorem Bu{ih:Task->Res}{f N t:Nat}{E j:au}{H H':Hp}{x:AX}:∀{V:Plan}{ops:List Oper},jq P cfg ih f N E H V ops=.done x j H'->(∀o∈ops,o.dst≠some t)->j.at t=E.at t
 | .text,ops,h,ht=>(EP h ht).2
 | .perm ord,ops,h,ht=>by
   simp only[jq]at h;split at h
   .exact(EP h (fun o Y=>by obtain⟨g,i,Z⟩:=MU Y;rw[Z];exact ht g i)).2
   .simp at h
 | .split p q a b,ops,h,ht=>by
   simp only[jq]at h;split at h
   .simp at h
   .obtain⟨_,i,_⟩:=ER h;exact Bu i (fun o Y=>by obtain⟨g,i,Z⟩:=EQ Y;rw[Z];exact ht g i)
theorem jI.same{N L:Nat}{G:Gh}{w:World}{x:AX}{U i:au}{H':Hp}(M:∀t,U.at t=i.at t){e:Exit}{a:Act}{w':World}(h:jI B N L G w x i H' e a w'):jI B N L G w x U H' e a w':=by
 obtain⟨Z,C,g,m,Y⟩:=h;exact⟨Z,C,⟨g.size,fun t=>by rw[M];exact g.slots t⟩,m,Y⟩
theorem Bv(fit:Fit P){n:Nat}{ih:Task->Res}(Z:Snd P B n ih){f N:Nat}{E:au}{H:Hp}{G:Gh}{w:World}{a:Act}(h:R B H w G)(M:TR N G E a)(hd:a.defers=[]){Q:Exit->Act->World->Prop}:
 ∀(pl:Plan) (l:List Oper) {E':au}{H':Hp}{x:AX},jq P B.cfg ih f N E H pl l=.done x E' H'->(∀e V J,jI B N H.next G w x E' H' e V J->Q e V J)->∀L,j8 l.toArray L (Array.replicate l.length false) ->
  wpOps P l.toArray Q L a {w with drawn:=w.drawn+1}
 | .text,l,E',H',x,hr,hQ,L,hv=>Bp L _ _ a _ (by
  have:=EF (ops:=l.toArray) fit Z hr h M hd hQ;simpa using this) hv
 | .perm ord,l,E',H',x,hr,hQ,L,hv=>by
   simp only[jq]at hr;split at hr
   .rename_i hp;have hp:=MQ hp;refine MR hp hv (Bp _ _ _ a _ (EF (ops:=(gh ord l).toArray) fit Z hr h M hd hQ) ?_);refine EN hp ⟨aw,by simp[hp.length],fun i j=>?_⟩ hv;have:=(hp.lt i j).1;simp[hp.length,j,this]
   .simp at hr
 | .split p q pa pb,l,E',H',x,hr,hQ,L,hv=>by
   simp only[jq]at hr;split at hr
   .simp at hr
   .rename_i z;have K:p≠q:=AA z;obtain⟨rfl,g,E2,h2,h3⟩:=ER hr;rcases EJ K aw hv with U|O
    .exact EK hv (Bv fit Z h M hd pa _ g hQ L (by rw[xI];exact U))
    .have C:∀t,E'.at t=E2.at t:=fun t=>by
      by_cases M:∃o∈l,o.dst=some t
      .obtain⟨o,Y,hd⟩:=M;exact h3 o Y t hd
      .have m:∀o∈l,o.dst≠some t:=fun o Y hd=>M ⟨o,Y,hd⟩;have I:∀q p,∀o∈iy q p l,o.dst≠some t:=fun q p o Y=>by obtain⟨o',g1,g2⟩:=EQ Y;rw[g2];exact m o' g1
       rw[Bu g (I _ _),Bu h2 (I _ _)]
     exact EK hv (Bv fit Z h M hd pb _ h2 (fun e V J hp=>hQ _ _ _ (jI.same C hp)) L (by rw[xI];exact O))
theorem MV(fit:Fit P){n:Nat}{ih:Task->Res}(Z:Snd P B n ih){f N id:Nat}{ops:Array Oper}{E j:au}{H H':Hp}{G:Gh}{w:World}{x:AX}{a:Act}{o:Plan}(hr:jq P B.cfg ih f N E H o ops.toList=.done x j H')
 (h:R B H w G) (M:TR N G E a) (hd:a.defers=[]):Code.wp P (.region id ops true) (jI B N H.next G w x j H') a w:=by
 refine MN fit.mixed fun L g=>?_;have:=Bv fit Z h M hd o ops.toList hr (fun _ _ _ hp=>hp) L rR;simpa using this
end
structure Grow (w:World) (F:Nat->Nat->Option Value) (w':World) (F':Nat->Nat->Option Value):Prop where
 below:Below w.heap.size w w'
 more:∀b o v,F b o=some v->F' b o=some v
 icy:∀b o v,F' b o=some v->F b o=some v\/w.heap.size<=b
 frz:∀b o v,F' b o=some v->w'.cell? ⟨b,o,none⟩=some v
def cn(P:Program)(ρ:Nat->Int)(f:FuncId)(Y:List AV)(r:AV):Prop:=
 (∃I,P.funcs[f]?=some I/\I.body.isSome=true)/\∀(G:Gh) (w:World) (vs:List Value),G.ρ=ρ->(∀b o v,G.F b o=some v->w.cell? ⟨b,o,none⟩=some v)->b8 G Y vs ->
   Calls P f vs.toArray w (fun e Z=>∃v J,e=.returned v/\VR {G with F:=J} r v/\Grow w G.F Z J)
def MW(P:Program)(B:Bs):Prop:=∀f Y r,B.cfg.call f Y=some r->cn P B.ρ f Y r
theorem Bw{w w':World}(h:Below w.heap.size w w'){b o:Nat}(Z:b<w.heap.size):w'.cell? ⟨b,o,none⟩=w.cell? ⟨b,o,none⟩/\w'.frozen? ⟨b,o,none⟩=w.frozen? ⟨b,o,none⟩:=
 ⟨by simp only[World.cell?,h.block b Z],h.frozen (p:=⟨b,o,none⟩) Z⟩
theorem R.grow{B:Bs}{H:Hp}{w w':World}{G:Gh}{J:Nat->Nat->Option Value}(h:R B H w G)(g:Grow w G.F w' J):Step B H.next G w H w' {G with F:=J}:=by
 have M:Ext G {G with F:=J}:=⟨fun _ _ h=>h,g.more,rfl⟩;have Y:∀{b o:Nat}{v:Value},w.cell? ⟨b,o,none⟩=some v->w'.cell? ⟨b,o,none⟩=some v:=fun hc=>by rw[(Bw g.below (mY hc)).1];exact hc
 refine⟨?_,M,⟨g.below.os,g.below.tape,g.below.output,g.below.size,fun k m _=>g.below.block k m⟩,fun r b o x hr=>.inl hr,fun _ _ h=>.inl h,aA _,fun b o v I=>(g.icy b o v I).imp id fun C=>cm h.base C⟩;exact{
  base:=cm h.base g.below.size
  dom:=h.dom
  lt:=fun r b o x hr=>⟨(h.lt r b o x hr).1,l0 (h.lt r b o x hr).2 g.below.size⟩
  cells:=fun r b o x O imm Z hr hc j c L=>by
   obtain⟨v,i,K⟩:=h.cells r b o x O imm Z hr hc j c L;exact⟨v,Y i,K.mono M⟩
  imm:=fun r b o x O imm Z hr hc j L V=>let ⟨v,I⟩:=h.imm r b o x O imm Z hr hc j L V;⟨v,g.more _ _ _ I⟩
  ext:=h.ext
  fits:=h.fits
  room:=fun r b o x O imm Z hr hc j L V=>by
   obtain⟨⟨v,i⟩,K,h3⟩:=h.room r b o x O imm Z hr hc j L V;have C:=(h.lt r b o x hr).2;refine⟨⟨v,Y i⟩,by rw[(Bw g.below C).2];exact K,?_⟩;show J b (o+j)=none;cases hF:J b (o+j)with
   |none=>rfl
   |some u=>rcases g.icy _ _ _ hF with z|z
            ·rw[h3]at z;simp at z
            .omega
  apart:=h.apart
  map:=fun r b o x es hr hc=>by
   obtain⟨ms,U,i,K⟩:=h.map r b o x es hr hc;exact⟨ms,U,by rw[g.below.block b (h.lt r b o x hr).2];exact i,K.mono M⟩
  mapApart:=h.mapApart
  frz:=g.frz
  val:=h.val
  sym:=h.sym}
theorem Bx(z:Nat):∀(n:Nat) (l:List AV),(iz z n l).length=n
 |0,_=>rfl
 |n+1,l=>by simp[iz,Bx z n]
theorem u9(z:Nat):∀(n:Nat) (l:List AV) (i:Nat) (K:List AV),l.length=n*z->(iz z n l)[i]?=some K->K.length=z/\∀(j:Nat) c,K[j]?=some c->l[i*z+j]?=some c
 |0,_,i,K,_,h=>by simp[iz]at h
 |n+1,l,i,K,hl,h=>by
  rw[mZ,uZ]at hl;simp only[iz]at h;cases i with
  |zero=>
   simp at h;subst h;refine⟨tq,fun j c g=>?_⟩;rw[oC]at g;split at g
   .rw[uP,b4];exact g
   .simp at g
  |succ i=>
   obtain⟨Z,Y⟩:=u9 z n (l.drop z) i K Bf j5;refine⟨Z,fun j c g=>?_⟩;have:=Y j c g;rw[qG]at this;rw[mZ,uZ,show i*z+z+j=z+(i*z+j) by omega];exact this
theorem xJ{B:Bs}{w:World}{g:AV->Hp->Option (AV×Hp)}
 (V:∀(v:AV) (H:Hp) (q:AV) (H':Hp) (G:Gh) (x:Value),R B H w G->VR G v x->g v H=some (q,H')->∃C,Step B H.next G w H' w C/\VR C q x) :
 ∀(Z:List AV) (vs:List Value) (H:Hp) (U:List AV) (H':Hp) (G:Gh),R B H w G->b8 G Z vs->kG g Z H=some (U,H')->∃C,Step B H.next G w H' w C/\b8 C U vs
 |[],vs,H,U,H',G,h,hv,hi=>by
  simp only[kG,ce]at hi;obtain⟨rfl,rfl⟩:=hi;exact⟨G,jY h,hv⟩
 |c::Z,[],H,U,H',G,h,hv,hi=>by have:=hv.1;simp at this
 |c::Z,v::vs,H,U,H',G,h,hv,hi=>by
  simp only[kG]at hi;split at hi
  .rename_i d H1 i;split at hi
   .rename_i j m O;simp only[ce]at hi;obtain⟨rfl,rfl⟩:=hi;obtain⟨L,K⟩:=hv.of_cons;obtain⟨J,Y,I⟩:=V c H d H1 G v h L i;obtain⟨z,M,o⟩:=xJ V Z vs H1 j m J Y.r (K.mono Y.ext) O;exact⟨z,Y.trans M,mX (I.mono M.ext) o⟩
   .simp at hi
  .simp at hi
theorem xK{B:Bs}{w:World}:∀(n:Nat) (v:AV) (H:Hp) (q:AV) (H':Hp) (G:Gh) (x:Value),R B H w G->VR G v x->iY n v H=some (q,H')->∃G',Step B H.next G w H' w G'/\VR G' q x
 |0,_,_,_,_,_,_,_,_,h=>by simp[iY]at h
 |n+1,v,H,q,H',G,x,h,hv,Z=>by
  unfold iY at Z;split at Z
  .rename_i r K g z;split at Z
   .rename_i cs I tip L;split at Z
    .rename_i C;simp only[bT]at C;have hle1:=uQ C.1;have hle2:=uQ C.2;split at Z
     .rename_i l H1 hil;simp only[ce]at Z;obtain⟨rfl,rfl⟩:=Z;cases hv with
      |sl hr hl hcx=>
       rename_i b o xx cap;have O:=h.cells r b o xx cs I tip hr L;have s1:=uK h hr L (n:=max I (K+g*z)) ac ac tip id;obtain⟨Y,ho1,ho2⟩:=O.list;have hlen:((cs.drop K).take (g*z)).length=g*z:=by rw[jr,js];omega
       obtain⟨G2,s2,r2⟩:=xJ (xK n) _ ((Y.drop K).take (g*z)) _ l H1 _ s1.r (((ho1.drop K).take (g*z)).mono s1.ext) hil;refine⟨G2,s1.trans s2,?_⟩;have hll:l.length=g*z:=by
        have e1:=r2.1;have e2:=((ho1.drop K).take (g*z)).1;rw[hlen]at e2;omega
       have hlc:=Bx z g l;have hovl:Y.length=cs.length:=ho1.1.symm;have hat:∀m,m<g*z->∃v,Y[K+m]?=some v/\G2.F b (o+K+m)=some v/\∀c,l[m]?=some c->VR G2 c v:=fun m hm=>by
        have M:K+m<Y.length:=ac;refine⟨Y[K+m],aY M,?_,fun c hc=>?_⟩
        .refine s2.ext.F _ _ _ ?_;have V:=ho2 (K+m) Y[K+m] (aY M);show(G.ice w b o (max I (K+g*z))).F b (o+K+m)=some Y[K+m];simp only[Gh.ice];rw[<-i7]at V;split
         .rename_i v' hv';have:=h.frz _ _ _ hv';rw[V]at this;exact this.symm
         .rw[aj ⟨by trivial,ac,ac⟩];exact V
        .refine r2.2 m c _ hc ?_;rw[oC,aj hm,qG];exact aY M
       have hin:∀i j,i<g->j<z->i*z+j<g*z:=fun i j Z hj=>by
        calc i*z+j<i*z+z:=by omega
         _=(i+1)*z:=by rw[mZ,uZ]
         _<=g*z:=uO _ Z
       have key:VR G2 (.lst (iz z g l)) (.slice (some ⟨b,o+K,none⟩) (iz z g l).length cap):=by
        refine .lst (fun i j=>(Y[K+(i*z+j)]?).getD undef) (z:=z) (fun i J U=>(u9 z g l i J hll U).1) (fun i j Z hj=>?_) (fun i j J c U hcj=>?_) (by rw[hlc];exact hl)
        .rw[hlc]at Z;obtain⟨v,e1,e2,_⟩:=hat _ (hin i j Z hj);rw[e1,i7 (o+K)];exact e2
        .have hm:=(u9 z g l i J hll U).2 j c hcj;have M:=(ej.1 hm).1;obtain⟨v,e1,_,e3⟩:=hat (i*z+j) ac;rw[e1];exact e3 c hm
       rw[hlc]at key;exact key
     .simp at Z
    .simp at Z
   .simp at Z
  .rename_i cs;split at Z
   .rename_i ds H1 hil;simp only[ce]at Z;obtain⟨rfl,rfl⟩:=Z;cases hv with
    |agg hl hvs=>
     obtain⟨G',s,r⟩:=xJ (xK n) cs _ H ds H1 G h ⟨hl,hvs⟩ hil;exact⟨G',s,.agg r.1 r.2⟩
   .simp at Z
  .simp at Z
  .simp at Z
  .simp only[ce]at Z;obtain⟨rfl,rfl⟩:=Z;exact⟨G,jY h,hv⟩
section
variable {P:Program} {B:Bs} {G:Gh} {H H':Hp} {w:World}
theorem ES:∀(Y:List AV) (i:Nat) (E:au) (t:Nat),(zbj i Y E).at t=if i<=t/\t<i+Y.length then Y.getD (t-i) zcb else E.at t
 |[],i,E,t=>by
  simp only[zbj,ed,pG];rw[af ac]
 |v::vs,i,E,t=>by
  simp only[zbj,ES vs (i+1),cS];by_cases Z:i+1<=t/\t<i+1+vs.length
  .rw[aj Z,aj ac,show t-i=(t-(i+1))+1 by omega];rfl
  .rw[af Z,tl];by_cases g:t=i
   .subst g;rw[aj rfl,aj ac];simp
   .rw[af g,af ac]
theorem By:∀(d t:Nat),au.at (uC d) t=zcb
 |0,_=>rfl
 |d+1,t=>by
  unfold au.at uC;rw[rT];cases h:Nat.beq t 0 with
  |true=>rfl
  |false=>
   rw[zdq];cases g:Nat.beq (Nat.mod t 2) 1 with
   |true=>exact By d _
   |false=>exact By d _
theorem MX(N t:Nat):au.at (rN N) t=zcb:=By _ _
theorem TR.start{Y:List AV}{vs:List Value}(h:b8 G Y vs)(V:Nat):
 TR (max V Y.length) G (zbj 0 Y (rN (max V Y.length))) {tmps:=vs.toArray++Array.replicate (V-vs.toArray.size) undef,defers:=[] }:=by
 have K:=h.1;refine⟨cc,fun t=>?_⟩;rw[ES];simp only[dg,kK,b4,xw];by_cases M:t<Y.length
 .rw[aj M];have i:Y.getD t zcb=Y[t]:=by simp[List.getD,M]
  rw[i];have:(vs.toArray++Array.replicate (V-vs.toArray.size) undef).getD t undef=vs[t]' ac:=by
   rw[iA,Array.getElem?_append_left cc];simp[show t<vs.length by omega]
  rw[this];exact h.2 t _ _ (aY M) (aY ac)
 .rw[af M,MX];have:(vs.toArray++Array.replicate (V-vs.toArray.size) undef).getD t undef=undef:=by
   rw[iA,Array.getElem?_append_right cc];simp only[EC];split<;>rfl
  rw[this];exact uI G
theorem MY(h:R B H w G){N:Nat}{E:au}{a:Act}(M:TR N G E a){r:ResultVar}{c:AV}(hr:zch P E H r=some c):
 ∃v,(match r with
  | .tmp t=>pure (a.tmps.getD t undef)
  | .cell x t=>do loadVar t (<-asAddr (a.tmps.getD x undef)):Sem Value).run P w=.ok v w/\VR G c v:=by
 cases r with
 |tmp t=>
  simp only[zch,az]at hr;subst hr;exact⟨_,rfl,M.slots t⟩
 |cell x t=>
  simp only[zch]at hr;have I:=M.slots x;obtain⟨v,i,g⟩:=D7 (P:=P) h I hr;refine⟨v,?_,g⟩;show(do loadVar t (<-asAddr (a.tmps.getD x undef)):Sem Value).run P w=.ok v w;generalize a.tmps.getD x undef=U at I i⊢;generalize E.at x=o at I hr;cases I<;>simp[ip]at hr<;>simpa [Instr.loadAt,Instr.sureAddr,asAddr]using i
theorem ET(h:R B H w G){N:Nat}{E:au}{a:Act}(M:TR N G E a):∀{rs:List ResultVar}{Z:List AV},zb9 P E H rs=some Z ->
 ∃vs,(rs.mapM (fun
  | .tmp t=>pure (a.tmps.getD t undef)
  | .cell x t=>do loadVar t (<-asAddr (a.tmps.getD x undef)):ResultVar->Sem Value)).run P w=.ok vs w/\b8 G Z vs
 |[],Z,hr=>by
  simp only[zb9,az]at hr;subst hr;exact⟨[],aw,nK G⟩
 |r::rs,Z,hr=>by
  simp only[zb9]at hr;split at hr
  .rename_i c V i g;simp only[az]at hr;subst hr;obtain⟨v,Y,O⟩:=MY (P:=P) h M i;obtain⟨vs,k1,m⟩:=ET h M g;refine⟨v::vs,?_,mX O m⟩;rw[List.mapM_cons];simp only[d8,Y,ee,k1,jt]
  .simp at hr
theorem EU(h:R B H w G){N:Nat}{E:au}{a:Act}(M:TR N G E a){I:Func}{r:AV}(hr:tf P I.results.toList E H=.val r H'):
 H'=H/\∃v,(results I a.tmps).run P w=.ok v w/\VR G r v:=by
 unfold tf at hr;split at hr
 .rename_i Z O;simp only[Res.val.injEq]at hr;obtain⟨rfl,rfl⟩:=hr;obtain⟨vs,i,g⟩:=ET (P:=P) h M O;refine⟨rfl,?_⟩;have U:(results I a.tmps).run P w=.ok (if h:vs.toArray.size=1 then vs.toArray[0]else .tuple vs.toArray) w:=by
   unfold results;rw[Array.mapM_eq_mapM_toList];simp only[d8,Sem.run_map];exact ju (fun r:Result (List Value)=>(r.andThen fun a J=>Result.ok a.toArray J).andThen fun a J=>Sem.run P (pure (if h:a.size=1 then a[0]else Value.tuple a)) J) i
  refine⟨_,U,?_⟩
  match Z,vs,g with
  |[],[],g=>exact .tup (vs:=[]) rfl aw
  |[c],[v],g=>exact g.of_cons.1
  |c::c'::Z,v::v'::vs,g=>
   have:¬(v::v'::vs).toArray.size=1:=aw;rw[dif_neg this];exact .tup g.1 g.2
  |[],_::_,g=>have:=g.1;simp at this
  |[_],[],g=>have:=g.1;simp at this
  |[_],_::_::_,g=>have:=g.1;simp at this
  |_::_::_,[],g=>have:=g.1;simp at this
  |_::_::_,[_],g=>have:=g.1;simp at this
 .simp at hr
theorem Bz(K:Fit P){n:Nat}{ih:Task->Res}(V:Snd P B n ih){f:FuncId}{Z:List AV}{r:AV}(J:mP P ih f Z H=.val r H'){vs:List Value}(h:R B H w G)(m:b8 G Z vs):
 (∃I,P.funcs[f]?=some I/\I.body.isSome=true)/\Calls P f vs.toArray w (fun e M=>∃v C,e=.returned v/\VR C r v/\Step B H.next G w H' M C):=by
 unfold mP at J;split at J
 .rename_i I U;split at J
  .rename_i c hc;refine⟨⟨I,U,by rw[hc];rfl⟩,calls_of_wp U hc ?_⟩;have o:=TR.start m I.ntmps;split at J
   .rename_i E1 H1 Y;refine qJ (fun e j M L=>?_) (V.code _ _ _ _ _ _ _ _ Y G w _ h o rfl);obtain⟨rfl,C,O,z,hd⟩:=L;obtain⟨rfl,v,i,g⟩:=EU (P:=P) z.r O J;exact⟨hd,v,i,v,C,rfl,g,z⟩
   .rename_i E1 H1 Y;refine qJ (fun e j M L=>?_) (V.code _ _ _ _ _ _ _ _ Y G w _ h o rfl);obtain⟨rfl,C,O,z,hd⟩:=L;obtain⟨rfl,v,i,g⟩:=EU (P:=P) z.r O J;exact⟨hd,v,i,v,C,rfl,g,z⟩
   .simp at J
  .simp at J
 .simp at J
theorem BA{n:Nat}{ih:Task->Res}(Y:Snd P B n ih){f N:Nat}{b:Code}{r:Res}{x:AX}{j:au}(J:mQ ih f N b r=.done x j H'):
 ∃Z E1 H1,r=.done Z E1 H1/\((Z=.normal/\ih (.code f N b E1 H1)=.done x j H')\/(Z≠.normal/\x=Z/\j=E1/\H'=H1)):=by
 unfold mQ at J;split at J
 .rename_i E1 H1;exact⟨.normal,E1,H1,rfl,.inl ⟨rfl,J⟩⟩
 .rename_i L;subst J;exact⟨x,j,H',rfl,.inr ⟨fun e=>by subst e;exact L _ _ rfl,rfl,rfl,rfl⟩⟩
theorem MZ(fit:Fit P){n:Nat}{ih:Task->Res}(Z:Snd P B n ih){f N:Nat}{c:Code}{E:au}{x:AX}{E':au}(J:step P B.cfg ih (.code f N c E H)=.done x E' H')
 {a:Act} (h:R B H w G) (M:TR N G E a) (hd:a.defers=[]):Code.wp P c (jI B N H.next G w x E' H') a w:=by
 cases c with
 |skip=>
  simp only[step,Res.done.injEq]at J;obtain⟨rfl,rfl,rfl⟩:=J;exact wp_skip ⟨rfl,G,M,jY h,hd⟩
 |region id ops draw=>
  cases draw with
  |false=>
   exact wp_region_list (A5 fit Z ops.toList J h M hd (fun _ _ _ hp=>hp))
  |true=>exact MV fit Z J h M hd
 |seq p q=>
  obtain⟨m,E1,H1,i,g⟩:=BA Z J;refine wp_seq (qJ (fun e Y V U=>?_) (Z.code _ _ _ _ _ _ _ _ i G w a h M hd));obtain⟨rfl,C,O,z,K⟩:=U;rcases g with⟨rfl,g⟩|⟨L,rfl,rfl,rfl⟩
  .exact qJ (fun e a w U=>xE z U) (Z.code _ _ _ _ _ _ _ _ g C V Y z.r O K)
  .cases x with
   |normal=>exact(L rfl).elim
   |exit id=>exact⟨rfl,C,O,z,K⟩
   |ret=>exact⟨rfl,C,O,z,K⟩
 |cond y p q=>
  simp only[step,rO]at J;split at J
  .rename_i I;have o:=A4 M I;have:a.eval y=.bool true:=by generalize a.eval y=v at o;cases o;rfl
   exact wp_cond_true this (Z.code _ _ _ _ _ _ _ _ J G w a h M hd)
  .rename_i I;have o:=A4 M I;have:a.eval y=.bool false:=by generalize a.eval y=v at o;cases o;rfl
   exact wp_cond_false this (Z.code _ _ _ _ _ _ _ _ J G w a h M hd)
  .simp at J
 |block id p=>
  simp only[step]at J;cases i:ih (.code f N p E H)with
  |done m E1 H1=>
   rw[i]at J;refine wp_block (qJ (fun e Y V U=>?_) (Z.code _ _ _ _ _ _ _ _ i G w a h M hd));obtain⟨rfl,C,O,z,K⟩:=U;cases m with
   |normal=>
    simp only[zdv,Res.done.injEq]at J;obtain⟨rfl,rfl,rfl⟩:=J;exact⟨rfl,C,O,z,K⟩
   |ret=>
    simp only[zdv,Res.done.injEq]at J;obtain⟨rfl,rfl,rfl⟩:=J;exact⟨rfl,C,O,z,K⟩
   |exit j=>
    simp only[zdv]at J;cases o:Nat.beq j id with
    |true=>
     rw[o]at J;simp only[Res.done.injEq]at J;obtain⟨rfl,rfl,rfl⟩:=J;have:=hM o;subst this;simp only[A2,Exit.inBlock,cZ];exact⟨rfl,C,O,z,K⟩
    |false=>
     rw[o]at J;simp only[Res.done.injEq]at J;obtain⟨rfl,rfl,rfl⟩:=J;have:=AA o;simp only[A2,Exit.inBlock];rw[af this];exact⟨rfl,C,O,z,K⟩
  |val v H1=>rw[i]at J;simp[zdv]at J
  |fail=>rw[i]at J;simp[zdv]at J
 |loop p=>
  refine wp_loop_rounds (n+1) ?_;rw[rounds_succ];obtain⟨m,E1,H1,i,g⟩:=BA Z J;refine qJ (fun e Y V U=>?_) (Z.code _ _ _ _ _ _ _ _ i G w a h M hd);obtain⟨rfl,C,O,z,K⟩:=U;rcases g with⟨rfl,g⟩|⟨L,rfl,rfl,rfl⟩
  .exact A3 (fun e a w U=>xE z U) (Z.loop _ _ _ _ _ _ _ _ g C V Y z.r O K)
  .cases x with
   |normal=>exact(L rfl).elim
   |exit id=>exact⟨rfl,C,O,z,K⟩
   |ret=>exact⟨rfl,C,O,z,K⟩
 |exit id=>
  simp only[step,Res.done.injEq]at J;obtain⟨rfl,rfl,rfl⟩:=J;exact wp_exit ⟨rfl,G,M,jY h,hd⟩
 |ret=>
  simp only[step,Res.done.injEq]at J;obtain⟨rfl,rfl,rfl⟩:=J;exact wp_ret ⟨rfl,G,M,jY h,hd⟩
 |rangeFunc _ _ _ _=>simp[step]at J
 |scope _=>simp[step]at J
 |label _=>simp[step]at J
 |goto _=>simp[step]at J
 |refuse _=>simp[step]at J
theorem M0(Y:Fit P){n:Nat}{ih:Task->Res}(Z:Snd P B n ih){f N:Nat}{c:Code}{E:au}{x:AX}{j:au}(J:step P B.cfg ih (.code f N (.loop c) E H)=.done x j H')
 {a:Act} (h:R B H w G) (M:TR N G E a) (hd:a.defers=[]):Code.rounds P c (jI B N H.next G w x j H') (n+1) a w:=by
 rw[rounds_succ];obtain⟨o,E1,H1,I,g⟩:=BA Z J;refine qJ (fun e i V U=>?_) (Z.code _ _ _ _ _ _ _ _ I G w a h M hd);obtain⟨rfl,C,O,z,K⟩:=U;rcases g with⟨rfl,g⟩|⟨L,rfl,rfl,rfl⟩
 .exact A3 (fun e a w U=>xE z U) (Z.loop _ _ _ _ _ _ _ _ g C V i z.r O K)
 .cases x with
  |normal=>exact(L rfl).elim
  |exit id=>exact⟨rfl,C,O,z,K⟩
  |ret=>exact⟨rfl,C,O,z,K⟩
theorem EV(fit:Fit P)(hc:MW P B):∀n,Snd P B n (zb2 P B.cfg n)
 |0=>⟨fun _ _ _ _ _ h=>by simp[zb2]at h,fun _ _ _ _ _ _ _ _ h=>by simp[zb2]at h,fun _ _ _ _ _ _ _ _ h=>by simp[zb2]at h⟩
 |n+1=>by
  have Z:=EV fit hc n;have he:zb2 P B.cfg (n+1)=step P B.cfg (zb2 P B.cfg n):=rfl;rw[he];refine⟨fun f Y H r H' J G w vs h M=>?_,fun f N c E H x E' H' J G w a h m hd=>MZ fit Z J h m hd,fun f N c E H x E' H' J G w a h m hd=>M0 fit Z J h m hd⟩;have g:∀{G:Gh}{Y:List AV}{vs:List Value}{H:Hp}{O:AV},B.cfg.call f Y=some O->R B H w G->b8 G Y vs ->
   (∃I,P.funcs[f]?=some I/\I.body.isSome=true)/\Calls P f vs.toArray w (fun e U=>∃v C,e=.returned v/\VR C O v/\Step B H.next G w H U C):=fun{G Y vs H O} hr h M=>by
   obtain⟨h1,h2⟩:=hc f Y O hr;refine⟨h1,(h2 G w vs h.val h.frz M).mono fun e U L=>?_⟩;obtain⟨v,F',rfl,K,hg⟩:=L;exact⟨v,_,rfl,K,h.grow hg⟩
  have V:∀{G:Gh}{Y:List AV}{vs:List Value}{H H':Hp}{r:AV},mR P B.cfg (zb2 P B.cfg n) f Y H=.val r H'->R B H w G->b8 G Y vs ->
   (∃I,P.funcs[f]?=some I/\I.body.isSome=true)/\Calls P f vs.toArray w (fun e U=>∃v C,e=.returned v/\VR C r v/\Step B H.next G w H' U C):=fun{G Y vs H H' r} J h M=>by
   unfold mR at J;split at J
   .unfold uD at J;split at J
    .rename_i i H1 o;split at J
     .rename_i O hr;simp only[Res.val.injEq]at J;obtain⟨rfl,rfl⟩:=J;obtain⟨G1,s1,r1⟩:=xJ (xK 100) Y vs H i H1 G h M o;obtain⟨h1,h2⟩:=g hr s1.r r1;refine⟨h1,h2.mono fun e U L=>?_⟩;obtain⟨v,C,rfl,K,z⟩:=L;exact⟨v,C,rfl,K,s1.trans z⟩
     .exact Bz fit Z J h M
    .exact Bz fit Z J h M
   .exact Bz fit Z J h M
  simp only[step]at J;split at J
  .rename_i O hr;simp only[Res.val.injEq]at J;obtain⟨rfl,rfl⟩:=J;exact g hr h M
  .unfold tg at J;split at J
   .rename_i v1 H1 hz j;obtain⟨g1,g2⟩:=V j h M;refine⟨g1,g2.mono fun e U L=>?_⟩;obtain⟨v,C,rfl,K,z⟩:=L;cases hi:iY 100 v1 H1 with
    |none=>rw[hi]at J;simp[zcP]at J
    |some p=>
     obtain⟨q,H2⟩:=p;rw[hi]at J;simp only[zcP,Res.val.injEq]at J;obtain⟨rfl,rfl⟩:=J;obtain⟨G2,s2,r2⟩:=xK 100 v1 H1 _ _ C v z.r K hi;exact⟨v,G2,rfl,r2,z.trans s2⟩
   .exact V J h M
end
open Go Go.RowKit Go.WideShapes Go.ChangeShapes
theorem M1(r:Nat):zbk.get r=none:=rfl
theorem R.start{w:World}{G:Gh}{cfg:Cfg}(Z:∀b o v,G.F b o=some v->w.cell? ⟨b,o,none⟩=some v)(Y:∀r,G.β r=none)(i:l4 cfg.dec G.ρ):R ⟨w.heap.size,G.ρ,cfg⟩ zbk w G:=by
 refine⟨aA _,?_,?_,?_,?_,?_,?_,?_,?_,?_,Z,rfl,i,?_⟩<;>intros<;>simp_all
theorem tz{g:AV->Option AV}:∀{Z U:List AV},iceL g Z=some U->U.length=Z.length/\∀(i:Nat) d,U[i]?=some d->∃c,Z[i]?=some c/\g c=some d
 |[],U,h=>by
  simp only[iceL,az]at h;subst h;exact⟨rfl,aw⟩
 |c::Z,U,h=>by
  simp only[iceL]at h;split at h
  .rename_i d j V O;simp only[az]at h;subst h;obtain⟨m,L⟩:=tz O;refine⟨by simp[m],fun i e Y=>?_⟩;cases i with
   |zero=>simp at Y;subst Y;exact⟨c,rfl,V⟩
   |succ i=>exact L i e qF
  .simp at h
theorem EW{g:AV->Option AV}:∀{Z U:List (List AV)},qE g Z=some U->U.length=Z.length/\∀(i:Nat) d,U[i]?=some d->∃c,Z[i]?=some c/\iceL g c=some d
 |[],U,h=>by
  simp only[qE,az]at h;subst h;exact⟨rfl,aw⟩
 |c::Z,U,h=>by
  simp only[qE]at h;split at h
  .rename_i d j V O;simp only[az]at h;subst h;obtain⟨m,L⟩:=EW O;refine⟨by simp[m],fun i e Y=>?_⟩;cases i with
   |zero=>simp at Y;subst Y;exact⟨c,rfl,V⟩
   |succ i=>exact L i e qF
  .simp at h
theorem vb{H:Hp}{G G2:Gh}{w:World}(hρ:G2.ρ=G.ρ)(hF:∀b o v,G.F b o=some v->G2.F b o=some v)
 (Z:∀r b o x cs imm tip,G.β r=some (b,o,x)->H.get r=some (.cells cs imm tip)->hO G w b o cs/\∀j v,w.cell? ⟨b,o+j,none⟩=some v->G2.F b (o+j)=some v) :
 ∀(n:Nat) (v:AV) (x:Value) (q:AV),VR G v x->iceV H n v=some q->VR G2 q x
 |0,_,_,_,_,h=>by simp[iceV]at h
 |n+1,v,x,q,hv,h=>by
  have I:∀{cs ds:List AV}{vs:List Value},b8 G cs vs->iceL (iceV H n) cs=some ds->b8 G2 ds vs:=fun{cs ds vs} Y hi=>by
   obtain⟨h1,h2⟩:=tz hi;refine⟨by rw[h1];exact Y.1,fun i d u hd hu=>?_⟩;obtain⟨c,hc,hcd⟩:=h2 i d hd;exact vb hρ hF Z n c u d (Y.2 i c u hc hu) hcd
  cases hv with
  |int k a=>simp only[iceV,az]at h;subst h;exact .int _ _
  |sx k e=>simp only[iceV,az]at h;subst h;rw[<-hρ];exact .sx _ _
  |bool b=>simp only[iceV,az]at h;subst h;exact .bool _
  |str s l hs=>simp only[iceV,az]at h;subst h;exact .str _ _ hs
  |nilP=>simp only[iceV,az]at h;subst h;exact .nilP
  |nilM=>simp only[iceV,az]at h;subst h;exact .nilM
  |nilF=>simp only[iceV,az]at h;subst h;exact .nilF
  |nilS=>simp only[iceV,az]at h;subst h;exact .nilS
  |ptr _=>simp[iceV]at h
  |iptr _ _ _=>simp[iceV]at h
  |map _=>simp[iceV]at h
  |clo _ _=>simp[iceV]at h
  |agg hl Y=>
   simp only[iceV]at h;split at h
   .rename_i ds hds;simp only[az]at h;subst h;have:=I ⟨hl,Y⟩ hds;exact .agg this.1 this.2
   .simp at h
  |tup hl Y=>
   simp only[iceV]at h;split at h
   .rename_i ds hds;simp only[az]at h;subst h;have:=I ⟨hl,Y⟩ hds;exact .tup this.1 this.2
   .simp at h
  |lst0 a cap=>
   simp only[iceV,qE,az]at h;subst h;exact .lst0 _ _
  |lst vs hz hFx hvx hc=>
   rename_i xs b o cap z;simp only[iceV]at h;split at h
   .rename_i ys hys;simp only[az]at h;subst h;obtain⟨h1,h2⟩:=EW hys;rw[<-h1];refine .lst vs (z:=z) (fun i K hr=>?_) (fun i j hi hj=>hF _ _ _ (hFx i j (by rw[<-h1];exact hi) hj)) (fun i j K c hr hcj=>?_) (by rw[h1];exact hc)
    .obtain⟨c,M,hc2⟩:=h2 i K hr;rw[(tz hc2).1];exact hz i c M
    .obtain⟨c0,M,hc2⟩:=h2 i K hr;obtain⟨c1,hc3,hc4⟩:=(tz hc2).2 j c hcj;exact vb hρ hF Z n c1 (vs i j) c (hvx i j c0 c1 M hc3) hc4
   .simp at h
  |sl hr hl hcx=>
   rename_i r V g z b o xx cap;simp only[iceV]at h;split at h
   .rename_i cs imm tip hg;split at h
    .rename_i l hil;split at h
     .rename_i L;simp only[az]at h;subst h;obtain⟨hh,hnew⟩:=Z r b o xx cs imm tip hr hg;obtain⟨h1,h2⟩:=tz hil;have C:∀(m:Nat) c,l[m]?=some c->∃v,w.cell? ⟨b,o+V+m,none⟩=some v/\VR G2 c v:=fun m c hm=>by
       obtain⟨c0,J,M⟩:=h2 m c hm;rw[oC]at J;split at J
       .rw[qG]at J;obtain⟨v,U,hv2⟩:=hh _ _ J;exact⟨v,by rw[i7];exact U,vb hρ hF Z n c0 v c hv2 M⟩
       .simp at J
      have hlc:=Bx z g l;have hin:∀i j,i<g->j<z->i*z+j<l.length:=fun i j hi hj=>by
       rw[L]
       calc i*z+j<i*z+z:=by omega
        _=(i+1)*z:=by rw[mZ,uZ]
        _<=g*z:=uO _ hi
      have key:VR G2 (.lst (iz z g l)) (.slice (some ⟨b,o+V,none⟩) (iz z g l).length cap):=by
       refine .lst (fun i j=>(w.cell? ⟨b,o+V+(i*z+j),none⟩).getD undef) (z:=z) (fun i K O=>(u9 z g l i K L O).1) (fun i j hi hj=>?_) (fun i j K c O hcj=>?_) (by rw[hlc];exact hl)
       .rw[hlc]at hi;have hm:=hin i j hi hj;obtain⟨v,U,_⟩:=C (i*z+j) _ (aY hm);rw[U];have:=hnew (V+(i*z+j)) v (by rw[<-i7];exact U);rw[show o+V+i*z+j=o+(V+(i*z+j)) by omega];exact this
       .have hm:=(u9 z g l i K L O).2 j c hcj;obtain⟨v,U,hv2⟩:=C (i*z+j) c hm;rw[U];exact hv2
      rw[hlc]at key;exact key
     .simp at h
    .simp at h
   .simp at h
theorem M2(w:World){G G2:Gh}(C:G2.ρ=G.ρ)(O:∀b o v,G.F b o=some v->G2.F b o=some v){m:Nat}{Y:List AV}(h:pA m Y=true){vs:List Value}(M:b8 G Y vs):b8 G2 Y vs:=by
 unfold pA at h;split at h
 .rename_i J Z;have:=zdD h;subst this;obtain⟨h1,z⟩:=tz Z;refine⟨M.1,fun i c v hc I=>?_⟩;obtain⟨c0,U,V⟩:=z i c hc;rw[hc]at U;simp only[az]at U;subst U;exact vb (H:=zbk) (w:=w) C O (fun r b o x j L g _ K=>by simp[M1]at K) m c v c (M.2 i c v hc I) V
 .simp at h
theorem BB{P:Program}{ih:Task->Res}{f:FuncId}{Y:List AV}{H H':Hp}{r:AV}(h:mP P ih f Y H=.val r H'):∃I,P.funcs[f]?=some I/\I.body.isSome=true:=by
 unfold mP at h;split at h
 .rename_i I Z;split at h
  .rename_i c o;exact⟨I,Z,by simp[o]⟩
  .simp at h
 .simp at h
theorem M3{P:Program}{cfg:Cfg}{ρ:Nat->Int}(V:∀f Y r,cfg.call f Y=some r->cn P ρ f Y r){n:Nat}{f:FuncId}{Y:List AV}{H H':Hp}{r:AV}(h:zb2 P cfg n (.call f Y H)=.val r H'):
 ∃I,P.funcs[f]?=some I/\I.body.isSome=true:=by
 cases n with
 |zero=>simp[zb2]at h
 |succ n=>
  have U:zb2 P cfg (n+1)=step P cfg (zb2 P cfg n):=rfl;rw[U]at h;simp only[step]at h;split at h
  .rename_i Z hr;exact(V f Y Z hr).1
  .have z:∀{r:AV}{H':Hp},mR P cfg (zb2 P cfg n) f Y H=.val r H'->∃I,P.funcs[f]?=some I/\I.body.isSome=true:=fun{r H'} h=>by
    unfold mR at h;split at h
    .unfold uD at h;split at h
     .split at h
      .rename_i hr;exact(V _ _ _ hr).1
      .exact BB h
     .exact BB h
    .exact BB h
   unfold tg at h;split at h
   .rename_i M;exact z M
   .exact z h
theorem BC{P:Program}(fit:Fit P){cfg:Cfg}{ρ:Nat->Int}(z:l4 cfg.dec ρ)(I:∀f Y r,cfg.call f Y=some r->cn P ρ f Y r){n m k:Nat}{f:FuncId}{Y:List AV}{r:AV}
 (hp:pA k Y=true) (h:uE P cfg n m f Y=some r):cn P ρ f Y r:=by
 unfold uE at h;split at h
 .rename_i v0 H' V;refine⟨M3 I V,fun G w vs C hf M=>?_⟩;subst C;have U:b8 {G with β:=fun _=>none} Y vs:=M2 w (G:=G) (G2:={G with β:=fun _=>none}) rfl (fun _ _ _ h=>h) hp M;have O:R ⟨w.heap.size,G.ρ,cfg⟩ zbk w {G with β:=fun _=>none}:=R.start (G:={G with β:=fun _=>none}) hf (fun _=>rfl) z;refine((EV (B:=⟨w.heap.size,G.ρ,cfg⟩) fit I n).call f Y zbk _ H' V _ w vs O U).2.mono fun e Z hh=>?_;obtain⟨x,G',rfl,hx,J⟩:=hh;have K:Below w.heap.size w Z:=⟨J.fr.os,J.fr.tape,J.fr.output,J.fr.size,fun k hk=>J.fr.block k hk (fun r b o x hr=>by simp at hr)⟩;refine⟨x,fun b o=>if b<w.heap.size then G.F b o else Z.cell? ⟨b,o,none⟩,rfl,?_,K,fun b o v M=>?_,fun b o v M=>?_,fun b o v M=>?_⟩
  .refine vb (G:=G') (w:=Z) (H:=H') ?_ (fun b o v M=>?_) (fun r b o x cs L g hr hg=>?_) m v0 x r hx h
   .exact J.ext.ρ.symm
   .rcases J.icy b o v M with i|i
    .show(if b<w.heap.size then G.F b o else Z.cell? ⟨b,o,none⟩)=some v;rw[aj (mY (hf b o v i))];exact i
    .show(if b<w.heap.size then G.F b o else Z.cell? ⟨b,o,none⟩)=some v;rw[af (by have:w.heap.size<=b:=i;omega)];exact J.r.frz b o v M
   .refine⟨J.r.cells r b o x cs L g hr hg,fun j v hj=>?_⟩;have i:w.heap.size<=b:=(J.r.lt r b o x hr).1;show(if b<w.heap.size then G.F b (o+j)else Z.cell? ⟨b,o+j,none⟩)=some v;rw[af ac];exact hj
  .rw[aj (mY (hf b o v M))];exact M
  .split at M
   .exact .inl M
   .exact .inr ac
  .split at M
   .rename_i hb;rw[(Bw K hb).1];exact hf b o v M
   .exact M
 .simp at h
theorem EX{P:Program}{ρ:Nat->Int}{f:FuncId}{Y:List AV}{b:Bool}(h:cn P ρ f Y (.bool b)){vs:List Value}{w:World}{F:Nat->Nat->Option Value}
 (V:∀b o v,F b o=some v->w.cell? ⟨b,o,none⟩=some v) (M:b8 ⟨fun _=>none,F,ρ⟩ Y vs) :
 Calls P f vs.toArray w (fun e J=>e=.returned (.bool b)/\Below w.heap.size w J):=by
 refine(h.2 ⟨fun _=>none,F,ρ⟩ w vs rfl V M).mono fun e J O=>?_;obtain⟨v,Z,rfl,hr,C⟩:=O;cases hr;exact⟨rfl,C.below⟩
def BD:Res->Bool
 | .val (.bool true) _=>true
 |_=>false
theorem M4{P:Program}(fit:Fit P){cfg:Cfg}{ρ:Nat->Int}(i:l4 cfg.dec ρ)(V:∀f Y r,cfg.call f Y=some r->cn P ρ f Y r){n k:Nat}{f:FuncId}{Y:List AV}
 (I:pA k Y=true) (h:BD (zb2 P cfg n (.call f Y zbk))=true):cn P ρ f Y (.bool true):=by
 refine BC fit i V (n:=n) (m:=1) I ?_;unfold uE;unfold BD at h;split at h
 .rename_i H U;rw[U];rfl
 .simp at h
theorem M5{P:Program}(fit:Fit P){cfg:Cfg}{ρ:Nat->Int}(i:l4 cfg.dec ρ)(V:∀f Y r,cfg.call f Y=some r->cn P ρ f Y r){n m k:Nat}{f:FuncId}{Y:List AV}{r:AV}
 (I:pA k Y=true) (h:Ax P cfg n m f Y r=true):cn P ρ f Y r:=by
 unfold Ax at h;split at h
 .rename_i q Z;rw[<-AV.beq_eq h];exact BC fit i V I Z
 .simp at h
theorem pL(ρ:Nat->Int):l4 (fun _ _ _=>none) ρ:=fun _ _ _ _ _ h=>j6
def tA(P:Program)(ρ:Nat->Int):List (FuncId×List AV×AV)->Prop
 |[]=>True
 |p::l=>cn P ρ p.1 p.2.1 p.2.2/\tA P ρ l
theorem xL{P:Program}{ρ:Nat->Int}:∀{l:List (FuncId×List AV×AV)},tA P ρ l->∀f Y r,rQ l f Y=some r->cn P ρ f Y r
 |[],_,_,_,_,h=>by simp[rQ]at h
 |p::l,hk,f,Y,r,h=>by
  simp only[rQ]at h;split at h
  .rename_i hf;split at h
   .rename_i ha;simp only[az]at h;subst h;rw[<-hM hf,<-zdD ha];exact hk.1
   .exact xL hk.2 f Y r h
  .exact xL hk.2 f Y r h
def xM:List (Nat×Nat×Plan)->FuncId->Nat->Plan
 |[],_,_=>.text
 |p::l,f,id=>match Nat.beq p.1 f with
  |true=>match Nat.beq p.2.1 id with
   |true=>p.2.2
   |false=>xM l f id
  |false=>xM l f id
def M6(pls:List (Nat×Nat×Plan))(l:List (FuncId×List AV×AV)):Cfg:={keep:=fun _=>false,call:=rQ l,ice:=fun f=>l.any fun p=>Nat.beq p.1 f,plan:=xM pls}
theorem M7{P:Program}(fit:Fit P){ρ:Nat->Int}{pls:List (Nat×Nat×Plan)}{l:List (FuncId×List AV×AV)}(K:tA P ρ l){n m k:Nat}{f:FuncId}{Y:List AV}{r:AV}
 (I:pA k Y=true) (h:Ax P (M6 pls l) n m f Y r=true):cn P ρ f Y r:=M5 fit (pL ρ) (xL K) I h
def BE:Cfg:={keep:=fun _=>false}
theorem M8{P:Program}{ρ:Nat->Int}:∀f Y r,BE.call f Y=some r->cn P ρ f Y r:=fun _ _ _ h=>by simp[BE]at h
def EY(P:Program):Bool:=P.funcs.all (fun I=>!(I.body.isSome&&I.name == "runtime.NumGoroutine"))&&P.follows .mixedOrders
theorem Fit.of{P:Program}(h:EY P=true):Fit P:=by
 simp only[EY,bT]at h;refine⟨fun f I hf o=>?_,h.2⟩;have i:=h.1;rw[Bh]at i;have:=i I (by exact Array.mem_of_getElem? hf);simpa [o]using this
theorem closed{P:Program}(fit:Fit P){n f:Nat}(h:BD (zb2 P BE n (.call f [] zbk))=true){w:World}:
 Calls P f #[] w (fun e J=>e=.returned (.bool true)/\Below w.heap.size w J):=
 EX (ρ:=fun _=>0) (F:=fun _ _=>none) (M4 fit (pL _) M8 (k:=1) rfl h) (fun _ _ _ h=>j6) (nK _)
section
variable {H:Type} {enc:TypeId × Value -> H} {P:Program}
theorem M9{f:Func}{s:ChangeSpec}{apart L M O:Bool}{W C:World}{Y:Array Value}{v:Value}{I z:List (DataW H)}{K i pv:List MemPlace}
 (hW:DataW.Whole enc P f.params.toList s.vars apart W Y.toList I z K)
 (V:∀(b:Nat) (J:Nat->Bool) (hd:Bool),DataW.TrodAll enc P C b J hd f.resultTypes.toList (v.resultList f.resultTypes.size) (s.fn H (I++z)).results [])
 (Z:∀J:Nat->Bool,(∀p∈K,J p.block=true)->DataW.TrodAll enc P C 0 J true f.params.toList Y.toList (s.fn H (I++z)).args i)
 (U:∀J:Nat->Bool,(∀p∈K,J p.block=true)->DataW.TrodVars enc P C J s.vars (s.fn H (I++z)).vars pv)
 (m:K=i++pv) (hb:Below W.heap.size W C)
 (hok:∀(j:Nat) (t:TypeId) (r:Value),f.resultTypes[j]?=some t->(v.resultList f.resultTypes.size)[j]?=some r->Value.okWide P C .any 0 t r) :
 s.post enc P f apart L M O W Y v C:=by
 have hlt:∀p∈K,p.block<W.heap.size:=fun p hp=>hW.lt p hp;have o:∀p∈K,(fun b=>decide (b<W.heap.size)) p.block=true:=fun p hp=>by simpa using hlt p hp
 refine⟨I,z,K,[],i,pv,hW,V _ _ _,Z _ o,U _ o,World.keptBut_mono (fun p hp=>⟨hp,?_⟩) (hb.frame (·∈ K)),fun _=>?_⟩
 .rw[m,pJ]at hp;exact Or.inr hp
 .obtain⟨_,_,_,_,_,hz,hn⟩:=hW;refine⟨hok,_,_,([]++i)++pv,⟨[]++i,pv,trodAll_append (Z _ (fun _ _=>rfl)) (V _ _ _),U _ (fun _ _=>rfl),rfl,?_,?_⟩,?_⟩
  .intro b g hp;have hin:MemPlace.cell b g∈K:=by rw[m];simpa using hp
   rw[hb.frozen (hlt _ hin)];exact hz b g hin
  .intro ha;have:=hn ha;rw[m]at this;simpa using this
  .intro p hp _;rw[m];simpa using hp
end
end Go.Ab
