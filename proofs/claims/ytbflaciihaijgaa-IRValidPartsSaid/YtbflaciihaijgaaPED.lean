/- Lemmas for the last file. -/
import Derived.Below
import Derived.ChangeSame
import Derived.Orders
import Derived.Test.YtbflaciihaijgaaPEC
set_option linter.all false
set_option maxHeartbeats 32000000
namespace Go.Ab
set_option maxRecDepth 20000
open Go
variable{qd:Prop}
def i9(h:qd:=by simpa using h):=h
def BG(h:qd:=by simpa using g):=h
def mE(h:qd:=by rw[e]):=h
def lY(h:qd:=by simp at h):=h
def JJ(h:qd:=by rw[C.size];exact(List.getElem?_eq_some_iff.1 I).1):=h
def JK(h:qd:=by rw[hs];have:=(List.getElem?_eq_some_iff.1 I).1;simpa using this):=h
def E9(h:qd:=by rw[List.length_drop];omega):=h
def yK(h:qd:=by rw[hr];simp):=h
def gE:=@List.mem_cons
def kU:=@List.mem_append
def Fa:=@List.mem_flatMap
def mF:=@List.mem_range
def rB:=@Bool.not_true
def lZ:=@Bool.false_or
def xf:=@List.mem_filter
def rC:=@Array.getElem?_eq_getElem
def xg:=@Bool.not_eq_true'
def Fc:=@Array.all_eq_true_iff_forall_mem
def oZ:=@Bool.or_eq_true
def nh:=@List.mem_map
def yL:=@Nat.lt_or_ge
def Fe:=@Array.getElem?_eq_none
def xh:=@List.any_eq_false
def BH:=@Nat.lt_trichotomy
def yM:=@List.eq_nil_iff_forall_not_mem
def kV:=@List.getElem?_eq_none
def JL:=@Array.getElem?_replicate
def Fh:=@List.singleton_append
def xi:=@Bool.true_or
def ei:=@List.mem_cons_self
def ej:=@List.mem_cons_of_mem
def sw:=@List.map_append
def Fk:=@List.mem_iff_getElem?
def yN:=@List.map_map
def vn:=@Bool.and_self
def yO:=@Nat.one_mul
def nn:=@true_and
def BI:=@Nat.le_max_left
def BJ:=@Nat.le_max_right
end Go.Ab
namespace Go.Ab
set_option maxRecDepth 20000
open Go Go.RowKit
variable{i j f N V n m q p k:Nat}{l Z:qx}{o:Oper}{D:Nat->Prop}{ops:qK}{g y:qH}{ih:zd2->Res}{E0 E' z E U:aB}{H' H:Hp}{rs:List Rec}{G G0:Gh}{a:Act}{t:zd2}{w w' w0:World}{Q:Exit->Act->World->Prop}{x:AX}{P:Program}{L:qC}{v:Value}{r:AV}{C:qs}{vs:qE}{b c:Code}{cfg:Cfg}
theorem Fl{i:Nat}:∀{l O:qC},i∈wO O l↔i∈O\/i∈l
 |[],O=>by simp[wO]
 |x::xs,O=>by
  simp only[wO];split
  .rename_i h;have I:x∈O:=i9;rw[Fl,gE];exact⟨fun h=>h.elim .inl (fun h=>.inr (.inr h)),fun h=>h.elim .inl (fun h=>h.elim (fun e=>.inl (by subst e;exact I)) .inr)⟩
  .rw[Fl,gE,gE];exact⟨fun h=>h.elim (fun h=>h.elim (fun e=>.inr (.inl e)) .inl) (fun h=>.inr (.inr h)),fun h=>h.elim (fun h=>.inl (.inr h)) (fun h=>h.elim (fun e=>.inl (.inl e)) .inr)⟩
def TD{l:qC}:i∈yn l↔i∈l:=by unfold yn;rw[Fl];simp
theorem Fm:∀(l:qx) (O:List qC) (i:Nat),i<O.length->(iI l O).getD i []=O.getD i []
 |[],O,i,_=>rfl
 |o::l,O,i,h=>by
  simp only[iI];rw[Fm l _ i ca];simp[List.getD,iw h]
theorem JM:∀(l:qx) (O:List qC) (j:Nat) (o:Oper),l[j]?=some o ->
 ∃M:List qC,M.length=O.length+j/\(∀i,i<M.length->(iI l O).getD i []=M.getD i [])/\(iI l O).getD (O.length+j) []=yn (preds o++(preds o).flatMap fun i=>M.getD i [])
 |[],_,_,_,h=>by simp at h
 |o::l,O,0,o',h=>by
  simp at h;subst h;refine⟨O,rfl,fun i z=>Fm _ _ i z,?_⟩;simp only[iI,tF];rw[Fm l _ O.length az];simp[List.getD]
 |o::l,O,j+1,o',h=>by
  obtain⟨M,Z,g,m⟩:=JM l (O++[yn (preds o++(preds o).flatMap fun i=>O.getD i [])]) j o' i9;simp only[fg,mC]at Z m;refine⟨M,ac,g,?_⟩;simp only[iI];rw[show O.length+(j+1)=O.length+(0+1)+j by omega];exact m
def TE(I:l[j]?=some o)(V:∀p∈preds o,p<j):
 i∈(iI l []).getD j []↔i∈preds o\/∃p∈preds o,i∈(iI l []).getD p []:=by
 obtain⟨M,Y,g,m⟩:=JM l [] j o I;simp only[gM,bO]at Y m;rw[m,TD,kU,Fa];constructor
 .rintro(h|⟨p,U,Z⟩)
  .exact .inl h
  .exact .inr ⟨p,U,by rw[g p (by rw[Y];exact V p U)];exact Z⟩
 .rintro(h|⟨p,U,Z⟩)
  .exact .inl h
  .exact .inr ⟨p,U,by rw[<-g p (by rw[Y];exact V p U)];exact Z⟩
structure zf3 (l:qx):Prop where
 lt:∀j o,l[j]?=some o->∀p∈preds o,p<j
 guard:∀j o g b,l[j]?=some o->o.guard=some (g,b)->g∈(iI l []).getD j []
 clash:∀i j p q,i<j->l[i]?=some p->l[j]?=some q->Ab.clash l p q=true->i∈(iI l []).getD j []
def TF(h:rv l=true):zf3 l:=by
 unfold rv at h;simp only[hM,mF]at h;have m:∀j o,l[j]?=some o->(∀p∈preds o,p<j)/\(∀g b,o.guard=some (g,b)->g∈(iI l []).getD j [])/\∀i p,i<j->l[i]?=some p->Ab.clash l p o=true->i∈(iI l []).getD j []:=fun j o I=>by
  have:=h j (eS.1 I).1;rw[I]at this;simp only[co,hM,jq,mF]at this;obtain⟨⟨V,Z⟩,U⟩:=this;refine⟨V,fun g b J=>?_,fun i p z hp hc=>?_⟩
  .rw[J]at Z;simpa using Z
  .have:=U i z;rw[hp]at this;simp only[hc,rB,lZ]at this;simpa using this
 exact⟨fun j o I=>(m j o I).1,fun j o g b I=>(m j o I).2.1 g b,fun i j p q O z Y=>(m j q Y).2.2 i p O z⟩
def Fo(V:zf3 l)(O:∀j,D j->∀o,l[j]?=some o->∀p∈preds o,D p):
 ∀(j:Nat) o,l[j]?=some o->(∀p∈preds o,D p)->∀i∈(iI l []).getD j [],D i:=by
 intro j;induction j using Nat.strongRecOn with
 |_ j ih=>
  intro o I hp i M;rcases(TE I (V.lt j o I)).1 M with h|⟨p,U,Y⟩
  .exact hp i h
  .have z:=V.lt j o I p U;have L:=(eS.1 I).1;have Z:l[p]?=some (l[p]' ac):=a0 ac;exact ih p z _ Z (fun q K=>O p (hp p U) _ Z q K) i Y
def o0:i∈jE l↔∃o,l[i]?=some o/\mX o=true:=by
 unfold jE;rw[xf,mF];constructor
 .rintro⟨Z,g⟩;rw[a0 Z]at g;exact⟨_,a0 Z,g⟩
 .rintro⟨o,Z,g⟩;exact⟨(eS.1 Z).1,by rw[Z];exact g⟩
def l0:i∈Region.ready .any ops g↔∃o,ops.toList[i]?=some o/\g.getD i true=false/\∀p∈preds o,g.getD p false=true:=by
 unfold Region.ready preds;rw[xf,mF,yF];constructor
 .rintro⟨Z,Y⟩;rw[rC Z]at Y;simp only[co,xg,jo,bS,Fc,oZ]at Y;refine⟨_,rC Z,Y.1,fun p hp=>?_⟩;simp only[nh,xf]at hp;obtain⟨e,⟨j,U⟩,rfl⟩:=hp;rcases Y.2 e (by simpa using j)with h|h
  .rw[U]at h;simp at h
  .exact h
 .rintro⟨o,Z,Y,m⟩;have z:i<ops.size:=by
   rcases yL i ops.size with h|h
   .exact h
   .rw[Fe h]at Z;simp at Z
  refine⟨z,?_⟩;rw[Z];simp only[co,xg,jo,bS,Fc,oZ];refine⟨Y,fun e V=>?_⟩;cases O:Region.binds .any e with
  |false=>exact .inl rfl
  |true=>exact .inr (m e.on (by simp only[nh,xf];exact⟨e,⟨tD,O⟩,rfl⟩))
theorem Fp{l:qx}:∀(k s:Nat),s+k=l.length->∃m,s<=m/\m<=l.length/\(m=l.length\/m∈jE l)/\∀j,s<=j->j<m->j∉jE l
 |0,s,hs=>⟨s,aO _,ac,.inl ac,fun j i g=>ac⟩
 |k+1,s,hs=>by
  by_cases h:s∈jE l
  .exact⟨s,aO _,ac,.inr h,fun j i g=>ac⟩
  .obtain⟨m,i,g,Z,U⟩:=Fp (l:=l) k (s+1) ac;refine⟨m,ac,g,Z,fun j Y I=>?_⟩;by_cases e:j=s
   .subst e;exact h
   .exact U j ac I
section
variable {P:Program} {B:Bs} {cfg:Cfg}
structure Ctx (P:Program) (cfg:Cfg) (ih:zd2->Res) (f N:Nat) (l:qx) (E0:aB) (bY:Hp) (E':aB) (H':Hp) (rs:List Rec):Prop where
 calm:zf3 l
 len:rs.length=l.length
 cO:∀(i:Nat) (r:Rec),rs[i]?=some r->∃o,l[i]?=some o/\AtD P cfg ih f N l o r (gN rs E' i) (gN rs E' (i+1)) (cD rs H' i) (cD rs H' (i+1))
 zeroE:gN rs E' 0=E0
 dn:cD rs H' 0=bY
 next:∀i,i<l.length->(cD rs H' i).next<=(cD rs H' (i+1)).next
 b2:∀(i:Nat) (r:Rec),rs[i]?=some r->r.did=true->∀m,(m∈jE l\/m=l.length)->(∀e∈jE l,e∈(iI l []).getD i []->e<m)->(∀e∈jE l,i∈(iI l []).getD e []->m<=e) ->
  zdS P cfg r (cD rs H' m)=true
def TG{bY:Hp}(hc:rv l=true)(hr:jD P cfg ih f N l l E0 bY=.done E' H' rs)(K:uV P cfg (oS l) rs H'=true):
 Ctx P cfg ih f N l E0 bY E' H' rs:=by
 have Y:=yJ hr;obtain⟨z1,z2⟩:=E6 Y;have M:=EZ Y;unfold uV at K;simp only[co,hM]at K;refine⟨TF hc,M,fun i r z=>vk Y z,z1,z2,fun i z=>?_,fun i r z hd m hm h1 h2=>?_⟩
 .have hi':i<rs.length:=by omega
  have Z:=a0 hi';obtain⟨o,_,J⟩:=vk Y Z;have h3:=yE (K.1 _ (lV Z));rw[J.eH,J.eH']at h3;exact h3
 .obtain⟨o,ho,J⟩:=vk Y z;have V:Bh (iI l []) (jE l) i m=true:=by
   unfold Bh;simp only[xg,kS,xh,co,not_and];refine⟨fun e C g hle=>?_,fun e C g hlt=>?_⟩
   .have:=h1 e C BG;have:=yE hle;omega
   .have:=h2 e C BG;have:e<m:=by simpa [j8]using hlt
    omega
  have U:∀k,gX o.op=k->(k=.read\/k=.make)->(i,m)∈oS l:=fun k j hor=>by
   unfold oS;rw[Fa];refine⟨i,mF.2 (eS.1 ho).1,?_⟩;rw[ho];have O:(i,m)∈((jE l++[l.length]).filter (Bh (iI l []) (jE l) i)).map fun m=>(i,m):=
    nh.2 ⟨m,xf.2 ⟨by simpa using hm,V⟩,rfl⟩
   rcases hor with rfl|rfl<;>simp only[j]<;>exact O
  have I:(i,m)∈oS l->zdS P cfg r (cD rs H' m)=true:=fun h=>by
   have:=K.2 _ h;simp only[z,hd,rB,lZ]at this;exact this
  have L:r.o=o:=J.eo;cases j:gX o.op with
  |read=>exact I (U _ j (.inl rfl))
  |make=>exact I (U _ j (.inr rfl))
  |calm=>unfold zdS;rw[L,j]
  |cA=>unfold zdS;rw[L,j]
section
variable {ih:zd2 -> Res} {f N:Nat} {ops:qK} {E0 E':aB} {bY H':Hp} {rs:List Rec} (cx:Ctx P cfg ih f N ops.toList E0 bY E' H' rs)
include cx
def Ctx.ci(I:ops.toList[i]?=some o):∃r,rs[i]?=some r/\AtD P cfg ih f N ops.toList o r (gN rs E' i) (gN rs E' (i+1)) (cD rs H' i) (cD rs H' (i+1)):=by
 have z:i<rs.length:=by rw[cx.len];exact(eS.1 I).1
 obtain⟨U,Z,g⟩:=cx.cO i _ (a0 z);rw[I]at Z;simp only[aJ]at Z;subst Z;exact⟨_,a0 z,g⟩
theorem Ctx.ee:∀(d s:Nat),s+d<=ops.toList.length->(∀j,s<=j->j<s+d->j∉jE ops.toList) ->
 (cD rs H' s).next<=(cD rs H' (s+d)).next/\∀r,r<(cD rs H' s).next->(cD rs H' (s+d)).get r=(cD rs H' s).get r
 |0,s,_,_=>⟨aO _,fun _ _=>rfl⟩
 |d+1,s,hs,hn=>by
  obtain⟨O,Z⟩:=Ctx.ee d s ac (fun j m I=>hn j m ac);have z:s+d<ops.toList.length:=ac;obtain⟨r,hr,Y⟩:=cx.ci (a0 z);have V:mX (ops.toList[s+d])=false:=by
   cases g:mX (ops.toList[s+d])with
   |false=>rfl
   |true=>exact(hn (s+d) ac ac (o0.2 ⟨_,a0 z,g⟩)).elim
  have L:cD rs H' (s+d+1)=cD rs H' (s+d)\/∃i,cD rs H' (s+d+1)=(cD rs H' (s+d)).alloc i:=by
   cases hd:r.did with
   |true=>exact TC V (Y.dr hd)
   |false=>exact .inl (Y.no hd).2
  rw[show s+(d+1)=s+d+1 by omega];rcases L with e|⟨i,e⟩
  .rw[e];exact⟨O,Z⟩
  .rw[e];refine⟨ca,fun k U=>?_⟩;rw[aQ,af ac];exact Z k U
theorem Ctx.bi:∀(d s:Nat),s+d<=ops.toList.length->(cD rs H' s).next<=(cD rs H' (s+d)).next
 |0,_,_=>aO _
 |d+1,s,hs=>dq (Ctx.bi d s ac) (by rw[show s+(d+1)=s+d+1 by omega];exact cx.next _ ac)
theorem Ctx.cF(t:Nat):∀s,s<=ops.toList.length ->
 (∃(i:Nat) (r:Rec) (o:Oper),i<s/\rs[i]?=some r/\ops.toList[i]?=some o/\o.dst=some t/\(∀(j:Nat) (U:Oper),j<s->ops.toList[j]?=some U->U.dst=some t->j<=i)/\(gN rs E' s).at t=r.val) \/
 ((∀(j:Nat) (U:Oper),j<s->ops.toList[j]?=some U->U.dst≠some t)/\(gN rs E' s).at t=E0.at t)
 |0,_=>.inr ⟨fun j U L=>ac,by rw[cx.zeroE]⟩
 |s+1,hs=>by
  have M:ops.toList[s]?=some (ops.toList[s]' ac):=a0 ac;obtain⟨r,hr,C⟩:=cx.ci M;have V:=C.put;have Y:=Ctx.cF t s ac;by_cases hd:(ops.toList[s]' ac).dst=some t
  .refine .inl ⟨s,r,_,ac,hr,M,hd,fun j U L _ _=>ac,?_⟩;rw[hd]at V;simp only[fE]at V;split at V
   .simp only[aJ]at V;rw[<-V,wZ,ay rfl]
   .simp at V
  .have I:(gN rs E' (s+1)).at t=(gN rs E' s).at t:=by
    cases m:(ops.toList[s]' ac).dst with
    |none=>
     rw[m]at V;simp only[fE,aJ]at V;rw[<-V]
    |some d=>
     rw[m]at V hd;simp only[fE]at V;split at V
     .simp only[aJ]at V;rw[<-V,wZ,af (fun e=>hd mE)]
     .simp at V
   rw[I];rcases Y with⟨i,z,U,J,g,h3,h4,h5,h6⟩|⟨J,g⟩
   .refine .inl ⟨i,z,U,ac,g,h3,h4,fun j K L Z O=>?_,h6⟩;by_cases e:j=s
    .subst e;rw[M]at Z;simp only[aJ]at Z;subst Z;exact(hd O).elim
    .exact h5 j K ac Z O
   .refine .inr ⟨fun j U L Z=>?_,g⟩;by_cases e:j=s
    .subst e;rw[M]at Z;simp only[aJ]at Z;subst Z;exact hd
    .exact J j U ac Z
end
def gF(g:qH)(j:Nat):Prop:=g.getD j false=true
def xj(rs:List Rec)(l:qx)(Z:aB)(D:Nat->Prop)(G:Gh)(a:Act):Prop:=∀t,
 (∃(i:Nat) (r:Rec) (o:Oper),D i/\rs[i]?=some r/\l[i]?=some o/\o.dst=some t/\(∀(j:Nat) (U:Oper),D j->l[j]?=some U->U.dst=some t->j<=i)/\VR G r.val (a.tmps.getD t undef)) \/
 ((∀(j:Nat) (U:Oper),D j->l[j]?=some U->U.dst≠some t)/\VR G (Z.at t) (a.tmps.getD t undef))
def xj.cU{bY:Hp}(cx:Ctx P cfg ih f N ops.toList z bY E' H' rs)(hs:xj rs ops.toList z D G a){t s:Nat}
 (M:s<=ops.toList.length) (Z:∀(j:Nat) (o:Oper),ops.toList[j]?=some o->o.dst=some t->(D j↔j<s)):VR G ((gN rs E' s).at t) (a.tmps.getD t undef):=by
 rcases cx.cF t s M with⟨i,r,o,J,I,m,C,h5,h6⟩|⟨J,I⟩
 .rw[h6];have g:=(Z i o m C).2 J;rcases hs t with⟨L,r',U,K,Y,V,O,g5,g6⟩|⟨K,_⟩
  .have e1:=h5 L U ((Z L U V O).1 K) V O;have e2:=g5 i o g m C;have:L=i:=ac;subst this;rw[I]at Y;simp only[aJ]at Y;subst Y;exact g6
  .exact(K i o g m C).elim
 .rw[I];rcases hs t with⟨L,r',U,K,Y,V,O,g5,g6⟩|⟨_,Y⟩
  .exact(J L U ((Z L U V O).1 K) V O).elim
  .exact Y
structure InvD (rs:List Rec) (l:qx) (N:Nat) (B:Bs) (nx0:Nat) (E0:aB) (H':Hp) (G0:Gh) (w0:World) (listed:qH) (a:Act) (w:World) (m:Nat) (G:Gh):Prop where
 size:listed.size=l.length
 bS:∀j,gF listed j->∀o,l[j]?=some o->∀p∈preds o,gF listed p
 le:m<=l.length
 cA:m=l.length\/m∈jE l
 bL:¬gF listed m
 dg:∀e∈jE l,e<m->gF listed e
 step:Step B nx0 G0 w0 (cD rs H' m) w G
 bP:∀r p,G.β r=some p->r<nx0\/∃j,gF listed j/\j<l.length/\(cD rs H' j).next<=r/\r<(cD rs H' (j+1)).next
 bp:xj rs l E0 (gF listed) G a
 frame:a.tmps.size=N
 defers:a.defers=[]
def gF.set(z:i<g.size)(j:Nat):gF (g.setIfInBounds i true) j↔j=i\/gF g j:=by
 unfold gF;rw[jG,jG,u7];by_cases e:i=j
 .subst e;simp[z]
 .rw[af e];constructor
  .exact fun h=>.inr h
  .rintro(h|h)
   .exact(e h.symm).elim
   .exact h
def mG:=@gF.set
theorem xj.put{rs:List Rec}{l:qx}{E0:aB}{g:qH}{G M:Gh}{a:Act}(hs:xj rs l E0 (gF g) G a)(he:Ext G M){i:Nat}(z:i<g.size){o:Oper}(L:l[i]?=some o){r:Rec}(hr:rs[i]?=some r)
 {v:Value} (hv:VR M r.val v) (hd:∀d,o.dst=some d->d<a.tmps.size/\∀(j:Nat) (U:Oper),gF g j->l[j]?=some U->U.dst=some d->j<=i):xj rs l E0 (gF (g.setIfInBounds i true)) M (a.put o.dst v):=by
 intro t;by_cases Z:o.dst=some t
 .obtain⟨h1,h2⟩:=hd t Z;refine .inl ⟨i,r,o,(mG z i).2 (.inl rfl),hr,L,Z,fun j U m V Y=>?_,?_⟩
  .rcases(mG z j).1 m with e|m
   .omega
   .exact h2 j U m V Y
  .rw[Z];simp only[Act.put];simpa [Array.getD,h1]using hv
 .have I:(a.put o.dst v).tmps.getD t undef=a.tmps.getD t undef:=by
   cases O:o.dst with
   |none=>rfl
   |some d=>
    rw[O]at Z;have hne:d≠t:=fun e=>Z mE;simp only[Act.put,jG,u7];rw[af hne]
  rw[I];rcases hs t with⟨i',r',U,J,C,g3,g4,g5,g6⟩|⟨J,C⟩
  .refine .inl ⟨i',r',U,(mG z i').2 (.inr J),C,g3,g4,fun j K m V Y=>?_,g6.mono he⟩;rcases(mG z j).1 m with e|m
   .subst e;rw[L]at V;simp only[aJ]at V;subst V;exact(Z Y).elim
   .exact g5 j K m V Y
  .refine .inr ⟨fun j U m V Y=>?_,C.mono he⟩;rcases(mG z j).1 m with e|m
   .subst e;rw[L]at V;simp only[aJ]at V;subst V;exact(Z Y).elim
   .exact J j U m V Y
def Fq{t:Nat}:t∈tx Z o↔o.dst=some t\/(Operand.tmp t)∈o.op.operands.toList\/∃g b U,o.guard=some (g,b)/\Z[g]?=some U/\U.dst=some t:=by
 unfold tx I7;simp only[kU,Option.mem_toList,List.mem_filterMap];constructor
 .rintro((h|⟨x,I,h⟩)|h)
  .exact .inl h
  .cases x<;>simp at h;subst h;exact .inr (.inl I)
  .cases J:o.guard with
   |none=>rw[J]at h;simp at h
   |some p=>
    obtain⟨g,b⟩:=p;rw[J]at h;simp only[Option.mem_toList,iS]at h;obtain⟨U,i,Y⟩:=h;exact .inr (.inr ⟨g,b,U,rfl,i,Y⟩)
 .rintro(h|h|⟨g,b,U,i,Y,m⟩)
  .exact .inl (.inl h)
  .exact .inl (.inr ⟨_,h,rfl⟩)
  .refine .inr ?_;rw[i];simp[Y,m]
def JN{p q:Oper}{d:Nat}(h:(p.dst=some d/\d∈tx Z q)\/(q.dst=some d/\d∈tx Z p)):Ab.clash Z p q=true:=by
 unfold Ab.clash;rcases h with⟨i,g⟩|⟨i,g⟩
 .rw[i];simp[g]
 .rw[i];simp[g]
def Step.cC{K:Hp}{Z L:Gh}{M:World}(h:Step B V G w H' w' Z)(k:Step B V Z w' K M L):Step B V G w K M L:=
 ⟨k.r,h.ext.trans k.ext,h.fr.trans k.fr h.new,h.new.trans k.new h.fr.size,fun r p hr=>by
  rcases k.bP r p hr with i|i
  .exact h.bP r p i
  .exact .inr i,k.mono,fun b o v Y=>by
  rcases k.b4 b o v Y with i|i
  .exact h.b4 b o v i
  .exact .inr i⟩
def Step.ch{Z:Gh}(h:Step B V G w H' w' Z)(C:i<=V):Step B i G w H' w' Z:=
 ⟨h.r,h.ext,h.fr,h.new,fun r p hr=>(h.bP r p hr).imp id (fun e=>dq C e),dq C h.mono,h.b4⟩
def Snd.aF(P:Program)(B:Bs):Snd P B 0 (fun _=>.aF):=
 ⟨fun _ _ _ _ _ h=>lY,fun _ _ _ _ _ _ _ _ h=>lY,fun _ _ _ _ _ _ _ _ h=>lY⟩
def TH(fit:Fit P)(hih:Snd P B n ih){nx0:Nat}{bY:Hp}(cx:Ctx P B.bG ih f N ops.toList E0 bY E' H' rs)(hnx:bY.next=nx0)
 {Y:qH} (C:InvD rs ops.toList N B nx0 E0 H' G0 w0 Y a w m G)  (hi:i∈Region.ready .any ops Y) {K:Act->World->Prop}
 (hK:∀a' w' m' G',InvD rs ops.toList N B nx0 E0 H' G0 w0 (Y.setIfInBounds i true) a' w' m' G'->K a' w'):wpOp P ops Q i K a w:=by
 obtain⟨o,ho,hun,hpr⟩:=l0.1 hi;obtain⟨r,hr,ha⟩:=cx.ci ho;have hil:i<ops.toList.length:=(eS.1 ho).1;have L:i<Y.size:=by rw[C.size];exact hil
 have hnot:¬gF Y i:=fun hd=>by
  unfold gF at hd;rw[jG,rC L]at hd;rw[jG,rC L]at hun;simp only[bS]at hd hun;rw[hd]at hun;simp at hun
 -- what comes before i is done;what comes behind it is not
 have J:∀j∈(iI ops.toList []).getD i [],gF Y j:=Fo cx.calm C.bS i o ho hpr;have hbehind:∀j,gF Y j->∀oj,ops.toList[j]?=some oj->i∉(iI ops.toList []).getD j []:=fun j hj oj hoj hm=>
  hnot (Fo cx.calm C.bS j oj hoj (C.bS j hj oj hoj) i hm)
 -- the writers of the slots that i names
 have hagree:∀t∈tx ops.toList o,∀(j:Nat) (oj:Oper),ops.toList[j]?=some oj->oj.dst=some t->(gF Y j↔j<i):=fun t ht j oj hoj hjd=>by
  constructor
  .intro hj;rcases BH j i with h|h|h
   .exact h
   .subst h;exact(hnot hj).elim
   .exact(hbehind j hj oj hoj (cx.calm.clash i j o oj h ho hoj (JN (.inr ⟨hjd,ht⟩)))).elim
  .intro hj;exact J j (cx.calm.clash j i oj o hj hoj ho (JN (.inl ⟨hjd,ht⟩)))
 have hslot:∀t∈tx ops.toList o,VR G ((gN rs E' i).at t) (a.tmps.getD t undef):=fun t ht=>C.bp.cU cx (Nat.le_of_lt hil) (hagree t ht);have z:vh G (gN rs E' i) a o.op.operands:=fun x hx c hc=>by
  cases x with
  |tmp t=>simp only[aV,aJ]at hc;subst hc;exact hslot t (Fq.2 (.inr (.inl (by simpa using hx))))
  |const v=>exact w1 hc
  |global g=>simp[aV]at hc
  |func f=>simp only[aV,aJ]at hc;subst hc;exact .bb (vs:=[]) rfl az
 have hwant:=JG (G:=G) (E:=gN rs E' i) (a:=a) (ops:=ops) (o:=o) (fun g b d hg hd=>by
  simp only[iS]at hd;obtain⟨o',h1,h2⟩:=hd;exact hslot d (Fq.2 (.inr (.inr ⟨g,b,o',hg,by rw[yF];exact h1,h2⟩))))
 have hdst:∀d,o.dst=some d->d<a.tmps.size/\∀(j:Nat) (o':Oper),gF Y j->ops.toList[j]?=some o'->o'.dst=some d->j<=i:=fun d hd=>by
  refine⟨?_,fun j o' hj hjo hjd=>Nat.le_of_lt ((hagree d (Fq.2 (.inl hd)) j o' hjo hjd).1 hj)⟩;have hp:=ha.put;rw[hd]at hp;simp only[fE]at hp;split at hp
  .rename_i hb;rw[C.frame];simpa [j8]using hb
  .simp at hp
 have hclosed':∀j,gF (Y.setIfInBounds i true) j->∀oj,ops.toList[j]?=some oj->∀p∈preds oj,gF (Y.setIfInBounds i true) p:=fun j hj oj hoj p hp=>by
  rcases(mG L j).1 hj with rfl|hj
  .rw[ho]at hoj;simp only[aJ]at hoj;subst hoj;exact(mG L p).2 (.inr (hpr p hp))
  .exact(mG L p).2 (.inr (C.bS j hj oj hoj p hp))
 -- an act comes up in its turn
 have hturn:mX o=true->i=m:=fun hact=>by
  have M:i∈jE ops.toList:=o0.2 ⟨o,ho,hact⟩;rcases BH i m with h|h|h
  .exact(hnot (C.dg i M h)).elim
  .exact h
  .rcases C.cA with e|e
   .omega
   .obtain⟨om,I,U⟩:=o0.1 e;exact(C.bL (J m (cx.calm.clash m i om o h I ho (by unfold Ab.clash;simp[hact,U])))).elim
 -- how the invariant goes on
 have hfin:∀(v:Value) (w':World) (G':Gh) (X:Hp),VR G' r.val v->Step B nx0 G w X w' G' ->
  (∀k p,G'.β k=some p->G.β k=some p\/((cD rs H' i).next<=k/\k<(cD rs H' (i+1)).next)) ->
  ((i≠m/\X=cD rs H' m)\/(i=m/\X=cD rs H' (i+1)))->K (a.put o.dst v) w':=fun v w' G' X hv O hlow hX=>by
  have hslots':=C.bp.put O.ext L ho hr hv hdst;have hlow':∀k p,G'.β k=some p->k<nx0\/∃j,gF (Y.setIfInBounds i true) j/\j<ops.toList.length/\(cD rs H' j).next<=k/\k<(cD rs H' (j+1)).next:=fun k p hk=>by
   rcases hlow k p hk with h|h
   .rcases C.bP k p h with h|⟨j,h1,h2⟩
    .exact .inl h
    .exact .inr ⟨j,(mG L j).2 (.inr h1),h2⟩
   .exact .inr ⟨i,(mG L i).2 (.inl rfl),hil,h⟩
  have hframe':(a.put o.dst v).tmps.size=N:=by rw[<-C.frame];cases o.dst<;>simp[Act.put]
  have hdef':(a.put o.dst v).defers=[]:=by have:=C.defers;cases o.dst<;>exact this
  rcases hX with⟨hne,rfl⟩|⟨rfl,rfl⟩
  .refine hK _ _ m G' ⟨by simpa using C.size,hclosed',C.le,C.cA,fun hd=>?_,fun e he hlt=>(mG L e).2 (.inr (C.dg e he hlt)),C.step.cC O,hlow',hslots',hframe',hdef'⟩;rcases(mG L m).1 hd with h|h
   .exact hne h.symm
   .exact C.bL h
  ·-- the next act
   obtain⟨m',q1,q2,q3,q4⟩:=Fp (l:=ops.toList) (ops.toList.length-(i+1)) (i+1) ac;obtain⟨g1,g2⟩:=cx.ee (m'-(i+1)) (i+1) ac (fun j h1 h2=>q4 j h1 ac);rw[show i+1+(m'-(i+1))=m' by omega]at g1 g2;have hst2:Step B nx0 G0 w0 (cD rs H' m') w' G':=by
    have:=C.step.cC O;exact⟨this.r.more g1 g2,this.ext,this.fr,this.new,this.bP,dq this.mono g1,this.b4⟩
   have hact:∀e∈jE ops.toList,e<m'->gF (Y.setIfInBounds i true) e:=fun e he hlt=>by
    by_cases h:e<i
    .exact(mG L e).2 (.inr (C.dg e he h))
    .by_cases h2:e=i
     .exact(mG L e).2 (.inl h2)
     .exact(q4 e ac hlt he).elim
   refine hK _ _ m' G' ⟨by simpa using C.size,hclosed',q2,q3,fun hd=>?_,hact,hst2,hlow',hslots',hframe',hdef'⟩;rcases(mG L m').1 hd with h|h
   .omega
   ·-- m' is done though i,an act before it,was not
    have hm'l:m'<ops.toList.length:=by
     rcases yL m' ops.toList.length with h3|h3
     .exact h3
     .unfold gF at h;rw[jG,Fe (by rw[C.size];exact h3)]at h;simp at h
    rcases q3 with e|e
    .omega
    .obtain⟨om,I,U⟩:=o0.1 e;rcases C.cA with e2|e2
     .omega
     .obtain⟨oi,hoi,hacti⟩:=o0.1 e2;rw[ho]at hoi;simp only[aJ]at hoi;subst hoi;exact hbehind m' h om I (cx.calm.clash i m' o om ac ho I (by unfold Ab.clash;simp[hacti,U]))
 -- the range of m for the looks
 have hlo:∀e∈jE ops.toList,e∈(iI ops.toList []).getD i []->e<m:=fun e he hA=>by
  have hd:=J e hA;rcases yL e m with h|h
  .exact h
  .exfalso;rcases C.cA with e2|e2
   .have:=(o0.1 he);obtain⟨oe,hoe,_⟩:=this;have:=(eS.1 hoe).1;omega
   .by_cases e3:e=m
    .subst e3;exact C.bL hd
    .obtain⟨om,I,U⟩:=o0.1 e2;obtain⟨oe,hoe,hacte⟩:=o0.1 he;exact C.bL (Fo cx.calm C.bS e oe hoe (C.bS e hd oe hoe) m (cx.calm.clash m e om oe ac I hoe (by unfold Ab.clash;simp[U,hacte])))
 have hhi:∀e∈jE ops.toList,i∈(iI ops.toList []).getD e []->m<=e:=fun e he hA=>by
  rcases yL e m with h|h
  .obtain⟨oe,hoe,_⟩:=o0.1 he;exact(hbehind e (C.dg e he h) oe hoe hA).elim
  .exact h
 unfold wpOp;rw[show ops[i]?=some o by rw[<-yF];exact ho];simp only[];have hnxm:nx0<=(cD rs H' m).next:=C.step.mono
 have hsame:Step B nx0 G w (cD rs H' m) w G:=(j9 C.step.r).ch hnxm;have hstill:∀(v:Value) (w':World) (G':Gh),i≠m->VR G' r.val v->Step B (cD rs H' m).next G w (cD rs H' m) w' G'->K (a.put o.dst v) w':=fun v w' G' M hv O=>
  hfin v w' G' _ hv (O.ch hnxm) (fun k p hk=>by
   rcases O.bP k p hk with h|h
   .exact .inl h
   .have:=O.r.b3 k p hk;omega) (.inl ⟨M,rfl⟩)
 have hnotact:mX o=false->i≠m:=fun hna e=>by
  rcases C.cA with e2|e2
  .omega
  .obtain⟨om,I,U⟩:=o0.1 e2;rw[<-e,ho]at I;simp only[aJ]at I;subst I;rw[hna]at U;simp at U
 cases hd:r.did with
 |false=>
  have hw:Region.wanted o (yielded ops a.tmps)=false:=by rw[<-hwant,ha.d6];exact hd
  rw[hw];simp only[dC,bH];obtain⟨hval,hheap⟩:=ha.no hd;by_cases M:i=m
  .subst M;exact hfin undef w G (cD rs H' (i+1)) (by rw[hval];exact yz G) (by rw[hheap];exact hsame) (fun k p hk=>.inl hk) (.inr ⟨rfl,rfl⟩)
  .exact hfin undef w G _ (by rw[hval];exact yz G) hsame (fun k p hk=>.inl hk) (.inl ⟨M,rfl⟩)
 |true=>
  have hw:Region.wanted o (yielded ops a.tmps)=true:=by rw[<-hwant,ha.d6];exact hd
  rw[hw];simp only[bC];have hop:=ha.dr hd;refine .inl ?_;cases Z:gX o.op with
  |cA=>
   have M:=hturn (by simp[mX,Z]);subst M;refine BF fit hih C.step.r z hop fun v w' G' hv O=>?_;refine hfin v w' G' _ hv (O.ch hnxm) (fun k p hk=>?_) (.inr ⟨rfl,rfl⟩);rcases O.bP k p hk with h|h
   .exact .inl h
   .exact .inr ⟨h,O.r.b3 k p hk⟩
  |calm=>
   have hnc:∀c,o.op≠.call c:=fun c e=>by
    rw[e]at Z;simp only[gX]at Z;split at Z<;>simp at Z
   have M:=hnotact (by simp[mX,Z]);have hX:=(E7 (P:=P) (by simp[su,Z]) ((vm hnc).1 hop)).2 (cD rs H' m);have hop':en P B.bG ih f (gN rs E' i) (cD rs H' m) o.op=.val r.val (cD rs H' m):=(vm hnc).2 hX;exact BF fit hih C.step.r z hop' fun v w' G' hv O=>hstill v w' G' M hv O
  |read=>
   have M:=hnotact (by simp[mX,Z]);have V:=cx.b2 i r hr hd m C.cA.symm hlo hhi;unfold zdS at V;rw[ha.eo,Z,ha.eE]at V;simp only[]at V;split at V
   .rename_i v1 H1 hop';have hv1:=AV.aT V;subst hv1;have hH1:=E8 (by simp[rA,Z]) hop';subst hH1;exact BF fit (Snd.aF P B) C.step.r z hop' fun v w' G' hv O=>hstill v w' G' M hv O
   .simp at V
  |make=>
   have M:=hnotact (by simp[mX,Z]);have hnc:∀c,o.op≠.call c:=fun c e=>by
    rw[e]at Z;simp only[gX]at Z;split at Z<;>simp at Z
   have hopA:=(vm hnc).1 hop;obtain⟨blk,obj,ext,v,hH1,hrun,hmade,hv⟩:=Tv (P:=P) (w:=w) (by simp[tz,Z]) z hopA;have V:=cx.b2 i r hr hd m C.cA.symm hlo hhi;unfold zdS at V;rw[ha.eo,Z,ha.eH,ha.eH']at V;simp only[]at V;have hnext1:(cD rs H' (i+1)).next=(cD rs H' i).next+1:=by rw[hH1];rfl
   have hgetm:(cD rs H' m).get (cD rs H' i).next=some blk:=by
    split at V
    .rename_i b b' h1 h2;rw[HB.aT V]at h1;rw[hH1,aQ,ay rfl]at h2;simp only[aJ]at h2;subst h2;exact h1
    .simp at V
   have hlt:i<m:=by
    rcases BH i m with h|h|h
    .exact h
    .exact(M h).elim
    .exfalso;rcases C.cA with e2|e2
     .omega
     .obtain⟨om,I,U⟩:=o0.1 e2;exact C.bL (J m (cx.calm.clash m i om o h I ho (by unfold Ab.clash;simp[U,tz,Z])))
   have hr0:(cD rs H' i).next<(cD rs H' m).next:=by
    have:=cx.bi (m-(i+1)) (i+1) (by have:=C.le;omega);rw[show i+1+(m-(i+1))=m by omega]at this;omega
   have hnx0:nx0<=(cD rs H' i).next:=by
    have:=cx.bi i 0 ac;rw[bO,cx.dn,hnx]at this;exact this
   have hno:∀q,G.β (cD rs H' i).next=some q->False:=fun q hq=>by
    rcases C.bP _ q hq with h|⟨j,h1,h2,h3,h4⟩
    .omega
    .rcases BH j i with h|h|h
     .have:=cx.bi (i-(j+1)) (j+1) ac;rw[show j+1+(i-(j+1))=i by omega]at this;omega
     .subst h;exact hnot h1
     .have:=cx.bi (j-(i+1)) (i+1) ac;rw[show i+1+(j-(i+1))=j by omega]at this;omega
   have O:=Jc C.step.r hno hr0 hgetm hnx0 hmade;unfold Oper.wp;rw[hrun];refine hfin v _ _ _ (hv _ (sr _ _ _)) O (fun k p hk=>?_) (.inl ⟨M,rfl⟩);simp only[Gh.add]at hk;split at hk
   .rename_i e;exact .inr ⟨ac,ac⟩
   .exact .inl hk
def countP_set(z:i<g.size)(V:g[i]=false):(g.setIfInBounds i true).toList.countP (·=false)+1=g.toList.countP (·=false):=by
 rw[I9,List.countP_set By];have Z:g.toList[i]' By=false:=tD;have Y:0<g.toList.countP (·=false):=List.countP_pos_iff.2 ⟨false,by rw[<-Z];exact cL _,az⟩;rw[Z];simp only[oV,bC,sk,j7,dC,bH];omega
def TI(fit:Fit P)(hih:Snd P B n ih){O:Nat}{bY:Hp}(cx:Ctx P B.bG ih f N ops.toList E0 bY z H' rs)(hnx:bY.next=O)
 (hE':gN rs z ops.toList.length=z) (hH':cD rs H' ops.toList.length=H')  (hQ:∀e a w,lE B N O G0 w0 .normal z H' e a w->Q e a w) :
 ∀(Z:Nat) (g:qH) (a:Act) (w:World) (m:Nat) (G:Gh),InvD rs ops.toList N B O E0 H' G0 w0 g a w m G->g.toList.countP (·=false)<=Z->wpAny P .any ops Q Z g a w:=by
 -- at the end all is done
 have L:∀(g:qH) (a:Act) (w:World) (m:Nat) (G:Gh),InvD rs ops.toList N B O E0 H' G0 w0 g a w m G->Region.ready .any ops g=[]->Q .normal a w:=fun g a w m G C Y=>by
  have M:∀j,j<ops.toList.length->gF g j:=fun j=>by
   induction j using Nat.strongRecOn with
   |_ j ihj=>
    intro hj;have I:=a0 hj;have K:j<g.size:=by rw[C.size];exact hj
    cases hl:g[j]with
    |true=>
     unfold gF;rw[jG,rC K,hl];rfl
    |false=>
     exfalso;have:j∈Region.ready .any ops g:=l0.2 ⟨_,I,by rw[jG,rC K,hl];rfl,fun p hp=>by
      have hlt:=cx.calm.lt j _ I p hp;exact ihj p hlt ac⟩
     rw[Y]at this;simp at this
  have hm:m=ops.toList.length:=by
   rcases C.cA with e|e
   .exact e
   .obtain⟨om,hom,_⟩:=o0.1 e;exact(C.bL (M m (eS.1 hom).1)).elim
  subst hm;have J:=C.step;rw[hH']at J;refine hQ _ _ _ ⟨rfl,G,⟨C.frame,fun t=>?_⟩,J,C.defers⟩;have:=C.bp.cU cx (t:=t) (aO _) (fun j oj hoj _=>⟨fun _=>(eS.1 hoj).1,fun h=>M j h⟩);rw[hE']at this;exact this
 intro Z;induction Z with
 |zero=>
  intro g a w m G C hc;have Y:Region.ready .any ops g=[]:=by
   apply yM.2;intro i hi;obtain⟨o,I,V,_⟩:=l0.1 hi;have U:i<g.size:=JJ;rw[jG,rC U]at V;have:=countP_set U tD;omega
  exact⟨Y,L g a w m G C Y⟩
 |succ Z ihf=>
  intro g a w m G C hc;refine⟨fun Y=>L g a w m G C Y,fun i hi=>?_⟩;obtain⟨o,I,V,_⟩:=l0.1 hi;have U:i<g.size:=JJ;rw[jG,rC U]at V;have hcs:=countP_set U tD;exact TH fit hih cx hnx C hi (fun a' w' m' G' hI'=>ihf _ a' w' m' G' hI' ac)
def JO(fit:Fit P)(I:Snd P B n ih){C:aB}(hr:mY P B.bG ih f N ops.toList E H=.done x C H')
 (h:R B H w G) (i:TR N G E a) (hd:a.defers=[])  (hQ:∀e g w',lE B N H.next G w x C H' e g w'->Q e g w'):wpAny P .any ops Q ops.size (Array.replicate ops.size false) a {w with drawn:=w.drawn+1}:=by
 unfold mY at hr;split at hr
 .rename_i O;split at hr
  .rename_i E1 H1 rs z;split at hr
   .rename_i K;simp only[Res.done.injEq]at hr;obtain⟨rfl,rfl,rfl⟩:=hr;have cx:=TG O z K;have hlen:=cx.len;have M:gN rs E1 ops.toList.length=E1:=by unfold gN;rw[kV ac]
    have L:cD rs H1 ops.toList.length=H1:=by unfold cD;rw[kV ac]
    obtain⟨m,q1,q2,q3,q4⟩:=Fp (l:=ops.toList) ops.toList.length 0 ac;obtain⟨U,g2⟩:=cx.ee m 0 ac (fun j _ Z=>q4 j ac ac);rw[bO,cx.dn]at U g2;have J:R B H {w with drawn:=w.drawn+1} G:=h.heap rfl;have Y:Step B H.next G w (cD rs H1 m) {w with drawn:=w.drawn+1} G:=
     ⟨J.more U g2,wY _,⟨rfl,rfl,rfl,aO _,fun _ _ _=>rfl⟩,u9 _ _,fun _ _ h=>.inl h,U,fun _ _ _ h=>.inl h⟩
    have o:∀j,¬gF (Array.replicate ops.size false) j:=fun j Z=>by
     unfold gF at Z;rw[jG,JL]at Z;split at Z<;>simp at Z
    refine TI fit I cx rfl M L hQ ops.size _ a _ m G
     ⟨az,fun j Z=>(o j Z).elim,q2,q3,o m,fun e he V=>(q4 e (dN _) V he).elim,Y,fun r p hr=>.inl (h.b3 r p hr),fun t=>.inr ⟨fun j o' Z=>(o j Z).elim,i.bp t⟩,i.size,hd⟩ ?_
    exact dq List.countP_le_length az
   .simp at hr
  .simp at hr
 .simp at hr
end
def l7(ops:qK):qC->qH->Prop
 |[],listed=>Region.ready .any ops listed=[]
 |i::L,listed=>i∈Region.ready .any ops listed/\l7 ops L (listed.setIfInBounds i true)
theorem JP{ops:qK}:∀(Z t:Nat) (g:qH),g.size=ops.size->g.toList.countP (·=false)<=Z->l7 ops (Region.linearise.go .any ops Z t g []) g
 |0,t,g,hs,hc=>by
  show Region.ready .any ops g=[];apply yM.2;intro i z;obtain⟨o,I,Y,_⟩:=l0.1 z;have j:i<g.size:=JK;rw[jG,rC j]at Y;have:=countP_set j (by simpa using Y);omega
 |Z+1,t,g,hs,hc=>by
  simp only[Region.linearise.go];change l7 ops (match (Region.ready .any ops g)[t%(Region.ready .any ops g).length]? with
   |some i=>Region.linearise.go .any ops Z (t/(Region.ready .any ops g).length) (g.setIfInBounds i true) [i]
   |none=>[].reverse) g
  cases z:(Region.ready .any ops g)[t%(Region.ready .any ops g).length]? with
  |none=>
   show Region.ready .any ops g=[];cases hr:Region.ready .any ops g with
   |nil=>rfl
   |cons x U=>
    rw[hr]at z;have V:t%(x::U).length<(x::U).length:=Nat.mod_lt _ az;simp at z;simp at V;omega
  |some i=>
   simp only[];rw[linearise_go_acc,List.reverse_singleton,Fh];have O:=lV z;refine⟨O,JP Z _ _ (by simpa using hs) ?_⟩;obtain⟨o,I,Y,_⟩:=l0.1 O;have j:i<g.size:=JK;rw[jG,rC j]at Y;have:=countP_set j (by simpa using Y);omega
section
variable {P:Program} {Q:Exit -> Act -> World -> Prop}
theorem Fs{ops:qK}:∀(L:qC) (Z:Nat) (g:qH) (a:Act) (w:World),wpAny P .any ops Q Z g a w->l7 ops L g->wpOps P ops Q L a w
 |[],0,g,a,w,h,_=>h.2
 |[],Z+1,g,a,w,h,hv=>h.1 hv
 |i::L,0,g,a,w,h,hv=>by
  have Y:=hv.1;rw[h.1]at Y;simp at Y
 |i::L,Z+1,g,a,w,h,hv=>by
  rw[wpOps_cons];exact wpOp_mono (fun a w j=>Fs L Z _ a w j hv.2) (h.2 i hv.1)
def TJ{id:Nat}(O:P.follows .mixedOrders=true)
 (h:∀L,l7 ops L (Array.replicate ops.size false)->wpOps P ops Q L a {w with drawn:=w.drawn+1}):(Code.region id ops true).wp P Q a w:=
 wp_region_draw fun t=>by
  simp only[Region.schedule,O,xi,bC];exact h _ (JP ops.size t _ az (dq List.countP_le_length az))
theorem Ft{ops ops':qK}{φ:Nat->Nat}:∀(L:qC) (a:Act) (w:World),
 (∀i∈L,∃o U,ops[i]?=some o/\ops'[φ i]?=some U/\(∃Z z,U={o with after:=Z,guard:=z})/\∀a:Act,Region.wanted U (yielded ops' a.tmps)=Region.wanted o (yielded ops a.tmps)) ->
 wpOps P ops' Q (L.map φ) a w->wpOps P ops Q L a w
 |[],_,_,_,h=>h
 |i::L,a,w,hr,h=>by
  rw[dS,wpOps_cons]at h;rw[wpOps_cons];obtain⟨o,U,Y,g,⟨Z,z,V⟩,O⟩:=hr i ei;have C:∀a w,wpOps P ops' Q (L.map φ) a w->wpOps P ops Q L a w:=fun a w=>Ft L a w (fun j m=>hr j (ej _ m));have M:=wpOp_mono C h;unfold wpOp at M⊢;rw[g]at M;rw[Y];simp only[]at M⊢;rw[O a]at M;subst V;exact M
end
def BK(q p:Nat)(l:qx):(jF q p l).length=l.length:=by
 unfold jF;split<;>simp
theorem yP(h:l[i]?=some o):
 ∃U,(jF q p l)[i]?=some U/\(∃Y,U={o with after:=Y})/\(i≠q->U=o)/\∀j,j∈preds U↔j∈preds o\/(i=q/\j=p):=by
 unfold jF;have z:=(eS.1 h).1;by_cases e:i=q
 .subst e;rw[h];refine⟨_,List.getElem?_set_self z,⟨_,rfl⟩,fun C=>(C rfl).elim,fun j=>?_⟩;unfold preds;have:(o.after.push {on:=p,ground:=.data}).toList=o.after.toList++[{on:=p,ground:=.data}]:=az;rw[this,List.filter_append,sw,kU];have g:(List.filter (Region.binds .any) [({on:=p,ground:=.data}:Edge)])=[{on:=p,ground:=.data}]:=rfl;rw[g];simp
 .have I:∀Z,(l.set q Z)[i]?=some o:=fun Z=>by rw[List.getElem?_set_ne (fun h=>e h.symm)];exact h
  split
  .exact⟨o,I _,⟨o.after,rfl⟩,fun _=>rfl,fun j=>⟨.inl,fun h=>h.elim id (fun h=>(e h.1).elim)⟩⟩
  .exact⟨o,h,⟨o.after,rfl⟩,fun _=>rfl,fun j=>⟨.inl,fun h=>h.elim id (fun h=>(e h.1).elim)⟩⟩
def JQ{U:Oper}(h:(jF q p l)[i]?=some U):∃o,l[i]?=some o:=by
 have:=(eS.1 h).1;rw[BK]at this;exact⟨_,a0 this⟩
theorem TK(j:Nat):((jF q p l)[j]?).bind (·.dst)=(l[j]?).bind (·.dst):=by
 cases h:l[j]? with
 |none=>
  rw[kV (by rw[BK];exact List.getElem?_eq_none_iff.1 h)]
 |some o=>
  obtain⟨U,i,⟨Z,rfl⟩,_⟩:=yP (q:=q) (p:=p) h;rw[i];rfl
def JR(h:i∈Region.ready .any (jF q p l).toArray g):i∈Region.ready .any l.toArray g:=by
 obtain⟨O,Z,Y,V⟩:=l0.1 h;simp only[]at Z;obtain⟨o,I⟩:=JQ Z;obtain⟨M,K,_,_,U⟩:=yP (q:=q) (p:=p) I;rw[Z]at K;simp only[aJ]at K;subst K;exact l0.2 ⟨o,I,Y,fun j m=>V j ((U j).2 (.inl m))⟩
def yQ(h:i∈Region.ready .any l.toArray g)(Y:i=q->g.getD p false=true):i∈Region.ready .any (jF q p l).toArray g:=by
 obtain⟨o,Z,V,U⟩:=l0.1 h;simp only[]at Z;obtain⟨O,K,_,_,M⟩:=yP (q:=q) (p:=p) Z;refine l0.2 ⟨O,K,V,fun j m=>?_⟩;rcases(M j).1 m with h|⟨L,rfl⟩
 .exact U j h
 .exact Y L
def TL(h:g.getD p false=true):(g.setIfInBounds i true).getD p false=true:=by
 simp only[jG,u7]at *;split
 .split
  .rfl
  .rename_i Z Y;subst Z;rw[Fe ac]at h;simp at h
 .exact h
theorem Fv{q p:Nat}{l:qx}:∀{L:qC}{g:qH},g.getD p false=true->l7 l.toArray L g->l7 (jF q p l).toArray L g
 |[],g,_,hv=>by
  show Region.ready .any (jF q p l).toArray g=[];apply yM.2;intro i z;have:=JR z;rw[show Region.ready .any l.toArray g=[]from hv]at this;simp at this
 |i::L,g,hd,hv=>⟨yQ hv.1 (fun _=>hd),Fv (TL hd) hv.2⟩
theorem JS{p q:Nat}(U:p≠q){l:qx}:∀{L:qC}{g:qH},g.size=l.length->l7 l.toArray L g->l7 (jF q p l).toArray L g\/l7 (jF p q l).toArray L g
 |[],g,_,hv=>.inl <|by
  show Region.ready .any (jF q p l).toArray g=[];apply yM.2;intro i z;have:=JR z;rw[show Region.ready .any l.toArray g=[]from hv]at this;simp at this
 |i::L,g,hs,hv=>by
  have Z:i<g.size:=by
   obtain⟨o,I,_⟩:=l0.1 hv.1;rw[hs];exact(eS.1 I).1
  have j:(g.setIfInBounds i true).getD i false=true:=by
   simp[jG,u7,Z]
  by_cases Y:i=q
  .subst Y;exact .inr ⟨yQ hv.1 (fun e=>(U e.symm).elim),Fv j hv.2⟩
  .by_cases J:i=p
   .subst J;exact .inl ⟨yQ hv.1 (fun e=>(Y e).elim),Fv j hv.2⟩
   .rcases JS U (by simpa using hs) hv.2 with h|h
    .exact .inl ⟨yQ hv.1 (fun e=>(Y e).elim),h⟩
    .exact .inr ⟨yQ hv.1 (fun e=>(J e).elim),h⟩
theorem Fw{ops:qK}:∀{L:qC}{g:qH},l7 ops L g->∀i∈L,∃o,ops.toList[i]?=some o
 |[],_,_,i,z=>by simp at z
 |j::L,g,hv,i,z=>by
  rcases gE.1 z with rfl|z
  .obtain⟨o,I,_⟩:=l0.1 hv.1;exact⟨o,I⟩
  .exact Fw hv.2 i z
theorem JT(V:l7 l.toArray L g)
 (h:wpOps P (jF q p l).toArray Q L a w):wpOps P l.toArray Q L a w:=by
 refine Ft (ops':=(jF q p l).toArray) (φ:=id) L a w (fun i z=>?_) i9;obtain⟨o,I⟩:=Fw V i z;simp only[]at I;obtain⟨U,K,⟨Z,rfl⟩,_⟩:=yP (q:=q) (p:=p) I;refine⟨o,_,by simpa using I,wU,⟨Z,o.guard,rfl⟩,fun a=>?_⟩;have Y:yielded (jF q p l).toArray a.tmps=yielded l.toArray a.tmps:=funext fun j=>by
  unfold yielded;have:=TK (q:=q) (p:=p) (l:=l) j;simp only[List.getElem?_toArray,this]
 rw[Y];rfl
structure zfU (ord:qC) (l:qx):Prop where
 len:ord.length=l.length
 bk:∀k:Nat,k<l.length->∃i,ord[k]?=some i/\i<l.length/\i8 ord i=k
 lt:∀i:Nat,i<l.length->i8 ord i<l.length/\ord[i8 ord i]?=some i
 cu:∀(i:Nat) o,l[i]?=some o->(∀p∈preds o,p<l.length)/\∀j b,o.guard=some (j,b)->j<l.length
def TM{ord:qC}(h:yo ord l=true):zfU ord l:=by
 unfold yo at h;simp only[co,hM,mF]at h;obtain⟨⟨Y,g⟩,m⟩:=h;refine⟨jn Y,fun k Z=>?_,fun i z=>?_,fun i o I=>?_⟩
 .have:=(g k Z).1.1;split at this
  .rename_i i z;simp only[co]at this;exact⟨i,z,by simpa [j8]using this.1,jn this.2⟩
  .simp at this
 .have U:=(g i z).1.2;have M:=(g i z).2;refine⟨by simpa [j8]using U,?_⟩;split at M
  .rename_i k Z;rw[Z,jn M]
  .simp at M
 .have:=m o (lV I);refine⟨fun p hp=>by simpa [j8]using this.1 p hp,fun j b J=>?_⟩;have K:=this.2;rw[J]at K;simpa [j8]using K
theorem JU{J β:Type}{f:J->Option β}:∀{U:List J},(∀x∈U,(f x).isSome=true)->∀k:Nat,(U.filterMap f)[k]?=(U[k]?).bind f
 |[],_,k=>by simp
 |x::U,h,k=>by
  obtain⟨y,Y⟩:=Option.isSome_iff_exists.1 (h x ei);rw[List.filterMap_cons_some Y];cases k with
  |zero=>simp[Y]
  |succ k=>simp[JU (fun x I=>h x (ej _ I)) k]
section
variable {ord:qC} {l:qx} (hp:zfU ord l)
include hp
theorem zfU.cO(h:l[i]?=some o):(iJ ord l)[i8 ord i]?=some (tA ord o):=by
 have z:=(eS.1 h).1;unfold iJ;rw[JU (fun x I=>?_)]
 .rw[(hp.lt i z).2];simp[h]
 .obtain⟨k,j⟩:=Fk.1 I;have K:k<l.length:=by rw[<-hp.len];exact(eS.1 j).1
  obtain⟨L,Z,g,_⟩:=hp.bk k K;rw[j]at Z;simp only[aJ]at Z;subst Z;rw[a0 g];rfl
def zfU.length:(iJ ord l).length=l.length:=by
 have:∀k,k<l.length->((iJ ord l)[k]?).isSome=true:=fun k j=>by
  obtain⟨i,Z,g,m⟩:=hp.bk k j;have:=hp.cO (a0 g);rw[m]at this;rw[this];rfl
 refine Nat.le_antisymm (dq (List.length_filterMap_le _ _) (by rw[hp.len];exact aO _)) ?_;rcases yL (iJ ord l).length l.length with h|h
 .have:=this _ h;rw[kV (aO _)]at this;simp at this
 .exact h
def zfU.of{U:Oper}(h:(iJ ord l)[k]?=some U):∃i o,l[i]?=some o/\i8 ord i=k/\U=tA ord o:=by
 have j:k<l.length:=by rw[<-hp.length];exact(eS.1 h).1
 obtain⟨i,Z,g,m⟩:=hp.bk k j;have:=hp.cO (a0 g);rw[m,h]at this;simp only[aJ]at this;exact⟨i,_,a0 g,m,this⟩
def zfU.inj(z:i<l.length)(m:j<l.length)(h:i8 ord i=i8 ord j):i=j:=by
 have Z:=(hp.lt i z).2;rw[h,(hp.lt j m).2]at Z;simpa using Z.symm
theorem zfU.preds:Ab.preds (tA ord o)=(Ab.preds o).map (i8 ord):=by
 unfold Ab.preds tA;simp only[yN];rw[List.filter_map];have:(Region.binds .any ∘ fun e:Edge=>{e with on:=i8 ord e.on})=Region.binds .any:=rfl;rw[this,List.filter_filter];simp only[vn,yN];rfl
def yR(ord:qC)(l:qx)(x y:qH):Prop:=x.size=l.length/\y.size=l.length/\∀i,i<l.length->y[i8 ord i]?=x[i]?
def yR.set{x:qH}(h:yR ord l x y)(z:i<l.length):yR ord l (x.setIfInBounds i true) (y.setIfInBounds (i8 ord i) true):=by
 refine⟨by simpa using h.1,by simpa using h.2.1,fun j m=>?_⟩;simp only[u7];by_cases e:i=j
 .subst e;rw[ay rfl,ay rfl,ay (by rw[h.2.1];exact(hp.lt i z).1),ay (by rw[h.1];exact z)]
 .rw[af e,af (fun o=>e (hp.inj z m o))];exact h.2.2 j m
def JV{x:qH}(h:yR ord l x y)(z:i<l.length):i8 ord i∈Region.ready .any (iJ ord l).toArray y↔i∈Region.ready .any l.toArray x:=by
 have Z:=a0 z;have Y:=hp.cO Z;rw[l0,l0];simp only[];have hd:∀(j:Nat) (b:Bool),j<l.length->y.getD (i8 ord j) b=x.getD j b:=fun j b m=>by
  simp only[jG,h.2.2 j m]
 constructor
 .rintro⟨L,K,V,O⟩;rw[Y]at K;simp only[aJ]at K;subst K;refine⟨_,Z,by rw[<-hd i true z];exact V,fun p I=>?_⟩;rw[<-hd p false ((hp.cu i _ Z).1 p I)];exact O _ (by rw[hp.preds];exact List.mem_map_of_mem I)
 .rintro⟨L,K,V,O⟩;rw[Z]at K;simp only[aJ]at K;subst K;refine⟨_,Y,by rw[hd i true z];exact V,fun p I=>?_⟩;rw[hp.preds]at I;obtain⟨M,U,rfl⟩:=nh.1 I;rw[hd M false ((hp.cu i _ Z).1 M U)];exact O M U
theorem JW:∀{L:qC}{x y:qH},yR ord l x y->l7 l.toArray L x->l7 (iJ ord l).toArray (L.map (i8 ord)) y
 |[],x,y,hs,hv=>by
  show Region.ready .any (iJ ord l).toArray y=[];apply yM.2;intro k j;obtain⟨U,K,_⟩:=l0.1 j;simp only[]at K;obtain⟨i,o,Z,g,_⟩:=hp.of K;have z:=(eS.1 Z).1;rw[<-g]at j;have:=(JV hp hs z).1 j;rw[show Region.ready .any l.toArray x=[]from hv]at this;simp at this
 |i::L,x,y,hs,hv=>by
  obtain⟨o,I,_⟩:=l0.1 hv.1;have z:i<l.length:=(eS.1 I).1;exact⟨(JV hp hs z).2 hv.1,JW (hs.set hp z) hv.2⟩
theorem TN(V:l7 l.toArray L g)
 (h:wpOps P (iJ ord l).toArray Q (L.map (i8 ord)) a w):wpOps P l.toArray Q L a w:=by
 refine Ft (ops':=(iJ ord l).toArray) (φ:=i8 ord) L a w (fun i z=>?_) h;obtain⟨o,I⟩:=Fw V i z;simp only[]at I;have U:=hp.cO I;refine⟨o,tA ord o,by simpa using I,by simpa using U,⟨_,_,rfl⟩,fun a=>?_⟩;unfold Region.wanted tA;cases Z:o.guard with
 |none=>rfl
 |some Y=>
  obtain⟨j,b⟩:=Y;have m:=(hp.cu i o I).2 j b Z;have J:=hp.cO (a0 m);simp only[];unfold yielded;simp only[List.getElem?_toArray,J,a0 m];rfl
end
theorem T.aT{J:Type}{C:J->J->Bool}(j:∀a b,C a b=true->a=b):∀{x y:T J},T.beq C x y=true->x=y
 | .e,.e,_=>rfl
 | .e,.n _ _ _,h=>by simp[T.beq]at h
 | .n _ _ _,.e,h=>by simp[T.beq]at h
 | .n v l r,.n z Z Y,h=>by
   simp only[T.beq,co]at h;rw[T.aT j h.1.2,T.aT j h.2];have i:=h.1.1;cases v<;>cases z <;>simp only[dC]at i
   .rfl
   .rw[j _ _ i]
def TO{ops:qx}{Y j:aB}{I Z:Hp}(h:Er ops Y j I Z=true):(∀o∈ops,∀d,o.dst=some d->Y.at d=j.at d)/\I=Z:=by
 unfold Er at h;simp only[co,hM]at h;refine⟨fun o V d hd=>?_,?_⟩
 .have:=h.1.1 o V;rw[hd]at this;exact AV.aT this
 .have i:=jn h.1.2;have g:=T.aT (fun a b=>HB.aT) h.2;cases I;cases Z;simp only[]at i g;rw[i,g]
section
variable {P:Program} {B:Bs} {cfg:Cfg}
def TP{t:Nat}{o:aB}{U:Option Tmp}{v:AV}(h:fE N E U v=some o)(Z:U≠some t):o.at t=E.at t:=by
 unfold fE at h;split at h
 .rename_i d;split at h
  .simp only[aJ]at h;rw[<-h,wZ,af (fun e=>Z mE)]
  .simp at h
 .simp only[aJ]at h;rw[<-h]
theorem JX{ih:zd2->Res}{f N t:Nat}{Z:qx}:∀{rs:List Rec}{l:qx}{E E':aB}{H H':Hp},og P cfg ih f N Z rs l E H E' H'->(∀o∈l,o.dst≠some t)->E'.at t=E.at t
 |[],[],_,_,_,_,h,_=>by rw[h.1]
 |[],_::_,_,_,_,_,h,_=>by simp[og]at h
 |_::_,[],_,_,_,_,h,_=>by simp[og]at h
 |r::rs,o::l,E,E',H,H',h,ht=>by
  obtain⟨_,_,_,_,_,_,E1,hp,Y⟩:=h;rw[JX Y (fun o I=>ht o (ej _ I)),TP hp (ht o ei)]
def JY{t:Nat}{ops:qx}(h:mY P cfg ih f N ops E H=.done x U H')(Z:∀o∈ops,o.dst≠some t):x=.normal/\U.at t=E.at t:=by
 unfold mY at h;split at h
 .split at h
  .rename_i E1 H1 rs z;split at h
   .simp only[Res.done.injEq]at h;obtain⟨rfl,rfl,rfl⟩:=h;exact⟨rfl,JX (yJ z) Z⟩
   .simp at h
  .simp at h
 .simp at h
def TQ{ord:qC}(h:o∈iJ ord l):∃U∈l,o.dst=U.dst:=by
 unfold iJ at h;rw[List.mem_filterMap]at h;obtain⟨i,_,g⟩:=h;split at g
 .rename_i U I;simp only[aJ]at g;subst g;exact⟨U,lV I,rfl⟩
 .simp at g
def JZ(h:o∈jF q p l):∃U∈l,o.dst=U.dst:=by
 obtain⟨i,z⟩:=Fk.1 h;obtain⟨Y,Z⟩:=JQ z;obtain⟨j,K,⟨O,V⟩,_⟩:=yP (q:=q) (p:=p) Z;rw[z]at K;simp only[aJ]at K;exact⟨Y,lV Z,by rw[K,V]⟩
def J0{ops:qx}{aK bB:Res}(h:uW ops aK bB=.done x U H'):
 x=.normal/\aK=.done .normal U H'/\∃j,bB=.done .normal j H'/\∀o∈ops,∀d,o.dst=some d->U.at d=j.at d:=by
 unfold uW at h;split at h
 .split at h
  .rename_i M;simp only[Res.done.injEq]at h;obtain⟨rfl,rfl,rfl⟩:=h;obtain⟨i,g⟩:=TO M;subst g;exact⟨rfl,rfl,_,rfl,i⟩
  .simp at h
 .simp at h
theorem Fx{ih:zd2->Res}{f N t:Nat}{E Z:aB}{H H':Hp}{x:AX}:∀{m:zd9}{ops:qx},j5 P cfg ih f N E H m ops=.done x Z H'->(∀o∈ops,o.dst≠some t)->Z.at t=E.at t
 | .text,ops,h,ht=>(JY h ht).2
 | .b1 ord,ops,h,ht=>by
   simp only[j5]at h;split at h
   .exact(JY h (fun o I=>by obtain⟨U,i,g⟩:=TQ I;rw[g];exact ht U i)).2
   .simp at h
 | .split p q a b,ops,h,ht=>by
   simp only[j5]at h;split at h
   .simp at h
   .obtain⟨_,i,_⟩:=J0 h;exact Fx i (fun o I=>by obtain⟨U,i,g⟩:=JZ I;rw[g];exact ht U i)
def lE.same{o j:aB}(U:∀t,o.at t=j.at t){e:Exit}(h:lE B N V G w x j H' e a w'):lE B N V G w x o H' e a w':=by
 obtain⟨i,Z,g,m,Y⟩:=h;exact⟨i,Z,⟨g.size,fun t=>by rw[U];exact g.bp t⟩,m,Y⟩
theorem Fy(fit:Fit P){n:Nat}{ih:zd2->Res}(I:Snd P B n ih){f N:Nat}{E:aB}{H:Hp}{G:Gh}{w:World}{a:Act}(h:R B H w G)(U:TR N G E a)(hd:a.defers=[]){Q:Exit->Act->World->Prop}:
 ∀(pl:zd9) (l:qx) {E':aB}{H':Hp}{x:AX},j5 P B.bG ih f N E H pl l=.done x E' H'->(∀e O J,lE B N H.next G w x E' H' e O J->Q e O J)->∀L,l7 l.toArray L (Array.replicate l.length false) ->
  wpOps P l.toArray Q L a {w with drawn:=w.drawn+1}
 | .text,l,E',H',x,hr,hQ,L,hv=>Fs L _ _ a _ (by
  have:=JO (ops:=l.toArray) fit I hr h U hd hQ;simpa using this) hv
 | .b1 ord,l,E',H',x,hr,hQ,L,hv=>by
   simp only[j5]at hr;split at hr
   .rename_i hp;have hp:=TM hp;refine TN hp hv (Fs _ _ _ a _ (JO (ops:=(iJ ord l).toArray) fit I hr h U hd hQ) ?_);refine JW hp ⟨az,by simp[hp.length],fun i m=>?_⟩ hv;have:=(hp.lt i m).1;simp[hp.length,m,this]
   .simp at hr
 | .split p q pa pb,l,E',H',x,hr,hQ,L,hv=>by
   simp only[j5]at hr;split at hr
   .simp at hr
   .rename_i Y;have M:p≠q:=Ew Y;obtain⟨rfl,j,E2,h2,h3⟩:=J0 hr;rcases JS M az hv with V|z
    .exact JT hv (Fy fit I h U hd pa _ j hQ L (by rw[BK];exact V))
    .have C:∀t,E'.at t=E2.at t:=fun t=>by
      by_cases U:∃o∈l,o.dst=some t
      .obtain⟨o,Z,hd⟩:=U;exact h3 o Z t hd
      .have g:∀o∈l,o.dst≠some t:=fun o Z hd=>U ⟨o,Z,hd⟩;have K:∀q p,∀o∈jF q p l,o.dst≠some t:=fun q p o Z=>by obtain⟨o',g1,g2⟩:=JZ Z;rw[g2];exact g o' g1
       rw[Fx j (K _ _),Fx h2 (K _ _)]
     exact JT hv (Fy fit I h U hd pb _ h2 (fun e O J hp=>hQ _ _ _ (lE.same C hp)) L (by rw[BK];exact z))
def TS(fit:Fit P)(I:Snd P B n ih){id:Nat}{m:zd9}(hr:j5 P B.bG ih f N E H m ops.toList=.done x U H')
 (h:R B H w G) (Z:TR N G E a) (hd:a.defers=[]):Code.wp P (.region id ops true) (lE B N H.next G w x U H') a w:=by
 refine TJ fit.mixed fun L J=>?_;have:=Fy fit I h Z hd m ops.toList hr (fun _ _ _ hp=>hp) L (by simpa using J);simpa using this
end
structure Grow (w:World) (F:Nat->Nat->qQ) (w':World) (F':Nat->Nat->qQ):Prop where
 below:Below w.heap.size w w'
 more:∀b o v,F b o=some v->F' b o=some v
 b4:∀b o v,F' b o=some v->F b o=some v\/w.heap.size<=b
 b0:∀b o v,F' b o=some v->w'.cell? ⟨b,o,none⟩=some v
def bX(P:Program)(ρ:Nat->Int)(f:FuncId)(C:qs)(r:AV):Prop:=
 (∃V,P.funcs[f]?=some V/\V.body.isSome=true)/\∀(G:Gh) (w:World) (vs:qE),G.ρ=ρ->(∀b o v,G.F b o=some v->w.cell? ⟨b,o,none⟩=some v)->cp G C vs ->
   Calls P f vs.toArray w (fun e J=>∃v g,e=.returned v/\VR {G with F:=g} r v/\Grow w G.F J g)
def TT(P:Program)(B:Bs):Prop:=∀f C r,B.bG.call f C=some r->bX P B.ρ f C r
def Fz(h:Below w.heap.size w w'){b o:Nat}(Z:b<w.heap.size):w'.cell? ⟨b,o,none⟩=w.cell? ⟨b,o,none⟩/\w'.frozen? ⟨b,o,none⟩=w.frozen? ⟨b,o,none⟩:=
 ⟨by simp only[World.cell?,h.block b Z],h.frozen (p:=⟨b,o,none⟩) Z⟩
theorem R.dP{B:Bs}{V:Nat->Nat->qQ}(h:R B H w G)(g:Grow w G.F w' V):Step B H.next G w H w' {G with F:=V}:=by
 have Z:Ext G {G with F:=V}:=⟨fun _ _ h=>h,g.more,rfl⟩;have Y:∀{b o:Nat}{v:Value},w.cell? ⟨b,o,none⟩=some v->w'.cell? ⟨b,o,none⟩=some v:=fun hc=>by rw[(Fz g.below (oY hc)).1];exact hc
 refine⟨?_,Z,⟨g.below.os,g.below.tape,g.below.output,g.below.size,fun k I _=>g.below.block k I⟩,fun r b o x hr=>.inl hr,fun _ _ h=>.inl h,aO _,fun b o v M=>(g.b4 b o v M).imp id fun K=>dq h.bw K⟩;exact{
  bw:=dq h.bw g.below.size
  b3:=h.b3
  lt:=fun r b o x hr=>⟨(h.lt r b o x hr).1,mZ (h.lt r b o x hr).2 g.below.size⟩
  cells:=fun r b o x U imm L hr hc j c m=>by
   obtain⟨v,i,O⟩:=h.cells r b o x U imm L hr hc j c m;exact⟨v,Y i,O.mono Z⟩
  au:=fun r b o x U imm L hr hc j m z=>let ⟨v,M⟩:=h.au r b o x U imm L hr hc j m z;⟨v,g.more _ _ _ M⟩
  ext:=h.ext
  bm:=h.bm
  bh:=fun r b o x U imm L hr hc j m z=>by
   obtain⟨⟨v,i⟩,O,h3⟩:=h.bh r b o x U imm L hr hc j m z;have K:=(h.lt r b o x hr).2;refine⟨⟨v,Y i⟩,by rw[(Fz g.below K).2];exact O,?_⟩;show V b (o+j)=none;cases hF:V b (o+j)with
   |none=>rfl
   |some u=>rcases g.b4 _ _ _ hF with J|J
            ·rw[h3]at J;simp at J
            .omega
  apart:=h.apart
  map:=fun r b o x es hr hc=>by
   obtain⟨ms,C,i,O⟩:=h.map r b o x es hr hc;exact⟨ms,C,by rw[g.below.block b (h.lt r b o x hr).2];exact i,O.mono Z⟩
  aN:=h.aN
  b0:=g.b0
  val:=h.val
  cj:=h.cj}
def TU{V:Gh}(h:yq r=true)(k:VR G r v):VR V r v:=by
 cases k<;>first|exact .int _ _|exact .bool _|exact .ai _ _ jm|cases h
theorem FA(z:Nat):∀(n:Nat) (l:qs),(gC z n l).length=n
 |0,_=>rfl
 |n+1,l=>by simp[gC,FA z n]
theorem yS(z:Nat):∀(n:Nat) (l:qs) (i:Nat) (Y:qs),l.length=n*z->(gC z n l)[i]?=some Y->Y.length=z/\∀(j:Nat) c,Y[j]?=some c->l[i*z+j]?=some c
 |0,_,i,Y,_,h=>by simp[gC]at h
 |n+1,l,i,Y,hl,h=>by
  rw[nf,yO]at hl;simp only[gC]at h;cases i with
  |zero=>
   simp at h;subst h;refine⟨vd,fun j c m=>?_⟩;rw[rx]at m;split at m
   .rw[ve,bO];exact m
   .simp at m
  |succ i=>
   obtain⟨Z,g⟩:=yS z n (l.drop z) i Y E9 i9;refine⟨Z,fun j c m=>?_⟩;have:=g j c m;rw[tE]at this;rw[nf,yO,show i*z+z+j=z+(i*z+j) by omega];exact this
theorem BL{B:Bs}{w:World}{g:AV->Hp->Option (AV×Hp)}
 (Z:∀(v:AV) (H:Hp) (q:AV) (H':Hp) (G:Gh) (x:Value),R B H w G->VR G v x->g v H=some (q,H')->∃V,Step B H.next G w H' w V/\VR V q x) :
 ∀(Y:qs) (vs:qE) (H:Hp) (j:qs) (H':Hp) (G:Gh),R B H w G->cp G Y vs->gg g Y H=some (j,H')->∃V,Step B H.next G w H' w V/\cp V j vs
 |[],vs,H,j,H',G,h,hv,hi=>by
  simp only[gg,cO]at hi;obtain⟨rfl,rfl⟩:=hi;exact⟨G,j9 h,hv⟩
 |c::Y,[],H,j,H',G,h,hv,hi=>by have:=hv.1;simp at this
 |c::Y,v::vs,H,j,H',G,h,hv,hi=>by
  simp only[gg]at hi;split at hi
  .rename_i d H1 i;split at hi
   .rename_i L O M;simp only[cO]at hi;obtain⟨rfl,rfl⟩:=hi;obtain⟨K,I⟩:=hv.aX;obtain⟨C,J,aK⟩:=Z c H d H1 G v h K i;obtain⟨z,U,bB⟩:=BL Z Y vs H1 L O C J.r (I.mono J.ext) M;exact⟨z,J.trans U,mD (aK.mono U.ext) bB⟩
   .simp at hi
  .simp at hi
theorem BM{B:Bs}{w:World}:∀(n:Nat) (v:AV) (H:Hp) (q:AV) (H':Hp) (G:Gh) (x:Value),R B H w G->VR G v x->eR n v H=some (q,H')->∃G',Step B H.next G w H' w G'/\VR G' q x
 |0,_,_,_,_,_,_,_,_,h=>by simp[eR]at h
 |n+1,v,H,q,H',G,x,h,hv,Y=>by
  unfold eR at Y;split at Y
  .rename_i r I Z z;split at Y
   .rename_i cs C tip K;split at Y
    .rename_i g;simp only[co]at g;have hle1:=yE g.1;have hle2:=yE g.2;split at Y
     .rename_i l H1 hil;simp only[cO]at Y;obtain⟨rfl,rfl⟩:=Y;cases hv with
      |sl hr hl hcx=>
       rename_i b o xx cap;have U:=h.cells r b o xx cs C tip hr K;have s1:=yB h hr K (n:=max C (I+Z*z)) ac ac tip id;obtain⟨L,ho1,ho2⟩:=U.list;have hlen:((cs.drop I).take (Z*z)).length=Z*z:=by rw[lS,kQ];omega
       obtain⟨G2,s2,bB⟩:=BL (BM n) _ ((L.drop I).take (Z*z)) _ l H1 _ s1.r (((ho1.drop I).take (Z*z)).mono s1.ext) hil;refine⟨G2,s1.trans s2,?_⟩;have hll:l.length=Z*z:=by
        have e1:=bB.1;have e2:=((ho1.drop I).take (Z*z)).1;rw[hlen]at e2;omega
       have hlc:=FA z Z l;have hovl:L.length=cs.length:=ho1.1.symm;have hat:∀m,m<Z*z->∃v,L[I+m]?=some v/\G2.F b (o+I+m)=some v/\∀c,l[m]?=some c->VR G2 c v:=fun m hm=>by
        have M:I+m<L.length:=ac;refine⟨L[I+m],a0 M,?_,fun c hc=>?_⟩
        .refine s2.ext.F _ _ _ ?_;have O:=ho2 (I+m) L[I+m] (a0 M);show(G.aD w b o (max C (I+Z*z))).F b (o+I+m)=some L[I+m];simp only[Gh.aD];rw[<-kO]at O;split
         .rename_i v' hv';have:=h.b0 _ _ _ hv';rw[O]at this;exact this.symm
         .rw[ay ⟨by trivial,ac,ac⟩];exact O
        .refine bB.2 m c _ hc ?_;rw[rx,ay hm,tE];exact a0 M
       have hin:∀i j,i<Z->j<z->i*z+j<Z*z:=fun i j Y hj=>by
        calc i*z+j<i*z+z:=by omega
         _=(i+1)*z:=by rw[nf,yO]
         _<=Z*z:=yw _ Y
       have key:VR G2 (.ao (gC z Z l)) (.slice (some ⟨b,o+I,none⟩) (gC z Z l).length cap):=by
        refine .ao (fun i j=>(L[I+(i*z+j)]?).getD undef) (z:=z) (fun i J V=>(yS z Z l i J hll V).1) (fun i j Y hj=>?_) (fun i j J c V hcj=>?_) (by rw[hlc];exact hl)
        .rw[hlc]at Y;obtain⟨v,e1,e2,_⟩:=hat _ (hin i j Y hj);rw[e1,kO (o+I)];exact e2
        .have hm:=(yS z Z l i J hll V).2 j c hcj;have M:=(eS.1 hm).1;obtain⟨v,e1,_,e3⟩:=hat (i*z+j) ac;rw[e1];exact e3 c hm
       rw[hlc]at key;exact key
     .simp at Y
    .simp at Y
   .simp at Y
  .rename_i cs;split at Y
   .rename_i ds H1 hil;simp only[cO]at Y;obtain⟨rfl,rfl⟩:=Y;cases hv with
    |agg hl hvs=>
     obtain⟨G',s,r⟩:=BL (BM n) cs _ H ds H1 G h ⟨hl,hvs⟩ hil;exact⟨G',s,.agg r.1 r.2⟩
   .simp at Y
  .simp at Y
  .simp at Y
  .simp only[cO]at Y;obtain⟨rfl,rfl⟩:=Y;exact⟨G,j9 h,hv⟩
section
variable {P:Program} {B:Bs} {G:Gh} {H H':Hp} {w:World}
theorem J1:∀(C:qs) (i:Nat) (E:aB) (t:Nat),(bA i C E).at t=if i<=t/\t<i+C.length then C.getD (t-i) ed else E.at t
 |[],i,E,t=>by
  simp only[bA,gM,tF];rw[af ac]
 |v::vs,i,E,t=>by
  simp only[bA,J1 vs (i+1),eT];by_cases Z:i+1<=t/\t<i+1+vs.length
  .rw[ay Z,ay ac,show t-i=(t-(i+1))+1 by omega];rfl
  .rw[af Z,wZ];by_cases g:t=i
   .subst g;rw[ay rfl,ay ac];simp
   .rw[af g,af ac]
theorem FB:∀(d t:Nat),aB.at (yp d) t=ed
 |0,_=>rfl
 |d+1,t=>by
  unfold aB.at yp;rw[va];cases h:Nat.beq t 0 with
  |true=>rfl
  |false=>
   rw[ng];cases g:Nat.beq (Nat.mod t 2) 1 with
   |true=>exact FB d _
   |false=>exact FB d _
def TV(N t:Nat):aB.at (uX N) t=ed:=FB _ _
def TR.start(h:cp G C vs)(Y:Nat):
 TR (max Y C.length) G (bA 0 C (uX (max Y C.length))) {tmps:=vs.toArray++Array.replicate (Y-vs.toArray.size) undef,defers:=[] }:=by
 have K:=h.1;refine⟨ca,fun t=>?_⟩;rw[J1];simp only[dN,nn,bO,BA];by_cases U:t<C.length
 .rw[ay U];have o:C.getD t ed=C[t]:=by simp[List.getD,U]
  rw[o];have:(vs.toArray++Array.replicate (Y-vs.toArray.size) undef).getD t undef=vs[t]' ac:=by
   rw[jG,Array.getElem?_append_left ca];simp[show t<vs.length by omega]
  rw[this];exact h.2 t _ _ (a0 U) (a0 ac)
 .rw[af U,TV];have:(vs.toArray++Array.replicate (Y-vs.toArray.size) undef).getD t undef=undef:=by
   rw[jG,Array.getElem?_append_right ca];simp only[JL];split<;>rfl
  rw[this];exact yz G
def TW(h:R B H w G)(U:TR N G E a){r:ResultVar}{c:AV}(hr:eM P E H r=some c):
 ∃v,(match r with
  | .tmp t=>pure (a.tmps.getD t undef)
  | .cell x t=>do loadVar t (<-asAddr (a.tmps.getD x undef)):Sem Value).run P w=.ok v w/\VR G c v:=by
 cases r with
 |tmp t=>
  simp only[eM,aJ]at hr;subst hr;exact⟨_,rfl,U.bp t⟩
 |cell x t=>
  simp only[eM]at hr;have I:=U.bp x;obtain⟨v,i,g⟩:=Jl (P:=P) h I hr;refine⟨v,?_,g⟩;show(do loadVar t (<-asAddr (a.tmps.getD x undef)):Sem Value).run P w=.ok v w;generalize a.tmps.getD x undef=Y at I i⊢;generalize E.at x=V at I hr;cases I<;>simp[eY]at hr<;>simpa [Instr.loadAt,Instr.sureAddr,asAddr]using i
theorem J2(h:R B H w G){N:Nat}{E:aB}{a:Act}(U:TR N G E a):∀{rs:List ResultVar}{Y:qs},eh P E H rs=some Y ->
 ∃vs,(rs.mapM (fun
  | .tmp t=>pure (a.tmps.getD t undef)
  | .cell x t=>do loadVar t (<-asAddr (a.tmps.getD x undef)):ResultVar->Sem Value)).run P w=.ok vs w/\cp G Y vs
 |[],Y,hr=>by
  simp only[eh,aJ]at hr;subst hr;exact⟨[],az,rz G⟩
 |r::rs,Y,hr=>by
  simp only[eh]at hr;split at hr
  .rename_i c K i g;simp only[aJ]at hr;subst hr;obtain⟨v,Z,V⟩:=TW (P:=P) h U i;obtain⟨vs,k1,k2⟩:=J2 h U g;refine⟨v::vs,?_,mD V k2⟩;rw[List.mapM_cons];simp only[fh,Z,fo,k1,kR]
  .simp at hr
def J3(h:R B H w G)(U:TR N G E a){V:Func}(hr:wP P V.results.toList E H=.val r H'):
 H'=H/\∃v,(results V a.tmps).run P w=.ok v w/\VR G r v:=by
 unfold wP at hr;split at hr
 .rename_i Y Z;simp only[Res.val.injEq]at hr;obtain⟨rfl,rfl⟩:=hr;obtain⟨vs,i,g⟩:=J2 (P:=P) h U Z;refine⟨rfl,?_⟩;have z:(results V a.tmps).run P w=.ok (if h:vs.toArray.size=1 then vs.toArray[0]else .tuple vs.toArray) w:=by
   unfold results;rw[Array.mapM_eq_mapM_toList];simp only[fh,Sem.run_map];exact jH (fun r:Result qE=>(r.andThen fun a J=>Result.ok a.toArray J).andThen fun a J=>Sem.run P (pure (if h:a.size=1 then a[0]else Value.tuple a)) J) i
  refine⟨_,z,?_⟩
  match Y,vs,g with
  |[],[],g=>exact .aS (vs:=[]) rfl az
  |[c],[v],g=>exact g.aX.1
  |c::c'::Y,v::v'::vs,g=>
   have:¬(v::v'::vs).toArray.size=1:=az;rw[dif_neg this];exact .aS g.1 g.2
  |[],_::_,g=>have:=g.1;simp at this
  |[_],[],g=>have:=g.1;simp at this
  |[_],_::_::_,g=>have:=g.1;simp at this
  |_::_::_,[],g=>have:=g.1;simp at this
  |_::_::_,[_],g=>have:=g.1;simp at this
 .simp at hr
def FC(z:Fit P)(I:Snd P B n ih){f:FuncId}(M:oT P ih f C H=.val r H')(h:R B H w G)(o:cp G C vs):
 (∃U,P.funcs[f]?=some U/\U.body.isSome=true)/\Calls P f vs.toArray w (fun e J=>∃v V,e=.returned v/\VR V r v/\Step B H.next G w H' J V):=by
 unfold oT at M;split at M
 .rename_i U O;split at M
  .rename_i c hc;refine⟨⟨U,O,by rw[hc];rfl⟩,calls_of_wp O hc ?_⟩;have L:=TR.start o U.ntmps;split at M
   .rename_i E1 H1 Z;refine tI (fun e m J j=>?_) (I.aE _ _ _ _ _ _ _ _ Z G w _ h L rfl);obtain⟨rfl,V,Y,K,hd⟩:=j;obtain⟨rfl,v,i,g⟩:=J3 (P:=P) K.r Y M;exact⟨hd,v,i,v,V,rfl,g,K⟩
   .rename_i E1 H1 Z;refine tI (fun e m J j=>?_) (I.aE _ _ _ _ _ _ _ _ Z G w _ h L rfl);obtain⟨rfl,V,Y,K,hd⟩:=j;obtain⟨rfl,v,i,g⟩:=J3 (P:=P) K.r Y M;exact⟨hd,v,i,v,V,rfl,g,K⟩
   .simp at M
  .simp at M
 .simp at M
def FD(g:Snd P B n ih){r:Res}(M:oU ih f N b r=.done x U H'):
 ∃Z E1 H1,r=.done Z E1 H1/\((Z=.normal/\ih (.aE f N b E1 H1)=.done x U H')\/(Z≠.normal/\x=Z/\U=E1/\H'=H1)):=by
 unfold oU at M;split at M
 .rename_i E1 H1;exact⟨.normal,E1,H1,rfl,.inl ⟨rfl,M⟩⟩
 .rename_i J;subst M;exact⟨x,U,H',rfl,.inr ⟨fun e=>by subst e;exact J _ _ rfl,rfl,rfl,rfl⟩⟩
def TX(fit:Fit P)(I:Snd P B n ih)(M:step P B.bG ih (.aE f N c E H)=.done x E' H')
  (h:R B H w G) (U:TR N G E a) (hd:a.defers=[]):Code.wp P c (lE B N H.next G w x E' H') a w:=by
 cases c with
 |skip=>
  simp only[step,Res.done.injEq]at M;obtain⟨rfl,rfl,rfl⟩:=M;exact wp_skip ⟨rfl,G,U,j9 h,hd⟩
 |region id ops draw=>
  cases draw with
  |false=>
   exact wp_region_list (EY fit I ops.toList M h U hd (fun _ _ _ hp=>hp))
  |true=>exact TS fit I M h U hd
 |seq p q=>
  obtain⟨z,E1,H1,i,g⟩:=FD I M;refine wp_seq (tI (fun e O L j=>?_) (I.aE _ _ _ _ _ _ _ _ i G w a h U hd));obtain⟨rfl,Y,Z,K,V⟩:=j;rcases g with⟨rfl,g⟩|⟨J,rfl,rfl,rfl⟩
  .exact tI (fun e a w j=>BE K j) (I.aE _ _ _ _ _ _ _ _ g Y L O K.r Z V)
  .cases x with
   |normal=>exact(J rfl).elim
   |exit id=>exact⟨rfl,Y,Z,K,V⟩
   |ret=>exact⟨rfl,Y,Z,K,V⟩
 |cond y p q=>
  simp only[step,uY]at M;split at M
  .rename_i C;have o:=EX U C;have:a.eval y=.bool true:=by generalize a.eval y=v at o;cases o;rfl
   exact wp_cond_true this (I.aE _ _ _ _ _ _ _ _ M G w a h U hd)
  .rename_i C;have o:=EX U C;have:a.eval y=.bool false:=by generalize a.eval y=v at o;cases o;rfl
   exact wp_cond_false this (I.aE _ _ _ _ _ _ _ _ M G w a h U hd)
  .simp at M
 |block id p=>
  simp only[step]at M;cases i:ih (.aE f N p E H)with
  |done z E1 H1=>
   rw[i]at M;refine wp_block (tI (fun e O L j=>?_) (I.aE _ _ _ _ _ _ _ _ i G w a h U hd));obtain⟨rfl,Y,Z,K,V⟩:=j;cases z with
   |normal=>
    simp only[nZ,Res.done.injEq]at M;obtain⟨rfl,rfl,rfl⟩:=M;exact⟨rfl,Y,Z,K,V⟩
   |ret=>
    simp only[nZ,Res.done.injEq]at M;obtain⟨rfl,rfl,rfl⟩:=M;exact⟨rfl,Y,Z,K,V⟩
   |exit m=>
    simp only[nZ]at M;cases o:Nat.beq m id with
    |true=>
     rw[o]at M;simp only[Res.done.injEq]at M;obtain⟨rfl,rfl,rfl⟩:=M;have:=jn o;subst this;simp only[EV,Exit.inBlock,bC];exact⟨rfl,Y,Z,K,V⟩
    |false=>
     rw[o]at M;simp only[Res.done.injEq]at M;obtain⟨rfl,rfl,rfl⟩:=M;have:=Ew o;simp only[EV,Exit.inBlock];rw[af this];exact⟨rfl,Y,Z,K,V⟩
  |val v H1=>rw[i]at M;simp[nZ]at M
  |aF=>rw[i]at M;simp[nZ]at M
 |loop p=>
  refine wp_loop_rounds (n+1) ?_;rw[rounds_succ];obtain⟨z,E1,H1,i,g⟩:=FD I M;refine tI (fun e O L j=>?_) (I.aE _ _ _ _ _ _ _ _ i G w a h U hd);obtain⟨rfl,Y,Z,K,V⟩:=j;rcases g with⟨rfl,g⟩|⟨J,rfl,rfl,rfl⟩
  .exact EW (fun e a w j=>BE K j) (I.loop _ _ _ _ _ _ _ _ g Y L O K.r Z V)
  .cases x with
   |normal=>exact(J rfl).elim
   |exit id=>exact⟨rfl,Y,Z,K,V⟩
   |ret=>exact⟨rfl,Y,Z,K,V⟩
 |exit id=>
  simp only[step,Res.done.injEq]at M;obtain⟨rfl,rfl,rfl⟩:=M;exact wp_exit ⟨rfl,G,U,j9 h,hd⟩
 |ret=>
  simp only[step,Res.done.injEq]at M;obtain⟨rfl,rfl,rfl⟩:=M;exact wp_ret ⟨rfl,G,U,j9 h,hd⟩
 |rangeFunc _ _ _ _=>simp[step]at M
 |scope _=>simp[step]at M
 |label _=>simp[step]at M
 |goto _=>simp[step]at M
 |refuse _=>simp[step]at M
def TY(i:Fit P)(I:Snd P B n ih)(Y:step P B.bG ih (.aE f N (.loop c) E H)=.done x U H')
  (h:R B H w G) (O:TR N G E a) (hd:a.defers=[]):Code.rounds P c (lE B N H.next G w x U H') (n+1) a w:=by
 rw[rounds_succ];obtain⟨o,E1,H1,z,g⟩:=FD I Y;refine tI (fun e L C j=>?_) (I.aE _ _ _ _ _ _ _ _ z G w a h O hd);obtain⟨rfl,Z,M,K,V⟩:=j;rcases g with⟨rfl,g⟩|⟨J,rfl,rfl,rfl⟩
 .exact EW (fun e a w j=>BE K j) (I.loop _ _ _ _ _ _ _ _ g Z C L K.r M V)
 .cases x with
  |normal=>exact(J rfl).elim
  |exit id=>exact⟨rfl,Z,M,K,V⟩
  |ret=>exact⟨rfl,Z,M,K,V⟩
theorem J4(fit:Fit P)(hc:TT P B):∀n,Snd P B n (dM P B.bG n)
 |0=>⟨fun _ _ _ _ _ h=>by simp[dM]at h,fun _ _ _ _ _ _ _ _ h=>by simp[dM]at h,fun _ _ _ _ _ _ _ _ h=>by simp[dM]at h⟩
 |n+1=>by
  have I:=J4 fit hc n;have he:dM P B.bG (n+1)=step P B.bG (dM P B.bG n):=rfl;rw[he];refine⟨fun f C H r H' M G w vs h V=>?_,fun f N c E H x E' H' M G w a h ht hd=>TX fit I M h ht hd,fun f N c E H x E' H' M G w a h ht hd=>TY fit I M h ht hd⟩;have i:∀{G:Gh}{C:qs}{vs:qE}{H:Hp}{O:AV},B.bG.call f C=some O->R B H w G->cp G C vs ->
   (∃z,P.funcs[f]?=some z/\z.body.isSome=true)/\Calls P f vs.toArray w (fun e J=>∃v Z,e=.returned v/\VR Z O v/\Step B H.next G w H J Z):=fun{G C vs H O} hr h V=>by
   obtain⟨g,h2⟩:=hc f C O hr;refine⟨g,(h2 G w vs h.val h.b0 V).mono fun e J L=>?_⟩;obtain⟨v,F',rfl,K,hg⟩:=L;exact⟨v,_,rfl,K,h.dP hg⟩
  have U:∀{G:Gh}{C:qs}{vs:qE}{H H':Hp}{r:AV},n1 P B.bG (dM P B.bG n) f C H=.val r H'->R B H w G->cp G C vs ->
   (∃z,P.funcs[f]?=some z/\z.body.isSome=true)/\Calls P f vs.toArray w (fun e J=>∃v Z,e=.returned v/\VR Z r v/\Step B H.next G w H' J Z):=fun{G C vs H H' r} M h V=>by
   unfold n1 at M;split at M
   .unfold wR at M;split at M
    .rename_i m H1 j;split at M
     .rename_i O hr;simp only[Res.val.injEq]at M;obtain⟨rfl,rfl⟩:=M;obtain⟨G1,s1,aK⟩:=BL (BM 100) C vs H m H1 G h V j;unfold wQ;split
      .rename_i hfl;obtain⟨g,h2⟩:=hc f m O hr;refine⟨g,(h2 G1 w vs s1.r.val s1.r.b0 aK).mono fun e J L=>?_⟩;obtain⟨v,F',rfl,K,hg⟩:=L;exact⟨v,{G with F:=G.F},rfl,TU hfl K,h.dP ⟨hg.below,fun _ _ _ h=>h,fun _ _ _ h=>.inl h,fun b o v hF=>hg.b0 b o v (hg.more b o v (s1.ext.F b o v hF))⟩⟩
      .obtain⟨g,h2⟩:=i hr s1.r aK;refine⟨g,h2.mono fun e J L=>?_⟩;obtain⟨v,Z,rfl,K,Y⟩:=L;exact⟨v,Z,rfl,K,s1.trans Y⟩
     .exact FC fit I M h V
    .exact FC fit I M h V
   .exact FC fit I M h V
  simp only[step]at M;split at M
  .rename_i O hr;simp only[Res.val.injEq]at M;obtain⟨rfl,rfl⟩:=M;exact i hr h V
  .unfold uZ at M;split at M
   .rename_i v1 H1 hz hv1;obtain⟨g1,g2⟩:=U hv1 h V;refine⟨g1,g2.mono fun e J L=>?_⟩;obtain⟨v,Z,rfl,K,Y⟩:=L;cases hi:eR 100 v1 H1 with
    |none=>rw[hi]at M;simp[gW]at M
    |some p=>
     obtain⟨q,H2⟩:=p;rw[hi]at M;simp only[gW,Res.val.injEq]at M;obtain⟨rfl,rfl⟩:=M;obtain⟨G2,s2,bB⟩:=BM 100 v1 H1 _ _ Z v Y.r K hi;exact⟨v,G2,rfl,bB,Y.trans s2⟩
   .exact U M h V
end
open Go Go.RowKit Go.WideShapes Go.ChangeShapes
theorem TZ(r:Nat):bY.get r=none:=rfl
theorem R.start(i:∀b o v,G.F b o=some v->w.cell? ⟨b,o,none⟩=some v)(Z:∀r,G.β r=none)(j:oX cfg.b7 G.ρ):R ⟨w.heap.size,G.ρ,cfg⟩ bY w G:=by
 refine⟨aO _,?_,?_,?_,?_,?_,?_,?_,?_,?_,i,rfl,j,?_⟩<;>intros<;>simp_all
theorem xl{g:AV->qB}:∀{Y j:qs},iceL g Y=some j->j.length=Y.length/\∀(i:Nat) d,j[i]?=some d->∃c,Y[i]?=some c/\g c=some d
 |[],j,h=>by
  simp only[iceL,aJ]at h;subst h;exact⟨rfl,az⟩
 |c::Y,j,h=>by
  simp only[iceL]at h;split at h
  .rename_i d L V U;simp only[aJ]at h;subst h;obtain⟨m,O⟩:=xl U;refine⟨by simp[m],fun i e Z=>?_⟩;cases i with
   |zero=>simp at Z;subst Z;exact⟨c,rfl,V⟩
   |succ i=>exact O i e wV
  .simp at h
theorem J5{g:AV->qB}:∀{Y j:List qs},tB g Y=some j->j.length=Y.length/\∀(i:Nat) d,j[i]?=some d->∃c,Y[i]?=some c/\iceL g c=some d
 |[],j,h=>by
  simp only[tB,aJ]at h;subst h;exact⟨rfl,az⟩
 |c::Y,j,h=>by
  simp only[tB]at h;split at h
  .rename_i d L V U;simp only[aJ]at h;subst h;obtain⟨m,O⟩:=J5 U;refine⟨by simp[m],fun i e Z=>?_⟩;cases i with
   |zero=>simp at Z;subst Z;exact⟨c,rfl,V⟩
   |succ i=>exact O i e wV
  .simp at h
theorem yT{H:Hp}{G G2:Gh}{w:World}(hρ:G2.ρ=G.ρ)(hF:∀b o v,G.F b o=some v->G2.F b o=some v)
 (O:∀r b o x cs imm tip,G.β r=some (b,o,x)->H.get r=some (.cells cs imm tip)->jp G w b o cs/\∀j v,w.cell? ⟨b,o+j,none⟩=some v->G2.F b (o+j)=some v) :
 ∀(n:Nat) (v:AV) (x:Value) (q:AV),VR G v x->iceV H n v=some q->VR G2 q x
 |0,_,_,_,_,h=>by simp[iceV]at h
 |n+1,v,x,q,hv,h=>by
  have g:∀{cs ds:qs}{vs:qE},cp G cs vs->iceL (iceV H n) cs=some ds->cp G2 ds vs:=fun{cs ds vs} U hi=>by
   obtain⟨h1,h2⟩:=xl hi;refine⟨by rw[h1];exact U.1,fun i d u hd hu=>?_⟩;obtain⟨c,hc,hcd⟩:=h2 i d hd;exact yT hρ hF O n c u d (U.2 i c u hc hu) hcd
  cases hv with
  |int k a=>simp only[iceV,aJ]at h;subst h;exact .int _ _
  |sx k e=>simp only[iceV,aJ]at h;subst h;rw[<-hρ];exact .sx _ _
  |bool b=>simp only[iceV,aJ]at h;subst h;exact .bool _
  |ai s l hs=>simp only[iceV,aJ]at h;subst h;exact .ai _ _ hs
  |bl=>simp only[iceV,aJ]at h;subst h;exact .bl
  |a7=>simp only[iceV,aJ]at h;subst h;exact .a7
  |bu=>simp only[iceV,aJ]at h;subst h;exact .bu
  |ah=>simp only[iceV,aJ]at h;subst h;exact .ah
  |ptr _=>simp[iceV]at h
  |a8 _ _ _=>simp[iceV]at h
  |map _=>simp[iceV]at h
  |bb _ _=>simp[iceV]at h
  |agg hl U=>
   simp only[iceV]at h;split at h
   .rename_i ds hds;simp only[aJ]at h;subst h;have:=g ⟨hl,U⟩ hds;exact .agg this.1 this.2
   .simp at h
  |aS hl U=>
   simp only[iceV]at h;split at h
   .rename_i ds hds;simp only[aJ]at h;subst h;have:=g ⟨hl,U⟩ hds;exact .aS this.1 this.2
   .simp at h
  |bU a cap=>
   simp only[iceV,tB,aJ]at h;subst h;exact .bU _ _
  |ao vs hz hFx hvx hc=>
   rename_i xs b o cap z;simp only[iceV]at h;split at h
   .rename_i ys hys;simp only[aJ]at h;subst h;obtain⟨h1,h2⟩:=J5 hys;rw[<-h1];refine .ao vs (z:=z) (fun i Y hr=>?_) (fun i j hi hj=>hF _ _ _ (hFx i j (by rw[<-h1];exact hi) hj)) (fun i j Y c hr hcj=>?_) (by rw[h1];exact hc)
    .obtain⟨c,K,hc2⟩:=h2 i Y hr;rw[(xl hc2).1];exact hz i c K
    .obtain⟨c0,K,hc2⟩:=h2 i Y hr;obtain⟨c1,hc3,hc4⟩:=(xl hc2).2 j c hcj;exact yT hρ hF O n c1 (vs i j) c (hvx i j c0 c1 K hc3) hc4
   .simp at h
  |sl hr hl hcx=>
   rename_i r I Z z b o xx cap;simp only[iceV]at h;split at h
   .rename_i cs imm tip hg;split at h
    .rename_i l hil;split at h
     .rename_i L;simp only[aJ]at h;subst h;obtain⟨hh,hnew⟩:=O r b o xx cs imm tip hr hg;obtain⟨h1,h2⟩:=xl hil;have C:∀(m:Nat) c,l[m]?=some c->∃v,w.cell? ⟨b,o+I+m,none⟩=some v/\VR G2 c v:=fun m c hm=>by
       obtain⟨c0,J,K⟩:=h2 m c hm;rw[rx]at J;split at J
       .rw[tE]at J;obtain⟨v,V,hv2⟩:=hh _ _ J;exact⟨v,by rw[kO];exact V,yT hρ hF O n c0 v c hv2 K⟩
       .simp at J
      have hlc:=FA z Z l;have hin:∀i j,i<Z->j<z->i*z+j<l.length:=fun i j hi hj=>by
       rw[L]
       calc i*z+j<i*z+z:=by omega
        _=(i+1)*z:=by rw[nf,yO]
        _<=Z*z:=yw _ hi
      have key:VR G2 (.ao (gC z Z l)) (.slice (some ⟨b,o+I,none⟩) (gC z Z l).length cap):=by
       refine .ao (fun i j=>(w.cell? ⟨b,o+I+(i*z+j),none⟩).getD undef) (z:=z) (fun i Y M=>(yS z Z l i Y L M).1) (fun i j hi hj=>?_) (fun i j Y c M hcj=>?_) (by rw[hlc];exact hl)
       .rw[hlc]at hi;have hm:=hin i j hi hj;obtain⟨v,V,_⟩:=C (i*z+j) _ (a0 hm);rw[V];have:=hnew (I+(i*z+j)) v (by rw[<-kO];exact V);rw[show o+I+i*z+j=o+(I+(i*z+j)) by omega];exact this
       .have hm:=(yS z Z l i Y L M).2 j c hcj;obtain⟨v,V,hv2⟩:=C (i*z+j) c hm;rw[V];exact hv2
      rw[hlc]at key;exact key
     .simp at h
    .simp at h
   .simp at h
def T0(w:World){G2:Gh}(Z:G2.ρ=G.ρ)(U:∀b o v,G.F b o=some v->G2.F b o=some v)(h:tC m C=true)(V:cp G C vs):cp G2 C vs:=by
 unfold tC at h;split at h
 .rename_i O I;have:=pM h;subst this;obtain⟨h1,M⟩:=xl I;refine⟨V.1,fun i c v hc g=>?_⟩;obtain⟨c0,j,K⟩:=M i c hc;rw[hc]at j;simp only[aJ]at j;subst j;exact yT (H:=bY) (w:=w) Z U (fun r b o x z L Y _ J=>by simp[TZ]at J) m c v c (V.2 i c v hc g) K
 .simp at h
def FE{f:FuncId}(h:oT P ih f C H=.val r H'):∃V,P.funcs[f]?=some V/\V.body.isSome=true:=by
 unfold oT at h;split at h
 .rename_i V Z;split at h
  .rename_i c o;exact⟨V,Z,by simp[o]⟩
  .simp at h
 .simp at h
theorem T1{ρ:Nat->Int}(Z:∀f C r,cfg.call f C=some r->bX P ρ f C r){f:FuncId}{C:qs}{r:AV}(h:dM P cfg n (.call f C H)=.val r H'):
 ∃V,P.funcs[f]?=some V/\V.body.isSome=true:=by
 cases n with
 |zero=>simp[dM]at h
 |succ n=>
  have j:dM P cfg (n+1)=step P cfg (dM P cfg n):=rfl;rw[j]at h;simp only[step]at h;split at h
  .rename_i J hr;exact(Z f C J hr).1
  .have Y:∀{r:AV}{H':Hp},n1 P cfg (dM P cfg n) f C H=.val r H'->∃V,P.funcs[f]?=some V/\V.body.isSome=true:=fun{r H'} h=>by
    unfold n1 at h;split at h
    .unfold wR at h;split at h
     .split at h
      .rename_i hr;exact(Z _ _ _ hr).1
      .exact FE h
     .exact FE h
    .exact FE h
   unfold uZ at h;split at h
   .rename_i U;exact Y U
   .exact Y h
def J6(fit:Fit P){ρ:Nat->Int}(hD:oX cfg.b7 ρ)(z:∀f C r,cfg.call f C=some r->bX P ρ f C r){f:FuncId}{C:qs}{r:AV}
 (hp:tC k C=true) (h:Bi P cfg n m f C=some r):bX P ρ f C r:=by
 unfold Bi at h;split at h
 .rename_i v0 H' Z;refine⟨T1 z Z,fun G w vs U Y V=>?_⟩;subst U;have I:cp {G with β:=fun _=>none} C vs:=T0 w (G:=G) (G2:={G with β:=fun _=>none}) rfl (fun _ _ _ h=>h) hp V;have g:R ⟨w.heap.size,G.ρ,cfg⟩ bY w {G with β:=fun _=>none}:=R.start (G:={G with β:=fun _=>none}) Y (fun _=>rfl) hD;refine((J4 (B:=⟨w.heap.size,G.ρ,cfg⟩) fit z n).call f C bY _ H' Z _ w vs g I).2.mono fun e J hh=>?_;obtain⟨x,G',rfl,hx,M⟩:=hh;have K:Below w.heap.size w J:=⟨M.fr.os,M.fr.tape,M.fr.output,M.fr.size,fun k hk=>M.fr.block k hk (fun r b o x hr=>by simp at hr)⟩;refine⟨x,fun b o=>if b<w.heap.size then G.F b o else J.cell? ⟨b,o,none⟩,rfl,?_,K,fun b o v V=>?_,fun b o v V=>?_,fun b o v V=>?_⟩
  .refine yT (G:=G') (w:=J) (H:=H') ?_ (fun b o v V=>?_) (fun r b o x cs L O hr hg=>?_) m v0 x r hx h
   .exact M.ext.ρ.symm
   .rcases M.b4 b o v V with i|i
    .show(if b<w.heap.size then G.F b o else J.cell? ⟨b,o,none⟩)=some v;rw[ay (oY (Y b o v i))];exact i
    .show(if b<w.heap.size then G.F b o else J.cell? ⟨b,o,none⟩)=some v;rw[af (by have:w.heap.size<=b:=i;omega)];exact M.r.b0 b o v V
   .refine⟨M.r.cells r b o x cs L O hr hg,fun j v hj=>?_⟩;have i:w.heap.size<=b:=(M.r.lt r b o x hr).1;show(if b<w.heap.size then G.F b (o+j)else J.cell? ⟨b,o+j,none⟩)=some v;rw[af ac];exact hj
  .rw[ay (oY (Y b o v V))];exact V
  .split at V
   .exact .inl V
   .exact .inr ac
  .split at V
   .rename_i hb;rw[(Fz K hb).1];exact Y b o v V
   .exact V
 .simp at h
def T2{ρ:Nat->Int}{f:FuncId}{b:Bool}(h:bX P ρ f C (.bool b)){F:Nat->Nat->qQ}
 (U:∀b o v,F b o=some v->w.cell? ⟨b,o,none⟩=some v) (V:cp ⟨fun _=>none,F,ρ⟩ C vs) :
 Calls P f vs.toArray w (fun e J=>e=.returned (.bool b)/\Below w.heap.size w J):=by
 refine(h.2 ⟨fun _=>none,F,ρ⟩ w vs rfl U V).mono fun e J i=>?_;obtain⟨v,g,rfl,hr,Z⟩:=i;cases hr;exact⟨rfl,Z.below⟩
def T3(fit:Fit P){ρ:Nat->Int}(j:oX cfg.b7 ρ)(V:∀f C r,cfg.call f C=some r->bX P ρ f C r){f:FuncId}{C:qs}{r:AV}
 (Z:tC k C=true) (h:Es P cfg n m f C r=true):bX P ρ f C r:=by
 unfold Es at h;split at h
 .rename_i q K;rw[<-AV.aT h];exact J6 fit j V Z K
 .simp at h
def rD(ρ:Nat->Int):oX (fun _ _ _=>none) ρ:=fun _ _ _ _ _ h=>lY
def vo(P:Program)(ρ:Nat->Int):List (FuncId×qs×AV)->Prop
 |[]=>True
 |p::l=>bX P ρ p.1 p.2.1 p.2.2/\vo P ρ l
theorem BN{P:Program}{ρ:Nat->Int}:∀{l:List (FuncId×qs×AV)},vo P ρ l->∀f C r,u5 l f C=some r->bX P ρ f C r
 |[],_,_,_,_,h=>by simp[u5]at h
 |p::l,hk,f,C,r,h=>by
  simp only[u5]at h;split at h
  .rename_i i;split at h
   .rename_i j;simp only[aJ]at h;subst h;rw[<-jn i,<-pM j];exact hk.1
   .exact BN hk.2 f C r h
  .exact BN hk.2 f C r h
def yU:List (Nat×Nat×zd9)->FuncId->Nat->zd9
 |[],_,_=>.text
 |p::l,f,id=>match Nat.beq p.1 f with
  |true=>match Nat.beq p.2.1 id with
   |true=>p.2.2
   |false=>yU l f id
  |false=>yU l f id
def T4(pls:List (Nat×Nat×zd9))(l:List (FuncId×qs×AV)):Cfg:={keep:=fun _=>false,call:=u5 l,aD:=fun f=>l.any fun p=>Nat.beq p.1 f,bF:=yU pls}
def FF(fit:Fit P){ρ:Nat->Int}{pls:List (Nat×Nat×zd9)}{l:List (FuncId×qs×AV)}(K:vo P ρ l){f:FuncId}
 (Z:tC k C=true) (h:Es P (T4 pls l) n m f C r=true):bX P ρ f C r:=T3 fit (rD ρ) (BN K) Z h
def J7(P:Program):Bool:=P.funcs.all (fun V=>!(V.body.isSome&&V.name == "runtime.NumGoroutine"))&&P.follows .mixedOrders
def Fit.of(h:J7 P=true):Fit P:=by
 simp only[J7,co]at h;refine⟨fun f V Z o=>?_,h.2⟩;have i:=h.1;rw[Fc]at i;have:=i V (by exact Array.mem_of_getElem? Z);simpa [o]using this
section
variable {H:Type} {enc:TypeId × Value -> H} {P:Program}
def T5{f:Func}{s:ChangeSpec}{apart O M K:Bool}{W z:World}{C:Array Value}{I o:List (DataW H)}{i m pv:List MemPlace}
 (hW:DataW.Whole enc P f.params.toList s.vars apart W C.toList I o i)
 (V:∀(b:Nat) (J:Nat->Bool) (hd:Bool),DataW.TrodAll enc P z b J hd f.resultTypes.toList (v.resultList f.resultTypes.size) (s.fn H (I++o)).results [])
 (Z:∀J:Nat->Bool,(∀p∈i,J p.block=true)->DataW.TrodAll enc P z 0 J true f.params.toList C.toList (s.fn H (I++o)).args m)
 (U:∀J:Nat->Bool,(∀p∈i,J p.block=true)->DataW.TrodVars enc P z J s.vars (s.fn H (I++o)).vars pv)
 (Y:i=m++pv) (hb:Below W.heap.size W z)
 (hok:∀(j:Nat) (t:TypeId) (r:Value),f.resultTypes[j]?=some t->(v.resultList f.resultTypes.size)[j]?=some r->Value.okWide P z .any 0 t r) :
 s.post enc P f apart O M K W C v z:=by
 have hlt:∀p∈i,p.block<W.heap.size:=fun p hp=>hW.lt p hp;have L:∀p∈i,(fun b=>decide (b<W.heap.size)) p.block=true:=fun p hp=>by simpa using hlt p hp
 refine⟨I,o,i,[],m,pv,hW,V _ _ _,Z _ L,U _ L,World.keptBut_mono (fun p hp=>⟨hp,?_⟩) (hb.frame (·∈ i)),fun _=>?_⟩
 .rw[Y,kU]at hp;exact Or.inr hp
 .obtain⟨_,_,_,_,_,hz,hn⟩:=hW;refine⟨hok,_,_,([]++m)++pv,⟨[]++m,pv,trodAll_append (Z _ (fun _ _=>rfl)) (V _ _ _),U _ (fun _ _=>rfl),rfl,?_,?_⟩,?_⟩
  .intro b g hp;have hin:MemPlace.cell b g∈i:=by rw[Y];simpa using hp
   rw[hb.frozen (hlt _ hin)];exact hz b g hin
  .intro ha;have:=hn ha;rw[Y]at this;simpa using this
  .intro p hp _;rw[Y];simpa using hp
end
open Go
def dY(ih ih':zd2->Res):Prop:=∀t,ih t≠.aF->ih' t=ih t
section
variable {P:Program} {cfg:Cfg} {ih ih':zd2 -> Res}
def BO(h:dY ih ih'){f:FuncId}{op:Op}(C:en P cfg ih f E H op≠.aF):en P cfg ih' f E H op=en P cfg ih f E H op:=by
 unfold en at *;split
 .rename_i c;unfold tw at *;split
  .rename_i g J;simp only[J]at C;split
   .rename_i k j vs i Z;simp only[i,Z]at C;exact h _ C
   .rfl
  .rfl
  .rfl
 .rfl
theorem yV:j6 P cfg ih f N Z (o::l) E H=match jC Z E o with
 |true=>match en P cfg ih f E H o.op with
  | .val v H=>kM (j6 P cfg ih f N Z l) H (fE N E o.dst v)
  |_=>.aF
 |false=>kM (j6 P cfg ih f N Z l) H (fE N E o.dst ed):=rfl
theorem BP(h:dY ih ih'){f N:Nat}{Z:qx}:∀{l:qx}{E:aB}{H:Hp},j6 P cfg ih f N Z l E H≠.aF->j6 P cfg ih' f N Z l E H=j6 P cfg ih f N Z l E H
 |[],_,_,_=>rfl
 |o::l,E,H,hn=>by
  rw[yV]at hn⊢;rw[yV];cases L:jC Z E o with
  |true=>
   simp only[L]at hn⊢;cases I:en P cfg ih f E H o.op with
   |aF=>simp[I]at hn
   |done x E1 H1=>simp[I]at hn
   |val v H1=>
    rw[BO h (by rw[I];simp),I];simp only[I]at hn⊢;cases hp:fE N E o.dst v with
    |none=>rfl
    |some E1=>
     rw[hp]at hn;exact BP h hn
  |false=>
   simp only[L]at hn⊢;cases hp:fE N E o.dst ed with
   |none=>rfl
   |some E1=>
    rw[hp]at hn;exact BP h hn
theorem BQ(h:dY ih ih'){f N:Nat}{Z:qx}:∀{l:qx}{E:aB}{H:Hp},jD P cfg ih f N Z l E H≠.aF->jD P cfg ih' f N Z l E H=jD P cfg ih f N Z l E H
 |[],_,_,_=>rfl
 |o::l,E,H,hn=>by
  have V:∀{r:Rec}{x:zfY},oQ r x≠.aF->x≠.aF:=fun{r x} Y e=>Y (by rw[e];rfl);simp only[jD]at hn⊢;cases L:jC Z E o with
  |true=>
   simp only[L]at hn⊢;cases I:en P cfg ih f E H o.op with
   |aF=>simp[I]at hn
   |done x E1 H1=>simp[I]at hn
   |val v H1=>
    rw[BO h (by rw[I];simp),I];simp only[I]at hn⊢;cases hp:fE N E o.dst v with
    |none=>rfl
    |some E1=>
     rw[hp]at hn;have:=BQ h (V hn);simp only[oR,this]
  |false=>
   simp only[L]at hn⊢;cases hp:fE N E o.dst ed with
   |none=>rfl
   |some E1=>
    rw[hp]at hn;have:=BQ h (V hn);simp only[oR,this]
def J8(h:dY ih ih'){ops:qx}(C:mY P cfg ih f N ops E H≠.aF):mY P cfg ih' f N ops E H=mY P cfg ih f N ops E H:=by
 unfold mY at *;split
 .rename_i hc;simp only[hc]at C;cases hr:jD P cfg ih f N ops ops E H with
  |aF=>simp[hr]at C
  |done E1 H1 rs=>rw[BQ h yK,hr]
 .rfl
theorem T6{ops:qx}{aK bB Y Z:Res}(h1:aK≠.aF->Y=aK)(h2:bB≠.aF->Z=bB)(C:uW ops aK bB≠.aF):uW ops Y Z=uW ops aK bB:=by
 have K:aK≠.aF:=fun e=>C (by rw[e];rfl);have V:bB≠.aF:=fun e=>C (by rw[e];unfold uW;split<;>simp_all);rw[h1 K,h2 V]
theorem FG(h:dY ih ih'){f N:Nat}{E:aB}{H:Hp}:∀{m:zd9}{ops:qx},j5 P cfg ih f N E H m ops≠.aF->j5 P cfg ih' f N E H m ops=j5 P cfg ih f N E H m ops
 | .text,ops,hn=>J8 h hn
 | .b1 ord,ops,hn=>by
   simp only[j5]at *;split
   .rename_i hp;simp only[hp]at hn;exact J8 h hn
   .rfl
 | .split p q a b,ops,hn=>by
   simp only[j5]at *;split
   .rfl
   .rename_i hp;simp only[hp]at hn;exact T6 (fun i=>FG h i) (fun g=>FG h g) hn
def FH(h:dY ih ih'){f:FuncId}(Z:oT P ih f C H≠.aF):oT P ih' f C H=oT P ih f C H:=by
 unfold oT at *;split
 .rename_i V i;simp only[i]at Z;split
  .rename_i c o;simp only[o]at Z;cases hr:ih (.aE f (max V.ntmps C.length) c (bA 0 C (uX (max V.ntmps C.length))) H)with
   |aF=>simp[hr]at Z
   |val v H1=>rw[h _ yK,hr]
   |done x E1 H1=>rw[h _ yK,hr]
  .rfl
 .rfl
def T7(h:dY ih ih'){f:FuncId}(Z:n1 P cfg ih f C H≠.aF):n1 P cfg ih' f C H=n1 P cfg ih f C H:=by
 unfold n1 at *;split
 .rename_i z;simp only[z]at Z;unfold wR at *;split
  .rename_i Y H' M;simp only[M]at Z;split
   .rfl
   .rename_i i;simp only[i]at Z;exact FH h Z
  .rename_i M;simp only[M]at Z;exact FH h Z
 .rename_i z;simp only[z]at Z;exact FH h Z
theorem J9(h:dY ih ih'){r J:Res}(hr:r≠.aF->J=r)(C:oU ih f N b r≠.aF):oU ih' f N b J=oU ih f N b r:=by
 cases r with
 |aF=>simp[oU]at C
 |val v H1=>rw[hr az];rfl
 |done x E1 H1=>
  rw[hr az];cases x with
  |normal=>exact h _ C
  |exit id=>rfl
  |ret=>rfl
theorem T8(h:dY ih ih')(C:step P cfg ih t≠.aF):step P cfg ih' t=step P cfg ih t:=by
 cases t with
 |call f Z H=>
  simp only[step]at *;split
  .rfl
  .rename_i hc;simp only[hc]at C;have Y:n1 P cfg ih f Z H≠.aF:=fun e=>C (by rw[e];unfold uZ;split<;>simp_all);rw[T7 h Y]
 |aE f N c E H=>
  cases c with
  |region id ops draw=>cases draw with
   |false=>exact BP h C
   |true=>exact FG h C
  |seq a b=>exact J9 h (h _) C
  |loop a=>exact J9 h (h _) C
  |cond x a b=>
   simp only[step]at *;unfold uY at *;split
   .rename_i hc;simp only[hc]at C;exact h _ C
   .rename_i hc;simp only[hc]at C;exact h _ C
   .rfl
  |block id a=>
   simp only[step]at *;cases hr:ih (.aE f N a E H)with
   |aF=>simp[hr,nZ]at C
   |val v H1=>rw[h _ yK,hr]
   |done x E1 H1=>rw[h _ yK,hr]
  |_=>rfl
theorem Ka:∀n,dY (dM P cfg n) (dM P cfg (n+1))
 |0=>fun _ C=>(C rfl).elim
 |n+1=>fun _ C=>T8 (Ka n) C
def FI(O:n<=m)(C:dM P cfg n t≠.aF):dM P cfg m t=dM P cfg n t:=by
 induction m with
 |zero=>rw[show n=0 by omega]
 |succ m ih=>
  by_cases h:n=m+1
  .rw[h]
  .have:=ih ac;rw[Ka m t (by rw[this];exact C),this]
def BR(O:n<=m){r:Res}(h:dM P cfg n t=r)(hr:r≠.aF):dM P cfg m t=r:=by
 rw[FI O (by rw[h];exact hr),h]
def dA(P:Program)(cfg:Cfg)(t:zd2)(r:Res):Prop:=r≠.aF/\∃n,dM P cfg n t=r
def dA.step{r:Res}(hr:r≠.aF)(h:Ab.step P cfg (dM P cfg n) t=r):dA P cfg t r:=⟨hr,n+1,h⟩
def kg:=@dA.step
section
variable {f N id:Nat} {a b:Code} {x:Operand} {E E1:aB} {H H1:Hp} {r:Res} {ex:AX}
def dA.seq(h1:dA P cfg (.aE f N a E H) (.done .normal E1 H1))(h2:dA P cfg (.aE f N b E1 H1) r):dA P cfg (.aE f N (.seq a b) E H) r:=by
 obtain⟨_,n,h1⟩:=h1;obtain⟨hr,m,h2⟩:=h2;refine kg hr (n:=max n m) ?_;show oU (dM P cfg (max n m)) f N b (dM P cfg (max n m) (.aE f N a E H))=r;rw[BR (BI n m) h1 az];exact BR (BJ n m) h2 hr
theorem Kb(h1:dA P cfg (.aE f N a E H) (.done ex E1 H1))(I:ex≠.normal):dA P cfg (.aE f N (.seq a b) E H) (.done ex E1 H1):=by
 obtain⟨hr,n,h1⟩:=h1;refine kg hr (n:=n) ?_;show oU (dM P cfg n) f N b (dM P cfg n (.aE f N a E H))=_;rw[h1];cases ex with
 |normal=>exact(I rfl).elim
 |exit id=>rfl
 |ret=>rfl
def dA.loop(h1:dA P cfg (.aE f N a E H) (.done .normal E1 H1))(h2:dA P cfg (.aE f N (.loop a) E1 H1) r):dA P cfg (.aE f N (.loop a) E H) r:=by
 obtain⟨_,n,h1⟩:=h1;obtain⟨hr,m,h2⟩:=h2;refine kg hr (n:=max n m) ?_;show oU (dM P cfg (max n m)) f N (.loop a) (dM P cfg (max n m) (.aE f N a E H))=r;rw[BR (BI n m) h1 az];exact BR (BJ n m) h2 hr
theorem Kc(h1:dA P cfg (.aE f N a E H) (.done ex E1 H1))(I:ex≠.normal):dA P cfg (.aE f N (.loop a) E H) (.done ex E1 H1):=by
 obtain⟨hr,n,h1⟩:=h1;refine kg hr (n:=n) ?_;show oU (dM P cfg n) f N (.loop a) (dM P cfg n (.aE f N a E H))=_;rw[h1];cases ex with
 |normal=>exact(I rfl).elim
 |exit id=>rfl
 |ret=>rfl
def T9(I:aV E x=some (.bool true))(h:dA P cfg (.aE f N a E H) r):dA P cfg (.aE f N (.cond x a b) E H) r:=by
 obtain⟨hr,n,h⟩:=h;refine kg hr (n:=n) ?_;show uY (dM P cfg n) f N x a b E H=r;unfold uY;rw[I];exact h
def Ua(I:aV E x=some (.bool false))(h:dA P cfg (.aE f N b E H) r):dA P cfg (.aE f N (.cond x a b) E H) r:=by
 obtain⟨hr,n,h⟩:=h;refine kg hr (n:=n) ?_;show uY (dM P cfg n) f N x a b E H=r;unfold uY;rw[I];exact h
def dA.block(h:dA P cfg (.aE f N a E H) (.done (.exit id) E1 H1)):dA P cfg (.aE f N (.block id a) E H) (.done .normal E1 H1):=by
 obtain⟨hr,n,h⟩:=h;refine kg az (n:=n) ?_;show nZ id (dM P cfg n (.aE f N a E H))=_;rw[h];simp[nZ]
theorem Ub(h:dA P cfg (.aE f N a E H) (.done .normal E1 H1)):dA P cfg (.aE f N (.block id a) E H) (.done .normal E1 H1):=by
 obtain⟨hr,n,h⟩:=h;refine kg az (n:=n) ?_;show nZ id (dM P cfg n (.aE f N a E H))=_;rw[h];rfl
theorem Uc(h:dA P cfg (.aE f N a E H) (.done .ret E1 H1)):dA P cfg (.aE f N (.block id a) E H) (.done .ret E1 H1):=by
 obtain⟨hr,n,h⟩:=h;refine kg az (n:=n) ?_;show nZ id (dM P cfg n (.aE f N a E H))=_;rw[h];rfl
def Ud{J:Nat}(Z:Nat.beq J id=false)(h:dA P cfg (.aE f N a E H) (.done (.exit J) E1 H1)):dA P cfg (.aE f N (.block id a) E H) (.done (.exit J) E1 H1):=by
 obtain⟨hr,n,h⟩:=h;refine kg az (n:=n) ?_;show nZ id (dM P cfg n (.aE f N a E H))=_;rw[h];simp only[nZ,Z]
theorem dA.skip:dA P cfg (.aE f N .skip E H) (.done .normal E H):=kg az (n:=0) rfl
theorem dA.exit:dA P cfg (.aE f N (.exit id) E H) (.done (.exit id) E H):=kg az (n:=0) rfl
theorem dA.ret:dA P cfg (.aE f N .ret E H) (.done .ret E H):=kg az (n:=0) rfl
def dA.region(h:j6 P cfg (dM P cfg n) f N ops.toList ops.toList E H=r)(hr:r≠.aF):dA P cfg (.aE f N (.region id ops false) E H) r:=kg hr (n:=n) h
def dA.bD(h:j5 P cfg (dM P cfg n) f N E H (cfg.bF f id) ops.toList=r)(hr:r≠.aF):dA P cfg (.aE f N (.region id ops true) E H) r:=kg hr (n:=n) h
def dA.call{V:Func}{v:AV}(j:cfg.call f C=none)(z:cfg.aD f=false)(I:cfg.aq f=false)(i:P.funcs[f]?=some V)(o:V.body=some c)
 (h:dA P cfg (.aE f (max V.ntmps C.length) c (bA 0 C (uX (max V.ntmps C.length))) H) (.done ex E1 H1)) (Y:ex=.normal\/ex=.ret) (Z:wP P V.results.toList E1 H1=.val v H1):dA P cfg (.call f C H) (.val v H1):=by
 obtain⟨_,n,h⟩:=h;refine kg az (n:=n) ?_;simp only[Ab.step,j,z,I,n1,uZ];unfold oT;simp only[i,o,h];rcases Y with rfl|rfl<;>exact Z
end
end
end Go.Ab
