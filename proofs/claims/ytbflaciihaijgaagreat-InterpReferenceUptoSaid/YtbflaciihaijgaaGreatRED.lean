/- Lemmas for the last file. -/
import Derived.Below
import Derived.ChangeSame
import Derived.Orders
import Derived.Test.YtbflaciihaijgaaGreatREC
set_option linter.all false
set_option maxHeartbeats 32000000
namespace Go.Ab
set_option maxRecDepth 20000
open Go
variable{qb:Prop}
def fQ(h:qb:=by simpa using h):=h
def mK(h:qb:=by rw[e]):=h
def lC(h:qb:=by simp at h):=h
def HS(h:qb:=by rw[O.size];exact(List.getElem?_eq_some_iff.1 M).1):=h
def HT(h:qb:=by rw[hs];have:=(List.getElem?_eq_some_iff.1 M).1;simpa using this):=h
def DW(h:qb:=by rw[List.length_drop];omega):=h
def yl(h:qb:=by rw[hr];simp):=h
def fY:=@List.mem_cons
def nN:=@List.mem_append
def nO:=@List.mem_range
def pL:=@Bool.not_true
def nP:=@Bool.false_or
def ym:=@List.mem_filter
def oQ:=@Array.getElem?_eq_getElem
def th:=@Bool.not_eq_true'
def DX:=@Array.all_eq_true_iff_forall_mem
def ky:=@Bool.or_eq_true
def l3:=@List.mem_map
def yn:=@Nat.lt_or_ge
def DY:=@Array.getElem?_eq_none
def oR:=@List.any_eq_false
def AN:=@Nat.lt_trichotomy
def yo:=@List.eq_nil_iff_forall_not_mem
def oS:=@List.getElem?_eq_none
def HU:=@Array.getElem?_replicate
def DZ:=@List.singleton_append
def wd:=@Bool.true_or
def gW:=@List.mem_cons_self
def jE:=@List.mem_cons_of_mem
def kT:=@List.map_append
def D0:=@List.getElem?_set_ne
def D1:=@List.mem_iff_getElem?
def ti:=@List.map_map
def yp:=@Bool.and_self
def yq:=@Nat.one_mul
def oT:=@true_and
def AO:=@Nat.le_max_left
def AP:=@Nat.le_max_right
end Go.Ab
namespace Go.Ab
set_option maxRecDepth 20000
open Go Go.RowKit
variable{i f N Z m n q p k:Nat}{l:qs}{j:qm}{o M:Oper}{D:Nat->Prop}{ops:qE}{S y:qA}{ih:zdc->Res}{E0 E' J C E O Y:aD}{H' H:Hp}{rs:List Rec}{G G0:Gh}{a:Act}{t:zdc}{w w' w0:World}{Q:Exit->Act->World->Prop}{x:AX}{P:Program}{L:qx}{v:AV}{vs:qw}{fn:Func}{r:Res}{b c:Code}{cfg:Cfg}
theorem D2{i:Nat}:∀{l o:qx},i∈vR o l↔i∈o\/i∈l
 |[],o=>by simp[vR]
 |x::xs,o=>by
  simp only[vR];split
  .rename_i h;have hx:x∈o:=fQ;rw[D2,fY];exact⟨fun h=>h.elim .inl (fun h=>.inr (.inr h)),fun h=>h.elim .inl (fun h=>h.elim (fun e=>.inl (by subst e;exact hx)) .inr)⟩
  .rw[D2,fY,fY];exact⟨fun h=>h.elim (fun h=>h.elim (fun e=>.inr (.inl e)) .inl) (fun h=>.inr (.inr h)),fun h=>h.elim (fun h=>.inl (.inr h)) (fun h=>h.elim (fun e=>.inl (.inl e)) .inr)⟩
def QO{l:qx}:i∈xW l↔i∈l:=by unfold xW;rw[D2];simp
theorem D3:∀(l:qs) (Z:List qx) (i:Nat),i<Z.length->(hZ l Z).getD i []=Z.getD i []
 |[],Z,i,_=>rfl
 |o::l,Z,i,h=>by
  simp only[hZ];rw[D3 l _ i ce];simp[List.getD,lY h]
theorem HV:∀(l:qs) (Z:List qx) (j:Nat) (o:Oper),l[j]?=some o ->
 ∃Y:List qx,Y.length=Z.length+j/\(∀i,i<Y.length->(hZ l Z).getD i []=Y.getD i [])/\(hZ l Z).getD (Z.length+j) []=xW (preds o++(preds o).flatMap fun i=>Y.getD i [])
 |[],_,_,_,h=>by simp at h
 |o::l,Z,0,o',h=>by
  simp at h;subst h;refine⟨Z,rfl,fun i F=>D3 _ _ i F,?_⟩;simp only[hZ,sZ];rw[D3 l _ Z.length aI];simp[List.getD]
 |o::l,Z,j+1,o',h=>by
  obtain⟨Y,V,m,A⟩:=HV l (Z++[xW (preds o++(preds o).flatMap fun i=>Z.getD i [])]) j o' fQ;simp only[lA,nL]at V A;refine⟨Y,aa,m,?_⟩;simp only[hZ];rw[show Z.length+(j+1)=Z.length+(0+1)+j by omega];exact A
def QP{j:Nat}(M:l[j]?=some o)(J:∀p∈preds o,p<j):
 i∈(hZ l []).getD j []↔i∈preds o\/∃p∈preds o,i∈(hZ l []).getD p []:=by
 obtain⟨Y,Z,m,A⟩:=HV l [] j o M;simp only[eg,bR]at Z A;rw[A,QO,nN,List.mem_flatMap];constructor
 .rintro(h|⟨p,C,z⟩)
  .exact .inl h
  .exact .inr ⟨p,C,by rw[m p (by rw[Z];exact J p C)];exact z⟩
 .rintro(h|⟨p,C,z⟩)
  .exact .inl h
  .exact .inr ⟨p,C,by rw[<-m p (by rw[Z];exact J p C)];exact z⟩
structure zdy (l:qs):Prop where
 lt:∀j o,l[j]?=some o->∀p∈preds o,p<j
 guard:∀j o g b,l[j]?=some o->o.guard=some (g,b)->g∈(hZ l []).getD j []
 clash:∀i j p q,i<j->l[i]?=some p->l[j]?=some q->Ab.clash l p q=true->i∈(hZ l []).getD j []
def QQ(h:lX l=true):zdy l:=by
 unfold lX at h;simp only[kj,nO]at h;have F:∀j o,l[j]?=some o->(∀p∈preds o,p<j)/\(∀g b,o.guard=some (g,b)->g∈(hZ l []).getD j [])/\∀i p,i<j->l[i]?=some p->Ab.clash l p o=true->i∈(hZ l []).getD j []:=fun j o M=>by
  have:=h j (eu.1 M).1;rw[M]at this;simp only[cN,kj,kR,nO]at this;obtain⟨⟨V,Y⟩,U⟩:=this;refine⟨V,fun g b C=>?_,fun i p Z hp hc=>?_⟩
  .rw[C]at Y;simpa using Y
  .have:=U i Z;rw[hp]at this;simp only[hc,pL,nP]at this;simpa using this
 exact⟨fun j o M=>(F j o M).1,fun j o g b M=>(F j o M).2.1 g b,fun i j p q m Z A=>(F j q A).2.2 i p m Z⟩
def D4(K:zdy l)(Y:∀j,D j->∀o,l[j]?=some o->∀p∈preds o,D p):
 ∀(j:Nat) o,l[j]?=some o->(∀p∈preds o,D p)->∀i∈(hZ l []).getD j [],D i:=by
 intro j;induction j using Nat.strongRecOn with
 |_ j ih=>
  intro o M hp i V;rcases(QP M (K.lt j o M)).1 V with h|⟨p,C,z⟩
  .exact hp i h
  .have Z:=K.lt j o M p C;have U:=(eu.1 M).1;have A:l[p]?=some (l[p]' aa):=bt aa;exact ih p Z _ A (fun q F=>Y p (hp p C) _ A q F) i z
def nQ:i∈je l↔∃o,l[i]?=some o/\lW o=true:=by
 unfold je;rw[ym,nO];constructor
 .rintro⟨j,m⟩;rw[bt j]at m;exact⟨_,bt j,m⟩
 .rintro⟨o,j,m⟩;exact⟨(eu.1 j).1,by rw[j];exact m⟩
def kU:i∈Region.ready .any ops S↔∃o,ops.toList[i]?=some o/\S.getD i true=false/\∀p∈preds o,S.getD p false=true:=by
 unfold Region.ready preds;rw[ym,nO,uH];constructor
 .rintro⟨j,m⟩;rw[oQ j]at m;simp only[cN,th,pI,bE,DX,ky]at m;refine⟨_,oQ j,m.1,fun p hp=>?_⟩;simp only[l3,ym]at hp;obtain⟨e,⟨Z,I⟩,rfl⟩:=hp;rcases m.2 e rL with h|h
  .rw[I]at h;simp at h
  .exact h
 .rintro⟨o,j,m,A⟩;have F:i<ops.size:=by
   rcases yn i ops.size with h|h
   .exact h
   .rw[DY h]at j;simp at j
  refine⟨F,?_⟩;rw[j];simp only[cN,th,pI,bE,DX,ky];refine⟨m,fun e C=>?_⟩;cases z:Region.binds .any e with
  |false=>exact .inl rfl
  |true=>exact .inr (A e.on (by simp only[l3,ym];exact⟨e,⟨by simpa using C,z⟩,rfl⟩))
theorem D5{l:qs}:∀(k s:Nat),s+k=l.length->∃m,s<=m/\m<=l.length/\(m=l.length\/m∈je l)/\∀j,s<=j->j<m->j∉je l
 |0,s,hs=>⟨s,aT _,aa,.inl aa,fun j Y Z=>aa⟩
 |k+1,s,hs=>by
  by_cases h:s∈je l
  .exact⟨s,aT _,aa,.inr h,fun j Y Z=>aa⟩
  .obtain⟨m,Y,Z,A,O⟩:=D5 (l:=l) k (s+1) aa;refine⟨m,aa,Z,A,fun j V S=>?_⟩;by_cases e:j=s
   .subst e;exact h
   .exact O j aa S
section
variable {P:Program} {B:Bs} {cfg:Cfg}
structure Ctx (P:Program) (cfg:Cfg) (ih:zdc->Res) (f N:Nat) (l:qs) (E0:aD) (bV:Hp) (E':aD) (H':Hp) (rs:List Rec):Prop where
 cR:zdy l
 len:rs.length=l.length
 eZ:∀(i:Nat) (r:Rec),rs[i]?=some r->∃o,l[i]?=some o/\AtD P cfg ih f N l o r (gw rs E' i) (gw rs E' (i+1)) (cB rs H' i) (cB rs H' (i+1))
 zeroE:gw rs E' 0=E0
 fE:cB rs H' 0=bV
 next:∀i,i<l.length->(cB rs H' i).next<=(cB rs H' (i+1)).next
 bS:∀(i:Nat) (r:Rec),rs[i]?=some r->r.did=true->∀m,(m∈je l\/m=l.length)->(∀e∈je l,e∈(hZ l []).getD i []->e<m)->(∀e∈je l,i∈(hZ l []).getD e []->m<=e) ->
  zdR P cfg r (cB rs H' m)=true
def QR{bV:Hp}(hc:lX l=true)(hr:jd P cfg ih f N l l E0 bV=.done E' H' rs)(K:ut P cfg (kN l) rs H'=true):
 Ctx P cfg ih f N l E0 bV E' H' rs:=by
 have z:=yk hr;obtain⟨z1,z2⟩:=DT z;have S:=DS z;unfold ut at K;simp only[cN,kj]at K;refine⟨QQ hc,S,fun i r F=>uJ z F,z1,z2,fun i F=>?_,fun i r F hd m hm h1 h2=>?_⟩
 .have hi':i<rs.length:=by omega
  have A:=bt hi';obtain⟨o,_,J⟩:=uJ z A;have h3:=yg (K.1 _ (fq A));rw[J.eH,J.eH']at h3;exact h3
 .obtain⟨o,ho,J⟩:=uJ z F;have O:Ak (hZ l []) (je l) i m=true:=by
   unfold Ak;simp only[th,fP,oR,cN,not_and];refine⟨fun e C I j=>?_,fun e C I hlt=>?_⟩
   .have:=h1 e C (by simpa using I);have:=yg j;omega
   .have:=h2 e C (by simpa using I);have:e<m:=by simpa [iH]using hlt
    omega
  have V:∀k,gJ o.op=k->(k=.read\/k=.make)->(i,m)∈kN l:=fun k Y hor=>by
   unfold kN;rw[List.mem_flatMap];refine⟨i,nO.2 (eu.1 ho).1,?_⟩;rw[ho];have U:(i,m)∈((je l++[l.length]).filter (Ak (hZ l []) (je l) i)).map fun m=>(i,m):=
    l3.2 ⟨m,ym.2 ⟨by simpa using hm,O⟩,rfl⟩
   rcases hor with rfl|rfl<;>simp only[Y]<;>exact U
  have Z:(i,m)∈kN l->zdR P cfg r (cB rs H' m)=true:=fun h=>by
   have:=K.2 _ h;simp only[F,hd,pL,nP]at this;exact this
  have M:r.o=o:=J.eo;cases Y:gJ o.op with
  |read=>exact Z (V _ Y (.inl rfl))
  |make=>exact Z (V _ Y (.inr rfl))
  |cR=>unfold zdR;rw[M,Y]
  |ei=>unfold zdR;rw[M,Y]
section
variable {ih:zdc -> Res} {f N:Nat} {ops:qE} {E0 E':aD} {bV H':Hp} {rs:List Rec} (cx:Ctx P cfg ih f N ops.toList E0 bV E' H' rs)
include cx
def Ctx.dK(M:ops.toList[i]?=some o):∃r,rs[i]?=some r/\AtD P cfg ih f N ops.toList o r (gw rs E' i) (gw rs E' (i+1)) (cB rs H' i) (cB rs H' (i+1)):=by
 have F:i<rs.length:=by rw[cx.len];exact(eu.1 M).1
 obtain⟨Z,j,m⟩:=cx.eZ i _ (bt F);rw[M]at j;simp only[aH]at j;subst j;exact⟨_,bt F,m⟩
theorem Ctx.gv:∀(d s:Nat),s+d<=ops.toList.length->(∀j,s<=j->j<s+d->j∉je ops.toList) ->
 (cB rs H' s).next<=(cB rs H' (s+d)).next/\∀r,r<(cB rs H' s).next->(cB rs H' (s+d)).get r=(cB rs H' s).get r
 |0,s,_,_=>⟨aT _,fun _ _=>rfl⟩
 |d+1,s,hs,hn=>by
  obtain⟨O,m⟩:=Ctx.gv d s aa (fun j A S=>hn j A aa);have z:s+d<ops.toList.length:=aa;obtain⟨r,hr,Z⟩:=cx.dK (bt z);have V:lW (ops.toList[s+d])=false:=by
   cases C:lW (ops.toList[s+d])with
   |false=>rfl
   |true=>exact(hn (s+d) aa aa (nQ.2 ⟨_,bt z,C⟩)).elim
  have Y:cB rs H' (s+d+1)=cB rs H' (s+d)\/∃o,cB rs H' (s+d+1)=(cB rs H' (s+d)).alloc o:=by
   cases hd:r.did with
   |true=>exact QN V (Z.fH hd)
   |false=>exact .inl (Z.no hd).2
  rw[show s+(d+1)=s+d+1 by omega];rcases Y with e|⟨o,e⟩
  .rw[e];exact⟨O,m⟩
  .rw[e];refine⟨ce,fun k U=>?_⟩;rw[aP,ad aa];exact m k U
theorem Ctx.bB:∀(d s:Nat),s+d<=ops.toList.length->(cB rs H' s).next<=(cB rs H' (s+d)).next
 |0,_,_=>aT _
 |d+1,s,hs=>dC (Ctx.bB d s aa) (by rw[show s+(d+1)=s+d+1 by omega];exact cx.next _ aa)
theorem Ctx.er(t:Nat):∀s,s<=ops.toList.length ->
 (∃(i:Nat) (r:Rec) (o:Oper),i<s/\rs[i]?=some r/\ops.toList[i]?=some o/\o.dst=some t/\(∀(j:Nat) (M:Oper),j<s->ops.toList[j]?=some M->M.dst=some t->j<=i)/\(gw rs E' s).at t=r.val) \/
 ((∀(j:Nat) (M:Oper),j<s->ops.toList[j]?=some M->M.dst≠some t)/\(gw rs E' s).at t=E0.at t)
 |0,_=>.inr ⟨fun j M U=>aa,by rw[cx.zeroE]⟩
 |s+1,hs=>by
  have Z:ops.toList[s]?=some (ops.toList[s]' aa):=bt aa;obtain⟨r,hr,K⟩:=cx.dK Z;have V:=K.put;have Y:=Ctx.er t s aa;by_cases hd:(ops.toList[s]' aa).dst=some t
  .refine .inl ⟨s,r,_,aa,hr,Z,hd,fun j M U _ _=>aa,?_⟩;rw[hd]at V;simp only[fo]at V;split at V
   .simp only[aH]at V;rw[<-V,vX,au rfl]
   .simp at V
  .have z:(gw rs E' (s+1)).at t=(gw rs E' s).at t:=by
    cases F:(ops.toList[s]' aa).dst with
    |none=>
     rw[F]at V;simp only[fo,aH]at V;rw[<-V]
    |some d=>
     rw[F]at V hd;simp only[fo]at V;split at V
     .simp only[aH]at V;rw[<-V,vX,ad (fun e=>hd mK)]
     .simp at V
   rw[z];rcases Y with⟨i,I,M,O,m,J,h4,h5,h6⟩|⟨O,m⟩
   .refine .inl ⟨i,I,M,aa,m,J,h4,fun j S U A C=>?_,h6⟩;by_cases e:j=s
    .subst e;rw[Z]at A;simp only[aH]at A;subst A;exact(hd C).elim
    .exact h5 j S aa A C
   .refine .inr ⟨fun j M U A=>?_,m⟩;by_cases e:j=s
    .subst e;rw[Z]at A;simp only[aH]at A;subst A;exact hd
    .exact O j M aa A
end
def fZ(S:qA)(j:Nat):Prop:=S.getD j false=true
def wh(rs:List Rec)(l:qs)(Z:aD)(D:Nat->Prop)(G:Gh)(a:Act):Prop:=∀t,
 (∃(i:Nat) (r:Rec) (o:Oper),D i/\rs[i]?=some r/\l[i]?=some o/\o.dst=some t/\(∀(j:Nat) (M:Oper),D j->l[j]?=some M->M.dst=some t->j<=i)/\VR G r.val (a.tmps.getD t undef)) \/
 ((∀(j:Nat) (M:Oper),D j->l[j]?=some M->M.dst≠some t)/\VR G (Z.at t) (a.tmps.getD t undef))
def wh.fd{bV:Hp}(cx:Ctx P cfg ih f N ops.toList J bV C H' rs)(hs:wh rs ops.toList J D G a){t s:Nat}
 (m:s<=ops.toList.length) (I:∀(j:Nat) (o:Oper),ops.toList[j]?=some o->o.dst=some t->(D j↔j<s)):VR G ((gw rs C s).at t) (a.tmps.getD t undef):=by
 rcases cx.er t s m with⟨i,r,o,S,O,A,K,h5,h6⟩|⟨S,O⟩
 .rw[h6];have U:=(I i o A K).2 S;rcases hs t with⟨z,r',M,Y,Z,V,F,g5,g6⟩|⟨Y,_⟩
  .have e1:=h5 z M ((I z M V F).1 Y) V F;have e2:=g5 i o U A K;have:z=i:=aa;subst this;rw[O]at Z;simp only[aH]at Z;subst Z;exact g6
  .exact(Y i o U A K).elim
 .rw[O];rcases hs t with⟨z,r',M,Y,Z,V,F,g5,g6⟩|⟨_,Z⟩
  .exact(S z M ((I z M V F).1 Y) V F).elim
  .exact Z
structure InvD (rs:List Rec) (l:qs) (N:Nat) (B:Bs) (nx0:Nat) (E0:aD) (H':Hp) (G0:Gh) (w0:World) (listed:qA) (a:Act) (w:World) (m:Nat) (G:Gh):Prop where
 size:listed.size=l.length
 cM:∀j,fZ listed j->∀o,l[j]?=some o->∀p∈preds o,fZ listed p
 le:m<=l.length
 ei:m=l.length\/m∈je l
 cy:¬fZ listed m
 fC:∀e∈je l,e<m->fZ listed e
 step:Step B nx0 G0 w0 (cB rs H' m) w G
 dn:∀r p,G.β r=some p->r<nx0\/∃j,fZ listed j/\j<l.length/\(cB rs H' j).next<=r/\r<(cB rs H' (j+1)).next
 bM:wh rs l E0 (fZ listed) G a
 frame:a.tmps.size=N
 defers:a.defers=[]
def fZ.set(F:i<S.size)(j:Nat):fZ (S.setIfInBounds i true) j↔j=i\/fZ S j:=by
 unfold fZ;rw[ji,ji,uz];by_cases e:i=j
 .subst e;simp[F]
 .rw[ad e];constructor
  .exact fun h=>.inr h
  .rintro(h|h)
   .exact(e h.symm).elim
   .exact h
def lD:=@fZ.set
theorem wh.put{rs:List Rec}{l:qs}{E0:aD}{S:qA}{G m:Gh}{a:Act}(hs:wh rs l E0 (fZ S) G a)(he:Ext G m){i:Nat}(F:i<S.size){o:Oper}(V:l[i]?=some o){r:Rec}(hr:rs[i]?=some r)
 {v:Value} (hv:VR m r.val v) (hd:∀d,o.dst=some d->d<a.tmps.size/\∀(j:Nat) (M:Oper),fZ S j->l[j]?=some M->M.dst=some d->j<=i):wh rs l E0 (fZ (S.setIfInBounds i true)) m (a.put o.dst v):=by
 intro t;by_cases U:o.dst=some t
 .obtain⟨h1,h2⟩:=hd t U;refine .inl ⟨i,r,o,(lD F i).2 (.inl rfl),hr,V,U,fun j M Z A C=>?_,?_⟩
  .rcases(lD F j).1 Z with e|Z
   .omega
   .exact h2 j M Z A C
  .rw[U];simp only[Act.put];simpa [Array.getD,h1]using hv
 .have z:(a.put o.dst v).tmps.getD t undef=a.tmps.getD t undef:=by
   cases Y:o.dst with
   |none=>rfl
   |some d=>
    rw[Y]at U;have I:d≠t:=fun e=>U mK;simp only[Act.put,ji,uz];rw[ad I]
  rw[z];rcases hs t with⟨i',r',M,K,J,g3,g4,g5,g6⟩|⟨K,J⟩
  .refine .inl ⟨i',r',M,(lD F i').2 (.inr K),J,g3,g4,fun j O Z A C=>?_,g6.mono he⟩;rcases(lD F j).1 Z with e|Z
   .subst e;rw[V]at A;simp only[aH]at A;subst A;exact(U C).elim
   .exact g5 j O Z A C
  .refine .inr ⟨fun j M Z A C=>?_,J.mono he⟩;rcases(lD F j).1 Z with e|Z
   .subst e;rw[V]at A;simp only[aH]at A;subst A;exact(U C).elim
   .exact K j M Z A C
def D6{Z:qs}{t:Nat}:t∈sU Z o↔o.dst=some t\/(Operand.tmp t)∈o.op.operands.toList\/∃g b M,o.guard=some (g,b)/\Z[g]?=some M/\M.dst=some t:=by
 unfold sU G7;simp only[nN,Option.mem_toList,List.mem_filterMap];constructor
 .rintro((h|⟨x,hx,h⟩)|h)
  .exact .inl h
  .cases x<;>simp at h;subst h;exact .inr (.inl hx)
  .cases C:o.guard with
   |none=>rw[C]at h;simp at h
   |some p=>
    obtain⟨g,b⟩:=p;rw[C]at h;simp only[Option.mem_toList,dI]at h;obtain⟨M,j,m⟩:=h;exact .inr (.inr ⟨g,b,M,rfl,j,m⟩)
 .rintro(h|h|⟨g,b,M,j,m,A⟩)
  .exact .inl (.inl h)
  .exact .inl (.inr ⟨_,h,rfl⟩)
  .refine .inr ?_;rw[j];simp[m,A]
def HW{o:qs}{p q:Oper}{d:Nat}(h:(p.dst=some d/\d∈sU o q)\/(q.dst=some d/\d∈sU o p)):Ab.clash o p q=true:=by
 unfold Ab.clash;rcases h with⟨j,m⟩|⟨j,m⟩
 .rw[j];simp[m]
 .rw[j];simp[m]
def Step.en{U:Hp}{m V:Gh}{Y:World}(h:Step B Z G w H' w' m)(k:Step B Z m w' U Y V):Step B Z G w U Y V:=
 ⟨k.r,h.ext.trans k.ext,h.fr.trans k.fr h.new,h.new.trans k.new h.fr.size,fun r p hr=>by
  rcases k.dn r p hr with j|j
  .exact h.dn r p j
  .exact .inr j,k.mono,fun b o v S=>by
  rcases k.ef b o v S with j|j
  .exact h.ef b o v j
  .exact .inr j⟩
def Step.dI{j:Nat}{m:Gh}(h:Step B Z G w H' w' m)(I:j<=Z):Step B j G w H' w' m:=
 ⟨h.r,h.ext,h.fr,h.new,fun r p hr=>(h.dn r p hr).imp id (fun e=>dC I e),dC I h.mono,h.ef⟩
def Snd.ay(P:Program)(B:Bs):Snd P B 0 (fun _=>.ay):=
 ⟨fun _ _ _ _ _ h=>lC,fun _ _ _ _ _ _ _ _ h=>lC,fun _ _ _ _ _ _ _ _ h=>lC⟩
def QS(fit:Fit P)(hih:Snd P B n ih){nx0:Nat}{bV:Hp}(cx:Ctx P B.cl ih f N ops.toList E0 bV E' H' rs)(hnx:bV.next=nx0)
 {Z:qA} (O:InvD rs ops.toList N B nx0 E0 H' G0 w0 Z a w m G)  (hi:i∈Region.ready .any ops Z) {K:Act->World->Prop}
 (hK:∀a' w' m' G',InvD rs ops.toList N B nx0 E0 H' G0 w0 (Z.setIfInBounds i true) a' w' m' G'->K a' w'):wpOp P ops Q i K a w:=by
 obtain⟨o,ho,hun,hpr⟩:=kU.1 hi;obtain⟨r,hr,ha⟩:=cx.dK ho;have hil:i<ops.toList.length:=(eu.1 ho).1;have V:i<Z.size:=by rw[O.size];exact hil
 have hnot:¬fZ Z i:=fun hd=>by
  unfold fZ at hd;rw[ji,oQ V]at hd;rw[ji,oQ V]at hun;simp only[bE]at hd hun;rw[hd]at hun;simp at hun
 -- what comes before i is done;what comes behind it is not
 have M:∀j∈(hZ ops.toList []).getD i [],fZ Z j:=D4 cx.cR O.cM i o ho hpr;have A:∀j,fZ Z j->∀oj,ops.toList[j]?=some oj->i∉(hZ ops.toList []).getD j []:=fun j hj oj C hm=>
  hnot (D4 cx.cR O.cM j oj C (O.cM j hj oj C) i hm)
 -- the writers of the slots that i names
 have hagree:∀t∈sU ops.toList o,∀(j:Nat) (oj:Oper),ops.toList[j]?=some oj->oj.dst=some t->(fZ Z j↔j<i):=fun t ht j oj C hjd=>by
  constructor
  .intro hj;rcases AN j i with h|h|h
   .exact h
   .subst h;exact(hnot hj).elim
   .exact(A j hj oj C (cx.cR.clash i j o oj h ho C (HW (.inr ⟨hjd,ht⟩)))).elim
  .intro hj;exact M j (cx.cR.clash j i oj o hj C ho (HW (.inl ⟨hjd,ht⟩)))
 have hslot:∀t∈sU ops.toList o,VR G ((gw rs E' i).at t) (a.tmps.getD t undef):=fun t ht=>O.bM.fd cx (Nat.le_of_lt hil) (hagree t ht);have F:uI G (gw rs E' i) a o.op.operands:=fun x hx c hc=>by
  cases x with
  |tmp t=>simp only[aV,aH]at hc;subst hc;exact hslot t (D6.2 (.inr (.inl AE)))
  |const v=>exact vY hc
  |global g=>simp[aV]at hc
  |func f=>simp only[aV,aH]at hc;subst hc;exact .bl (vs:=[]) rfl aI
 have hwant:=HP (G:=G) (E:=gw rs E' i) (a:=a) (ops:=ops) (o:=o) (fun g b d hg hd=>by
  simp only[dI]at hd;obtain⟨o',h1,h2⟩:=hd;exact hslot d (D6.2 (.inr (.inr ⟨g,b,o',hg,by rw[uH];exact h1,h2⟩))))
 have hdst:∀d,o.dst=some d->d<a.tmps.size/\∀(j:Nat) (o':Oper),fZ Z j->ops.toList[j]?=some o'->o'.dst=some d->j<=i:=fun d hd=>by
  refine⟨?_,fun j o' hj hjo hjd=>Nat.le_of_lt ((hagree d (D6.2 (.inl hd)) j o' hjo hjd).1 hj)⟩;have hp:=ha.put;rw[hd]at hp;simp only[fo]at hp;split at hp
  .rename_i hb;rw[O.frame];simpa [iH]using hb
  .simp at hp
 have hclosed':∀j,fZ (Z.setIfInBounds i true) j->∀oj,ops.toList[j]?=some oj->∀p∈preds oj,fZ (Z.setIfInBounds i true) p:=fun j hj oj C p hp=>by
  rcases(lD V j).1 hj with rfl|hj
  .rw[ho]at C;simp only[aH]at C;subst C;exact(lD V p).2 (.inr (hpr p hp))
  .exact(lD V p).2 (.inr (O.cM j hj oj C p hp))
 -- an act comes up in its turn
 have hturn:lW o=true->i=m:=fun hact=>by
  have U:i∈je ops.toList:=nQ.2 ⟨o,ho,hact⟩;rcases AN i m with h|h|h
  .exact(hnot (O.fC i U h)).elim
  .exact h
  .rcases O.ei with e|e
   .omega
   .obtain⟨om,I,Y⟩:=nQ.1 e;exact(O.cy (M m (cx.cR.clash m i om o h I ho (by unfold Ab.clash;simp[hact,Y])))).elim
 -- how the invariant goes on
 have hfin:∀(v:Value) (w':World) (G':Gh) (X:Hp),VR G' r.val v->Step B nx0 G w X w' G' ->
  (∀k p,G'.β k=some p->G.β k=some p\/((cB rs H' i).next<=k/\k<(cB rs H' (i+1)).next)) ->
  ((i≠m/\X=cB rs H' m)\/(i=m/\X=cB rs H' (i+1)))->K (a.put o.dst v) w':=fun v w' G' X hv z hlow hX=>by
  have hslots':=O.bM.put z.ext V ho hr hv hdst;have hlow':∀k p,G'.β k=some p->k<nx0\/∃j,fZ (Z.setIfInBounds i true) j/\j<ops.toList.length/\(cB rs H' j).next<=k/\k<(cB rs H' (j+1)).next:=fun k p hk=>by
   rcases hlow k p hk with h|h
   .rcases O.dn k p h with h|⟨j,h1,h2⟩
    .exact .inl h
    .exact .inr ⟨j,(lD V j).2 (.inr h1),h2⟩
   .exact .inr ⟨i,(lD V i).2 (.inl rfl),hil,h⟩
  have hframe':(a.put o.dst v).tmps.size=N:=by rw[<-O.frame];cases o.dst<;>simp[Act.put]
  have hdef':(a.put o.dst v).defers=[]:=by have:=O.defers;cases o.dst<;>exact this
  rcases hX with⟨hne,rfl⟩|⟨rfl,rfl⟩
  .refine hK _ _ m G' ⟨by simpa using O.size,hclosed',O.le,O.ei,fun hd=>?_,fun e he hlt=>(lD V e).2 (.inr (O.fC e he hlt)),O.step.en z,hlow',hslots',hframe',hdef'⟩;rcases(lD V m).1 hd with h|h
   .exact hne h.symm
   .exact O.cy h
  ·-- the next act
   obtain⟨m',q1,q2,q3,q4⟩:=D5 (l:=ops.toList) (ops.toList.length-(i+1)) (i+1) aa;obtain⟨g1,g2⟩:=cx.gv (m'-(i+1)) (i+1) aa (fun j h1 h2=>q4 j h1 aa);rw[show i+1+(m'-(i+1))=m' by omega]at g1 g2;have hst2:Step B nx0 G0 w0 (cB rs H' m') w' G':=by
    have:=O.step.en z;exact⟨this.r.more g1 g2,this.ext,this.fr,this.new,this.dn,dC this.mono g1,this.ef⟩
   have hact:∀e∈je ops.toList,e<m'->fZ (Z.setIfInBounds i true) e:=fun e he hlt=>by
    by_cases h:e<i
    .exact(lD V e).2 (.inr (O.fC e he h))
    .by_cases h2:e=i
     .exact(lD V e).2 (.inl h2)
     .exact(q4 e aa hlt he).elim
   refine hK _ _ m' G' ⟨by simpa using O.size,hclosed',q2,q3,fun hd=>?_,hact,hst2,hlow',hslots',hframe',hdef'⟩;rcases(lD V m').1 hd with h|h
   .omega
   ·-- m' is done though i,an act before it,was not
    have hm'l:m'<ops.toList.length:=by
     rcases yn m' ops.toList.length with h3|h3
     .exact h3
     .unfold fZ at h;rw[ji,DY (by rw[O.size];exact h3)]at h;simp at h
    rcases q3 with e|e
    .omega
    .obtain⟨om,I,Y⟩:=nQ.1 e;rcases O.ei with e2|e2
     .omega
     .obtain⟨oi,hoi,hacti⟩:=nQ.1 e2;rw[ho]at hoi;simp only[aH]at hoi;subst hoi;exact A m' h om I (cx.cR.clash i m' o om aa ho I (by unfold Ab.clash;simp[hacti,Y]))
 -- the range of m for the looks
 have hlo:∀e∈je ops.toList,e∈(hZ ops.toList []).getD i []->e<m:=fun e he hA=>by
  have hd:=M e hA;rcases yn e m with h|h
  .exact h
  .exfalso;rcases O.ei with e2|e2
   .have:=(nQ.1 he);obtain⟨oe,hoe,_⟩:=this;have:=(eu.1 hoe).1;omega
   .by_cases e3:e=m
    .subst e3;exact O.cy hd
    .obtain⟨om,I,Y⟩:=nQ.1 e2;obtain⟨oe,hoe,hacte⟩:=nQ.1 he;exact O.cy (D4 cx.cR O.cM e oe hoe (O.cM e hd oe hoe) m (cx.cR.clash m e om oe aa I hoe (by unfold Ab.clash;simp[Y,hacte])))
 have hhi:∀e∈je ops.toList,i∈(hZ ops.toList []).getD e []->m<=e:=fun e he hA=>by
  rcases yn e m with h|h
  .obtain⟨oe,hoe,_⟩:=nQ.1 he;exact(A e (O.fC e he h) oe hoe hA).elim
  .exact h
 unfold wpOp;rw[show ops[i]?=some o by rw[<-uH];exact ho];simp only[];have hnxm:nx0<=(cB rs H' m).next:=O.step.mono
 have hsame:Step B nx0 G w (cB rs H' m) w G:=(jD O.step.r).dI hnxm;have hstill:∀(v:Value) (w':World) (G':Gh),i≠m->VR G' r.val v->Step B (cB rs H' m).next G w (cB rs H' m) w' G'->K (a.put o.dst v) w':=fun v w' G' U hv z=>
  hfin v w' G' _ hv (z.dI hnxm) (fun k p hk=>by
   rcases z.dn k p hk with h|h
   .exact .inl h
   .have:=z.r.di k p hk;omega) (.inl ⟨U,rfl⟩)
 have hnotact:lW o=false->i≠m:=fun hna e=>by
  rcases O.ei with e2|e2
  .omega
  .obtain⟨om,I,Y⟩:=nQ.1 e2;rw[<-e,ho]at I;simp only[aH]at I;subst I;rw[hna]at Y;simp at Y
 cases hd:r.did with
 |false=>
  have hw:Region.wanted o (yielded ops a.tmps)=false:=by rw[<-hwant,ha.f6];exact hd
  rw[hw];simp only[dg,bH];obtain⟨hval,hheap⟩:=ha.no hd;by_cases U:i=m
  .subst U;exact hfin undef w G (cB rs H' (i+1)) (by rw[hval];exact yb G) (by rw[hheap];exact hsame) (fun k p hk=>.inl hk) (.inr ⟨rfl,rfl⟩)
  .exact hfin undef w G _ (by rw[hval];exact yb G) hsame (fun k p hk=>.inl hk) (.inl ⟨U,rfl⟩)
 |true=>
  have hw:Region.wanted o (yielded ops a.tmps)=true:=by rw[<-hwant,ha.f6];exact hd
  rw[hw];simp only[bw];have hop:=ha.fH hd;refine .inl ?_;cases S:gJ o.op with
  |ei=>
   have U:=hturn (by simp[lW,S]);subst U;refine AM fit hih O.step.r F hop fun v w' G' hv z=>?_;refine hfin v w' G' _ hv (z.dI hnxm) (fun k p hk=>?_) (.inr ⟨rfl,rfl⟩);rcases z.dn k p hk with h|h
   .exact .inl h
   .exact .inr ⟨h,z.r.di k p hk⟩
  |cR=>
   have hnc:∀c,o.op≠.call c:=fun c e=>by
    rw[e]at S;simp only[gJ]at S;split at S<;>simp at S
   have U:=hnotact (by simp[lW,S]);have hX:=(DU (P:=P) (by simp[rT,S]) ((uK hnc).1 hop)).2 (cB rs H' m);have hop':ej P B.cl ih f (gw rs E' i) (cB rs H' m) o.op=.val r.val (cB rs H' m):=(uK hnc).2 hX;exact AM fit hih O.step.r F hop' fun v w' G' hv z=>hstill v w' G' U hv z
  |read=>
   have U:=hnotact (by simp[lW,S]);have J:=cx.bS i r hr hd m O.ei.symm hlo hhi;unfold zdR at J;rw[ha.eo,S,ha.eE]at J;simp only[]at J;split at J
   .rename_i v1 H1 hop';have hv1:=AV.aM J;subst hv1;have hH1:=DV (by simp[pK,S]) hop';subst hH1;exact AM fit (Snd.ay P B) O.step.r F hop' fun v w' G' hv z=>hstill v w' G' U hv z
   .simp at J
  |make=>
   have U:=hnotact (by simp[lW,S]);have hnc:∀c,o.op≠.call c:=fun c e=>by
    rw[e]at S;simp only[gJ]at S;split at S<;>simp at S
   have hopA:=(uK hnc).1 hop;obtain⟨blk,obj,ext,v,hH1,hrun,hmade,hv⟩:=QG (P:=P) (w:=w) (by simp[sV,S]) F hopA;have J:=cx.bS i r hr hd m O.ei.symm hlo hhi;unfold zdR at J;rw[ha.eo,S,ha.eH,ha.eH']at J;simp only[]at J;have hnext1:(cB rs H' (i+1)).next=(cB rs H' i).next+1:=by rw[hH1];rfl
   have hgetm:(cB rs H' m).get (cB rs H' i).next=some blk:=by
    split at J
    .rename_i b b' h1 h2;rw[HB.aM J]at h1;rw[hH1,aP,au rfl]at h2;simp only[aH]at h2;subst h2;exact h1
    .simp at J
   have hlt:i<m:=by
    rcases AN i m with h|h|h
    .exact h
    .exact(U h).elim
    .exfalso;rcases O.ei with e2|e2
     .omega
     .obtain⟨om,I,Y⟩:=nQ.1 e2;exact O.cy (M m (cx.cR.clash m i om o h I ho (by unfold Ab.clash;simp[Y,sV,S])))
   have hr0:(cB rs H' i).next<(cB rs H' m).next:=by
    have:=cx.bB (m-(i+1)) (i+1) (by have:=O.le;omega);rw[show i+1+(m-(i+1))=m by omega]at this;omega
   have hnx0:nx0<=(cB rs H' i).next:=by
    have:=cx.bB i 0 aa;rw[bR,cx.fE,hnx]at this;exact this
   have hno:∀q,G.β (cB rs H' i).next=some q->False:=fun q hq=>by
    rcases O.dn _ q hq with h|⟨j,h1,h2,h3,h4⟩
    .omega
    .rcases AN j i with h|h|h
     .have:=cx.bB (i-(j+1)) (j+1) aa;rw[show j+1+(i-(j+1))=i by omega]at this;omega
     .subst h;exact hnot h1
     .have:=cx.bB (j-(i+1)) (i+1) aa;rw[show i+1+(j-(i+1))=j by omega]at this;omega
   have z:=Hg O.step.r hno hr0 hgetm hnx0 hmade;unfold Oper.wp;rw[hrun];refine hfin v _ _ _ (hv _ (rS _ _ _)) z (fun k p hk=>?_) (.inl ⟨U,rfl⟩);simp only[Gh.add]at hk;split at hk
   .rename_i e;exact .inr ⟨aa,aa⟩
   .exact .inl hk
def countP_set(F:i<S.size)(m:S[i]=false):(S.setIfInBounds i true).toList.countP (·=false)+1=S.toList.countP (·=false):=by
 rw[G9,List.countP_set oL];have j:S.toList[i]' oL=false:=by simpa using m
 have Z:0<S.toList.countP (·=false):=List.countP_pos_iff.2 ⟨false,by rw[<-j];exact ek _,aI⟩;rw[j];simp only[oM,bw,x8,jC,dg,bH];omega
def QT(fit:Fit P)(hih:Snd P B n ih){bV:Hp}(cx:Ctx P B.cl ih f N ops.toList E0 bV C H' rs)(hnx:bV.next=Z)
 (hE':gw rs C ops.toList.length=C) (hH':cB rs H' ops.toList.length=H')  (hQ:∀e a w,ku B N Z G0 w0 .normal C H' e a w->Q e a w) :
 ∀(J:Nat) (S:qA) (a:Act) (w:World) (m:Nat) (G:Gh),InvD rs ops.toList N B Z E0 H' G0 w0 S a w m G->S.toList.countP (·=false)<=J->wpAny P .any ops Q J S a w:=by
 -- at the end all is done
 have Y:∀(S:qA) (a:Act) (w:World) (m:Nat) (G:Gh),InvD rs ops.toList N B Z E0 H' G0 w0 S a w m G->Region.ready .any ops S=[]->Q .normal a w:=fun S a w m G O V=>by
  have I:∀j,j<ops.toList.length->fZ S j:=fun j=>by
   induction j using Nat.strongRecOn with
   |_ j ihj=>
    intro hj;have M:=bt hj;have U:j<S.size:=by rw[O.size];exact hj
    cases hl:S[j]with
    |true=>
     unfold fZ;rw[ji,oQ U,hl];rfl
    |false=>
     exfalso;have:j∈Region.ready .any ops S:=kU.2 ⟨_,M,by rw[ji,oQ U,hl];rfl,fun p hp=>by
      have hlt:=cx.cR.lt j _ M p hp;exact ihj p hlt aa⟩
     rw[V]at this;simp at this
  have hm:m=ops.toList.length:=by
   rcases O.ei with e|e
   .exact e
   .obtain⟨om,hom,_⟩:=nQ.1 e;exact(O.cy (I m (eu.1 hom).1)).elim
  subst hm;have K:=O.step;rw[hH']at K;refine hQ _ _ _ ⟨rfl,G,⟨O.frame,fun t=>?_⟩,K,O.defers⟩;have:=O.bM.fd cx (t:=t) (aT _) (fun j oj hoj _=>⟨fun _=>(eu.1 hoj).1,fun h=>I j h⟩);rw[hE']at this;exact this
 intro J;induction J with
 |zero=>
  intro S a w m G O hc;have V:Region.ready .any ops S=[]:=by
   apply yo.2;intro i A;obtain⟨o,M,F,_⟩:=kU.1 A;have z:i<S.size:=HS;rw[ji,oQ z]at F;have:=countP_set z oL;omega
  exact⟨V,Y S a w m G O V⟩
 |succ J ihf=>
  intro S a w m G O hc;refine⟨fun V=>Y S a w m G O V,fun i A=>?_⟩;obtain⟨o,M,F,_⟩:=kU.1 A;have z:i<S.size:=HS;rw[ji,oQ z]at F;have hcs:=countP_set z oL;exact QS fit hih cx hnx O A (fun a' w' m' G' hI'=>ihf _ a' w' m' G' hI' aa)
def HX(fit:Fit P)(S:Snd P B n ih){I:aD}(hr:jf P B.cl ih f N ops.toList E H=.done x I H')
 (h:R B H w G) (F:TR N G E a) (hd:a.defers=[])  (hQ:∀e C w',ku B N H.next G w x I H' e C w'->Q e C w'):wpAny P .any ops Q ops.size (Array.replicate ops.size false) a {w with drawn:=w.drawn+1}:=by
 unfold jf at hr;split at hr
 .rename_i o;split at hr
  .rename_i E1 H1 rs Z;split at hr
   .rename_i J;simp only[Res.done.injEq]at hr;obtain⟨rfl,rfl,rfl⟩:=hr;have cx:=QR o Z J;have hlen:=cx.len;have O:gw rs E1 ops.toList.length=E1:=by unfold gw;rw[oS aa]
    have M:cB rs H1 ops.toList.length=H1:=by unfold cB;rw[oS aa]
    obtain⟨m,q1,q2,q3,q4⟩:=D5 (l:=ops.toList) ops.toList.length 0 aa;obtain⟨U,g2⟩:=cx.gv m 0 aa (fun j _ A=>q4 j aa aa);rw[bR,cx.fE]at U g2;have K:R B H {w with drawn:=w.drawn+1} G:=h.heap rfl;have Y:Step B H.next G w (cB rs H1 m) {w with drawn:=w.drawn+1} G:=
     ⟨K.more U g2,vW _,⟨rfl,rfl,rfl,aT _,fun _ _ _=>rfl⟩,uD _ _,fun _ _ h=>.inl h,U,fun _ _ _ h=>.inl h⟩
    have z:∀j,¬fZ (Array.replicate ops.size false) j:=fun j A=>by
     unfold fZ at A;rw[ji,HU]at A;split at A<;>simp at A
    refine QT fit S cx rfl O M hQ ops.size _ a _ m G
     ⟨aI,fun j A=>(z j A).elim,q2,q3,z m,fun e he V=>(q4 e (dx _) V he).elim,Y,fun r p hr=>.inl (h.di r p hr),fun t=>.inr ⟨fun j o' A=>(z j A).elim,F.bM t⟩,F.size,hd⟩ ?_
    exact dC List.countP_le_length aI
   .simp at hr
  .simp at hr
 .simp at hr
end
def kV(ops:qE):qx->qA->Prop
 |[],listed=>Region.ready .any ops listed=[]
 |i::L,listed=>i∈Region.ready .any ops listed/\kV ops L (listed.setIfInBounds i true)
theorem HY{ops:qE}:∀(J t:Nat) (S:qA),S.size=ops.size->S.toList.countP (·=false)<=J->kV ops (Region.linearise.go .any ops J t S []) S
 |0,t,S,hs,hc=>by
  show Region.ready .any ops S=[];apply yo.2;intro i Z;obtain⟨o,M,F,_⟩:=kU.1 Z;have z:i<S.size:=HT;rw[ji,oQ z]at F;have:=countP_set z oL;omega
 |J+1,t,S,hs,hc=>by
  simp only[Region.linearise.go];change kV ops (match (Region.ready .any ops S)[t%(Region.ready .any ops S).length]? with
   |some i=>Region.linearise.go .any ops J (t/(Region.ready .any ops S).length) (S.setIfInBounds i true) [i]
   |none=>[].reverse) S
  cases Z:(Region.ready .any ops S)[t%(Region.ready .any ops S).length]? with
  |none=>
   show Region.ready .any ops S=[];cases hr:Region.ready .any ops S with
   |nil=>rfl
   |cons x U=>
    rw[hr]at Z;have Y:t%(x::U).length<(x::U).length:=Nat.mod_lt _ aI;simp at Z;simp at Y;omega
  |some i=>
   simp only[];rw[linearise_go_acc,List.reverse_singleton,DZ];have V:=fq Z;refine⟨V,HY J _ _ (by simpa using hs) ?_⟩;obtain⟨o,M,F,_⟩:=kU.1 V;have z:i<S.size:=HT;rw[ji,oQ z]at F;have:=countP_set z oL;omega
section
variable {P:Program} {Q:Exit -> Act -> World -> Prop}
theorem D7{ops:qE}:∀(L:qx) (J:Nat) (S:qA) (a:Act) (w:World),wpAny P .any ops Q J S a w->kV ops L S->wpOps P ops Q L a w
 |[],0,S,a,w,h,_=>h.2
 |[],J+1,S,a,w,h,hv=>h.1 hv
 |i::L,0,S,a,w,h,hv=>by
  have j:=hv.1;rw[h.1]at j;simp at j
 |i::L,J+1,S,a,w,h,hv=>by
  rw[wpOps_cons];exact wpOp_mono (fun a w V=>D7 L J _ a w V hv.2) (h.2 i hv.1)
def QU{id:Nat}(M:P.follows .mixedOrders=true)
 (h:∀L,kV ops L (Array.replicate ops.size false)->wpOps P ops Q L a {w with drawn:=w.drawn+1}):(Code.region id ops true).wp P Q a w:=
 wp_region_draw fun t=>by
  simp only[Region.schedule,M,wd,bw];exact h _ (HY ops.size t _ aI (dC List.countP_le_length aI))
theorem D8{ops ops':qE}{φ:Nat->Nat}:∀(L:qx) (a:Act) (w:World),
 (∀i∈L,∃o M,ops[i]?=some o/\ops'[φ i]?=some M/\(∃z A,M={o with after:=z,guard:=A})/\∀a:Act,Region.wanted M (yielded ops' a.tmps)=Region.wanted o (yielded ops a.tmps)) ->
 wpOps P ops' Q (L.map φ) a w->wpOps P ops Q L a w
 |[],_,_,_,h=>h
 |i::L,a,w,hr,h=>by
  rw[el,wpOps_cons]at h;rw[wpOps_cons];obtain⟨o,M,Y,m,⟨z,A,V⟩,O⟩:=hr i gW;have C:∀a w,wpOps P ops' Q (L.map φ) a w->wpOps P ops Q L a w:=fun a w=>D8 L a w (fun j Z=>hr j (jE _ Z));have J:=wpOp_mono C h;unfold wpOp at J⊢;rw[m]at J;rw[Y];simp only[]at J⊢;rw[O a]at J;subst V;exact J
end
def AQ(q p:Nat)(l:qs):(eC q p l).length=l.length:=by
 unfold eC;split<;>simp
theorem yr(h:l[i]?=some o):
 ∃M,(eC q p l)[i]?=some M/\(∃z,M={o with after:=z})/\(i≠q->M=o)/\∀j,j∈preds M↔j∈preds o\/(i=q/\j=p):=by
 unfold eC;have F:=(eu.1 h).1;by_cases e:i=q
 .subst e;rw[h];refine⟨_,Aq F,⟨_,rfl⟩,fun I=>(I rfl).elim,fun j=>?_⟩;unfold preds;have:(o.after.push {on:=p,ground:=.data}).toList=o.after.toList++[{on:=p,ground:=.data}]:=aI;rw[this,List.filter_append,kT,nN];have m:(List.filter (Region.binds .any) [({on:=p,ground:=.data}:Edge)])=[{on:=p,ground:=.data}]:=rfl;rw[m];simp
 .have hx:∀Z,(l.set q Z)[i]?=some o:=fun Z=>by rw[D0 (fun h=>e h.symm)];exact h
  split
  .exact⟨o,hx _,⟨o.after,rfl⟩,fun _=>rfl,fun j=>⟨.inl,fun h=>h.elim id (fun h=>(e h.1).elim)⟩⟩
  .exact⟨o,h,⟨o.after,rfl⟩,fun _=>rfl,fun j=>⟨.inl,fun h=>h.elim id (fun h=>(e h.1).elim)⟩⟩
def HZ(h:(eC q p l)[i]?=some M):∃o,l[i]?=some o:=by
 have:=(eu.1 h).1;rw[AQ]at this;exact⟨_,bt this⟩
theorem QV(j:Nat):((eC q p l)[j]?).bind (·.dst)=(l[j]?).bind (·.dst):=by
 cases h:l[j]? with
 |none=>
  rw[oS (by rw[AQ];exact List.getElem?_eq_none_iff.1 h)]
 |some o=>
  obtain⟨M,Z,⟨z,rfl⟩,_⟩:=yr (q:=q) (p:=p) h;rw[Z];rfl
def H0(h:i∈Region.ready .any (eC q p l).toArray S):i∈Region.ready .any l.toArray S:=by
 obtain⟨U,Z,m,V⟩:=kU.1 h;simp only[]at Z;obtain⟨o,M⟩:=HZ Z;obtain⟨O,Y,_,_,F⟩:=yr (q:=q) (p:=p) M;rw[Z]at Y;simp only[aH]at Y;subst Y;exact kU.2 ⟨o,M,m,fun j A=>V j ((F j).2 (.inl A))⟩
def yu(h:i∈Region.ready .any l.toArray S)(J:i=q->S.getD p false=true):i∈Region.ready .any (eC q p l).toArray S:=by
 obtain⟨o,Z,m,Y⟩:=kU.1 h;simp only[]at Z;obtain⟨M,V,_,_,F⟩:=yr (q:=q) (p:=p) Z;refine kU.2 ⟨M,V,m,fun j A=>?_⟩;rcases(F j).1 A with h|⟨U,rfl⟩
 .exact Y j h
 .exact J U
def QW(h:S.getD p false=true):(S.setIfInBounds i true).getD p false=true:=by
 simp only[ji,uz]at *;split
 .split
  .rfl
  .rename_i j m;subst j;rw[DY aa]at h;simp at h
 .exact h
theorem D9{q p:Nat}{l:qs}:∀{L:qx}{S:qA},S.getD p false=true->kV l.toArray L S->kV (eC q p l).toArray L S
 |[],S,_,hv=>by
  show Region.ready .any (eC q p l).toArray S=[];apply yo.2;intro i F;have:=H0 F;rw[show Region.ready .any l.toArray S=[]from hv]at this;simp at this
 |i::L,S,hd,hv=>⟨yu hv.1 (fun _=>hd),D9 (QW hd) hv.2⟩
theorem Ia{p q:Nat}(K:p≠q){l:qs}:∀{L:qx}{S:qA},S.size=l.length->kV l.toArray L S->kV (eC q p l).toArray L S\/kV (eC p q l).toArray L S
 |[],S,_,hv=>.inl <|by
  show Region.ready .any (eC q p l).toArray S=[];apply yo.2;intro i F;have:=H0 F;rw[show Region.ready .any l.toArray S=[]from hv]at this;simp at this
 |i::L,S,hs,hv=>by
  have z:i<S.size:=by
   obtain⟨o,V,_⟩:=kU.1 hv.1;rw[hs];exact(eu.1 V).1
  have M:(S.setIfInBounds i true).getD i false=true:=by
   simp[ji,uz,z]
  by_cases Z:i=q
  .subst Z;exact .inr ⟨yu hv.1 (fun e=>(K e.symm).elim),D9 M hv.2⟩
  .by_cases Y:i=p
   .subst Y;exact .inl ⟨yu hv.1 (fun e=>(Z e).elim),D9 M hv.2⟩
   .rcases Ia K (by simpa using hs) hv.2 with h|h
    .exact .inl ⟨yu hv.1 (fun e=>(Z e).elim),h⟩
    .exact .inr ⟨yu hv.1 (fun e=>(Y e).elim),h⟩
theorem Ea{ops:qE}:∀{L:qx}{S:qA},kV ops L S->∀i∈L,∃o,ops.toList[i]?=some o
 |[],_,_,i,F=>by simp at F
 |j::L,S,hv,i,F=>by
  rcases fY.1 F with rfl|F
  .obtain⟨o,M,_⟩:=kU.1 hv.1;exact⟨o,M⟩
  .exact Ea hv.2 i F
theorem Ib(U:kV l.toArray L S)
 (h:wpOps P (eC q p l).toArray Q L a w):wpOps P l.toArray Q L a w:=by
 refine D8 (ops':=(eC q p l).toArray) (φ:=id) L a w (fun i F=>?_) fQ;obtain⟨o,M⟩:=Ea U i F;simp only[]at M;obtain⟨Y,Z,⟨z,rfl⟩,_⟩:=yr (q:=q) (p:=p) M;refine⟨o,_,by simpa using M,rL,⟨z,o.guard,rfl⟩,fun a=>?_⟩;have hy:yielded (eC q p l).toArray a.tmps=yielded l.toArray a.tmps:=funext fun j=>by
  unfold yielded;have:=QV (q:=q) (p:=p) (l:=l) j;simp only[List.getElem?_toArray,this]
 rw[hy];rfl
structure zdl (ord:qx) (l:qs):Prop where
 len:ord.length=l.length
 bk:∀k:Nat,k<l.length->∃i,ord[k]?=some i/\i<l.length/\iF ord i=k
 lt:∀i:Nat,i<l.length->iF ord i<l.length/\ord[iF ord i]?=some i
 pre:∀(i:Nat) o,l[i]?=some o->(∀p∈preds o,p<l.length)/\∀j b,o.guard=some (j,b)->j<l.length
def QX{ord:qx}(h:uu ord l=true):zdl ord l:=by
 unfold uu at h;simp only[cN,kj,nO]at h;obtain⟨⟨V,m⟩,A⟩:=h;refine⟨ib V,fun k Z=>?_,fun i F=>?_,fun i o M=>?_⟩
 .have:=(m k Z).1.1;split at this
  .rename_i i F;simp only[cN]at this;exact⟨i,F,by simpa [iH]using this.1,ib this.2⟩
  .simp at this
 .have O:=(m i F).1.2;have J:=(m i F).2;refine⟨by simpa [iH]using O,?_⟩;split at J
  .rename_i k Z;rw[Z,ib J]
  .simp at J
 .have:=A o (fq M);refine⟨fun p hp=>by simpa [iH]using this.1 p hp,fun j b Y=>?_⟩;have C:=this.2;rw[Y]at C;simpa [iH]using C
theorem Ic{A β:Type}{f:A->Option β}:∀{V:List A},(∀x∈V,(f x).isSome=true)->∀k:Nat,(V.filterMap f)[k]?=(V[k]?).bind f
 |[],_,k=>by simp
 |x::V,h,k=>by
  obtain⟨y,hy⟩:=Option.isSome_iff_exists.1 (h x gW);rw[List.filterMap_cons_some hy];cases k with
  |zero=>simp[hy]
  |succ k=>simp[Ic (fun x hx=>h x (jE _ hx)) k]
section
variable {ord:qx} {l:qs} (hp:zdl ord l)
include hp
theorem zdl.eZ(h:l[i]?=some o):(eK ord l)[iF ord i]?=some (rK ord o):=by
 have Y:=(eu.1 h).1;unfold eK;rw[Ic (fun x hx=>?_)]
 .rw[(hp.lt i Y).2];simp[h]
 .obtain⟨k,Z⟩:=D1.1 hx;have F:k<l.length:=by rw[<-hp.len];exact(eu.1 Z).1
  obtain⟨z,j,m,_⟩:=hp.bk k F;rw[Z]at j;simp only[aH]at j;subst j;rw[bt m];rfl
def zdl.length:(eK ord l).length=l.length:=by
 have:∀k,k<l.length->((eK ord l)[k]?).isSome=true:=fun k o=>by
  obtain⟨i,j,m,A⟩:=hp.bk k o;have:=hp.eZ (bt m);rw[A]at this;rw[this];rfl
 refine Nat.le_antisymm (dC (List.length_filterMap_le _ _) (by rw[hp.len];exact aT _)) ?_;rcases yn (eK ord l).length l.length with h|h
 .have:=this _ h;rw[oS (aT _)]at this;simp at this
 .exact h
def zdl.of(h:(eK ord l)[k]?=some M):∃i o,l[i]?=some o/\iF ord i=k/\M=rK ord o:=by
 have Z:k<l.length:=by rw[<-hp.length];exact(eu.1 h).1
 obtain⟨i,j,m,A⟩:=hp.bk k Z;have:=hp.eZ (bt m);rw[A,h]at this;simp only[aH]at this;exact⟨i,_,bt m,A,this⟩
def zdl.inj{j:Nat}(F:i<l.length)(A:j<l.length)(h:iF ord i=iF ord j):i=j:=by
 have Z:=(hp.lt i F).2;rw[h,(hp.lt j A).2]at Z;simpa using Z.symm
theorem zdl.preds:Ab.preds (rK ord o)=(Ab.preds o).map (iF ord):=by
 unfold Ab.preds rK;simp only[ti];rw[List.filter_map];have:(Region.binds .any ∘ fun e:Edge=>{e with on:=iF ord e.on})=Region.binds .any:=rfl;rw[this,List.filter_filter];simp only[yp,ti];rfl
def yw(ord:qx)(l:qs)(x y:qA):Prop:=x.size=l.length/\y.size=l.length/\∀i,i<l.length->y[iF ord i]?=x[i]?
def yw.set{x:qA}(h:yw ord l x y)(F:i<l.length):yw ord l (x.setIfInBounds i true) (y.setIfInBounds (iF ord i) true):=by
 refine⟨by simpa using h.1,by simpa using h.2.1,fun j A=>?_⟩;simp only[uz];by_cases e:i=j
 .subst e;rw[au rfl,au rfl,au (by rw[h.2.1];exact(hp.lt i F).1),au (by rw[h.1];exact F)]
 .rw[ad e,ad (fun Y=>e (hp.inj F A Y))];exact h.2.2 j A
def Ie{x:qA}(h:yw ord l x y)(F:i<l.length):iF ord i∈Region.ready .any (eK ord l).toArray y↔i∈Region.ready .any l.toArray x:=by
 have M:=bt F;have U:=hp.eZ M;rw[kU,kU];simp only[];have hd:∀(j:Nat) (b:Bool),j<l.length->y.getD (iF ord j) b=x.getD j b:=fun j b A=>by
  simp only[ji,h.2.2 j A]
 constructor
 .rintro⟨V,o,Z,Y⟩;rw[U]at o;simp only[aH]at o;subst o;refine⟨_,M,by rw[<-hd i true F];exact Z,fun p I=>?_⟩;rw[<-hd p false ((hp.pre i _ M).1 p I)];exact Y _ (by rw[hp.preds];exact List.mem_map_of_mem I)
 .rintro⟨V,o,Z,Y⟩;rw[M]at o;simp only[aH]at o;subst o;refine⟨_,U,by rw[hd i true F];exact Z,fun p I=>?_⟩;rw[hp.preds]at I;obtain⟨z,C,rfl⟩:=l3.1 I;rw[hd z false ((hp.pre i _ M).1 z C)];exact Y z C
theorem If:∀{L:qx}{x y:qA},yw ord l x y->kV l.toArray L x->kV (eK ord l).toArray (L.map (iF ord)) y
 |[],x,y,hs,hv=>by
  show Region.ready .any (eK ord l).toArray y=[];apply yo.2;intro k Z;obtain⟨V,Y,_⟩:=kU.1 Z;simp only[]at Y;obtain⟨i,o,j,m,_⟩:=hp.of Y;have F:=(eu.1 j).1;rw[<-m]at Z;have:=(Ie hp hs F).1 Z;rw[show Region.ready .any l.toArray x=[]from hv]at this;simp at this
 |i::L,x,y,hs,hv=>by
  obtain⟨o,M,_⟩:=kU.1 hv.1;have F:i<l.length:=(eu.1 M).1;exact⟨(Ie hp hs F).2 hv.1,If (hs.set hp F) hv.2⟩
theorem QY(Z:kV l.toArray L S)
 (h:wpOps P (eK ord l).toArray Q (L.map (iF ord)) a w):wpOps P l.toArray Q L a w:=by
 refine D8 (ops':=(eK ord l).toArray) (φ:=iF ord) L a w (fun i F=>?_) h;obtain⟨o,M⟩:=Ea Z i F;simp only[]at M;have U:=hp.eZ M;refine⟨o,rK ord o,by simpa using M,x4,⟨_,_,rfl⟩,fun a=>?_⟩;unfold Region.wanted rK;cases C:o.guard with
 |none=>rfl
 |some z=>
  obtain⟨j,b⟩:=z;have A:=(hp.pre i o M).2 j b C;have J:=hp.eZ (bt A);simp only[];unfold yielded;simp only[List.getElem?_toArray,J,bt A];rfl
end
theorem T.aM{A:Type}{Y:A->A->Bool}(C:∀a b,Y a b=true->a=b):∀{x y:T A},T.beq Y x y=true->x=y
 | .e,.e,_=>rfl
 | .e,.n _ _ _,h=>by simp[T.beq]at h
 | .n _ _ _,.e,h=>by simp[T.beq]at h
 | .n v l r,.n J M I,h=>by
   simp only[T.beq,cN]at h;rw[T.aM C h.1.2,T.aM C h.2];have j:=h.1.1;cases v<;>cases J <;>simp only[dg]at j
   .rfl
   .rw[C _ _ j]
def QZ{ops:qs}{z Z:Hp}(h:xX ops O Y z Z=true):(∀o∈ops,∀d,o.dst=some d->O.at d=Y.at d)/\z=Z:=by
 unfold xX at h;simp only[cN,kj]at h;refine⟨fun o M d hd=>?_,?_⟩
 .have:=h.1.1 o M;rw[hd]at this;exact AV.aM this
 .have j:=ib h.1.2;have m:=T.aM (fun a b=>HB.aM) h.2;cases z;cases Z;simp only[]at j m;rw[j,m]
section
variable {P:Program} {B:Bs} {cfg:Cfg}
def Q0{t:Nat}{z:Option Tmp}(h:fo N E z v=some O)(U:z≠some t):O.at t=E.at t:=by
 unfold fo at h;split at h
 .rename_i d;split at h
  .simp only[aH]at h;rw[<-h,vX,ad (fun e=>U mK)]
  .simp at h
 .simp only[aH]at h;rw[<-h]
theorem Ig{ih:zdc->Res}{f N t:Nat}{Z:qs}:∀{rs:List Rec}{l:qs}{E E':aD}{H H':Hp},mJ P cfg ih f N Z rs l E H E' H'->(∀o∈l,o.dst≠some t)->E'.at t=E.at t
 |[],[],_,_,_,_,h,_=>by rw[h.1]
 |[],_::_,_,_,_,_,h,_=>by simp[mJ]at h
 |_::_,[],_,_,_,_,h,_=>by simp[mJ]at h
 |r::rs,o::l,E,E',H,H',h,ht=>by
  obtain⟨_,_,_,_,_,_,E1,hp,j⟩:=h;rw[Ig j (fun o M=>ht o (jE _ M)),Q0 hp (ht o gW)]
def Ih{t:Nat}{ops:qs}(h:jf P cfg ih f N ops E H=.done x J H')(U:∀o∈ops,o.dst≠some t):x=.normal/\J.at t=E.at t:=by
 unfold jf at h;split at h
 .split at h
  .rename_i E1 H1 rs Z;split at h
   .simp only[Res.done.injEq]at h;obtain⟨rfl,rfl,rfl⟩:=h;exact⟨rfl,Ig (yk Z) U⟩
   .simp at h
  .simp at h
 .simp at h
def Q1{ord:qx}(h:o∈eK ord l):∃M∈l,o.dst=M.dst:=by
 unfold eK at h;rw[List.mem_filterMap]at h;obtain⟨i,_,m⟩:=h;split at m
 .rename_i M Z;simp only[aH]at m;subst m;exact⟨M,fq Z,rfl⟩
 .simp at m
def Ii(h:o∈eC q p l):∃M∈l,o.dst=M.dst:=by
 obtain⟨i,F⟩:=D1.1 h;obtain⟨J,j⟩:=HZ F;obtain⟨V,Z,⟨z,Y⟩,_⟩:=yr (q:=q) (p:=p) j;rw[F]at Z;simp only[aH]at Z;exact⟨J,fq j,by rw[Z,Y]⟩
def Ij{ops:qs}{aw a1:Res}(h:sW ops aw a1=.done x J H'):
 x=.normal/\aw=.done .normal J H'/\∃Z,a1=.done .normal Z H'/\∀o∈ops,∀d,o.dst=some d->J.at d=Z.at d:=by
 unfold sW at h;split at h
 .split at h
  .rename_i S;simp only[Res.done.injEq]at h;obtain⟨rfl,rfl,rfl⟩:=h;obtain⟨j,m⟩:=QZ S;subst m;exact⟨rfl,rfl,_,rfl,j⟩
  .simp at h
 .simp at h
theorem Eb{ih:zdc->Res}{f N t:Nat}{E J:aD}{H H':Hp}{x:AX}:∀{K:zdk}{ops:qs},jg P cfg ih f N E H K ops=.done x J H'->(∀o∈ops,o.dst≠some t)->J.at t=E.at t
 | .text,ops,h,ht=>(Ih h ht).2
 | .bm ord,ops,h,ht=>by
   simp only[jg]at h;split at h
   .exact(Ih h (fun o M=>by obtain⟨Z,j,m⟩:=Q1 M;rw[m];exact ht Z j)).2
   .simp at h
 | .split p q a b,ops,h,ht=>by
   simp only[jg]at h;split at h
   .simp at h
   .obtain⟨_,j,_⟩:=Ij h;exact Eb j (fun o M=>by obtain⟨Z,j,m⟩:=Ii M;rw[m];exact ht Z j)
def ku.same(U:∀t,O.at t=Y.at t){e:Exit}(h:ku B N Z G w x Y H' e a w'):ku B N Z G w x O H' e a w':=by
 obtain⟨j,V,m,A,S⟩:=h;exact⟨j,V,⟨m.size,fun t=>by rw[U];exact m.bM t⟩,A,S⟩
theorem Ec(fit:Fit P){n:Nat}{ih:zdc->Res}(S:Snd P B n ih){f N:Nat}{E:aD}{H:Hp}{G:Gh}{w:World}{a:Act}(h:R B H w G)(U:TR N G E a)(hd:a.defers=[]){Q:Exit->Act->World->Prop}:
 ∀(C:zdk) (l:qs) {E':aD}{H':Hp}{x:AX},jg P B.cl ih f N E H C l=.done x E' H'->(∀e z A,ku B N H.next G w x E' H' e z A->Q e z A)->∀L,kV l.toArray L (Array.replicate l.length false) ->
  wpOps P l.toArray Q L a {w with drawn:=w.drawn+1}
 | .text,l,E',H',x,hr,hQ,L,hv=>D7 L _ _ a _ (by
  have:=HX (ops:=l.toArray) fit S hr h U hd hQ;simpa using this) hv
 | .bm ord,l,E',H',x,hr,hQ,L,hv=>by
   simp only[jg]at hr;split at hr
   .rename_i hp;have hp:=QX hp;refine QY hp hv (D7 _ _ _ a _ (HX (ops:=(eK ord l).toArray) fit S hr h U hd hQ) ?_);refine If hp ⟨aI,by simp[hp.length],fun i F=>?_⟩ hv;have:=(hp.lt i F).1;simp[hp.length,F,this]
   .simp at hr
 | .split p q pa pb,l,E',H',x,hr,hQ,L,hv=>by
   simp only[jg]at hr;split at hr
   .simp at hr
   .rename_i Z;have V:p≠q:=x6 Z;obtain⟨rfl,j,E2,m,h3⟩:=Ij hr;rcases Ia V aI hv with Y|J
    .exact Ib hv (Ec fit S h U hd pa _ j hQ L (by rw[AQ];exact Y))
    .have O:∀t,E'.at t=E2.at t:=fun t=>by
      by_cases U:∃o∈l,o.dst=some t
      .obtain⟨o,M,hd⟩:=U;exact h3 o M t hd
      .have I:∀o∈l,o.dst≠some t:=fun o M hd=>U ⟨o,M,hd⟩;have K:∀q p,∀o∈eC q p l,o.dst≠some t:=fun q p o M=>by obtain⟨o',g1,g2⟩:=Ii M;rw[g2];exact I o' g1
       rw[Eb j (K _ _),Eb m (K _ _)]
     exact Ib hv (Ec fit S h U hd pb _ m (fun e z A hp=>hQ _ _ _ (ku.same O hp)) L (by rw[AQ];exact J))
def Q3(fit:Fit P)(S:Snd P B n ih){id:Nat}{pl:zdk}(hr:jg P B.cl ih f N E H pl ops.toList=.done x J H')
 (h:R B H w G) (U:TR N G E a) (hd:a.defers=[]):Code.wp P (.region id ops true) (ku B N H.next G w x J H') a w:=by
 refine QU fit.mixed fun L K=>?_;have:=Ec fit S h U hd pl ops.toList hr (fun _ _ _ hp=>hp) L (by simpa using K);simpa using this
end
structure Grow (w:World) (F:Nat->Nat->qH) (w':World) (F':Nat->Nat->qH):Prop where
 below:Below w.heap.size w w'
 more:∀b o v,F b o=some v->F' b o=some v
 ef:∀b o v,F' b o=some v->F b o=some v\/w.heap.size<=b
 dr:∀b o v,F' b o=some v->w'.cell? ⟨b,o,none⟩=some v
def bJ(P:Program)(ρ:Nat->Int)(f:FuncId)(j:qm)(r:AV):Prop:=
 (∃Y,P.funcs[f]?=some Y/\Y.body.isSome=true)/\∀(G:Gh) (w:World) (vs:qw),G.ρ=ρ->(∀b o v,G.F b o=some v->w.cell? ⟨b,o,none⟩=some v)->bT G j vs ->
   Calls P f vs.toArray w (fun e A=>∃v O,e=.returned v/\VR {G with F:=O} r v/\Grow w G.F A O)
def Q4(P:Program)(B:Bs):Prop:=∀f j r,B.cl.call f j=some r->bJ P B.ρ f j r
def Ed(h:Below w.heap.size w w'){b o:Nat}(z:b<w.heap.size):w'.cell? ⟨b,o,none⟩=w.cell? ⟨b,o,none⟩/\w'.frozen? ⟨b,o,none⟩=w.frozen? ⟨b,o,none⟩:=
 ⟨by simp only[World.cell?,h.block b z],h.frozen (p:=⟨b,o,none⟩) z⟩
theorem R.gq{B:Bs}{O:Nat->Nat->qH}(h:R B H w G)(g:Grow w G.F w' O):Step B H.next G w H w' {G with F:=O}:=by
 have V:Ext G {G with F:=O}:=⟨fun _ _ h=>h,g.more,rfl⟩;have Y:∀{b o:Nat}{v:Value},w.cell? ⟨b,o,none⟩=some v->w'.cell? ⟨b,o,none⟩=some v:=fun hc=>by rw[(Ed g.below (nM hc)).1];exact hc
 refine⟨?_,V,⟨g.below.os,g.below.tape,g.below.output,g.below.size,fun k J _=>g.below.block k J⟩,fun r b o x hr=>.inl hr,fun _ _ h=>.inl h,aT _,fun b o v S=>(g.ef b o v S).imp id fun z=>dC h.bY z⟩;exact{
  bY:=dC h.bY g.below.size
  di:=h.di
  lt:=fun r b o x hr=>⟨(h.lt r b o x hr).1,fO (h.lt r b o x hr).2 g.below.size⟩
  cells:=fun r b o x cs imm I hr hc j c A=>by
   obtain⟨v,U,m⟩:=h.cells r b o x cs imm I hr hc j c A;exact⟨v,Y U,m.mono V⟩
  cu:=fun r b o x cs imm I hr hc j A Z=>let ⟨v,S⟩:=h.cu r b o x cs imm I hr hc j A Z;⟨v,g.more _ _ _ S⟩
  ext:=h.ext
  bL:=h.bL
  bu:=fun r b o x cs imm I hr hc j A Z=>by
   obtain⟨⟨v,U⟩,m,h3⟩:=h.bu r b o x cs imm I hr hc j A Z;have z:=(h.lt r b o x hr).2;refine⟨⟨v,Y U⟩,by rw[(Ed g.below z).2];exact m,?_⟩;show O b (o+j)=none;cases hF:O b (o+j)with
   |none=>rfl
   |some u=>rcases g.ef _ _ _ hF with M|M
            ·rw[h3]at M;simp at M
            .omega
  apart:=h.apart
  map:=fun r b o x C hr hc=>by
   obtain⟨ms,K,U,m⟩:=h.map r b o x C hr hc;exact⟨ms,K,by rw[g.below.block b (h.lt r b o x hr).2];exact U,m.mono V⟩
  aE:=h.aE
  dr:=g.dr
  val:=h.val
  eb:=h.eb}
theorem Ee(z:Nat):∀(n:Nat) (l:qm),(gk z n l).length=n
 |0,_=>rfl
 |n+1,l=>by simp[gk,Ee z n]
theorem yx(z:Nat):∀(n:Nat) (l:qm) (i:Nat) (Z:qm),l.length=n*z->(gk z n l)[i]?=some Z->Z.length=z/\∀(j:Nat) c,Z[j]?=some c->l[i*z+j]?=some c
 |0,_,i,Z,_,h=>by simp[gk]at h
 |n+1,l,i,Z,hl,h=>by
  rw[nK,yq]at hl;simp only[gk]at h;cases i with
  |zero=>
   simp at h;subst h;refine⟨te,fun j c A=>?_⟩;rw[rN]at A;split at A
   .rw[tf,bR];exact A
   .simp at A
  |succ i=>
   obtain⟨Y,m⟩:=yx z n (l.drop z) i Z DW fQ;refine⟨Y,fun j c A=>?_⟩;have:=m j c A;rw[rO]at this;rw[nK,yq,show i*z+z+j=z+(i*z+j) by omega];exact this
theorem AR{B:Bs}{w:World}{g:AV->Hp->Option (AV×Hp)}
 (Z:∀(v:AV) (H:Hp) (q:AV) (H':Hp) (G:Gh) (x:Value),R B H w G->VR G v x->g v H=some (q,H')->∃m,Step B H.next G w H' w m/\VR m q x) :
 ∀(cs:qm) (vs:qw) (H:Hp) (C:qm) (H':Hp) (G:Gh),R B H w G->bT G cs vs->fW g cs H=some (C,H')->∃m,Step B H.next G w H' w m/\bT m C vs
 |[],vs,H,C,H',G,h,hv,hi=>by
  simp only[fW,cC]at hi;obtain⟨rfl,rfl⟩:=hi;exact⟨G,jD h,hv⟩
 |c::cs,[],H,C,H',G,h,hv,hi=>by have:=hv.1;simp at this
 |c::cs,v::vs,H,C,H',G,h,hv,hi=>by
  simp only[fW]at hi;split at hi
  .rename_i d H1 j;split at hi
   .rename_i O Y V;simp only[cC]at hi;obtain⟨rfl,rfl⟩:=hi;obtain⟨o,U⟩:=hv.aR;obtain⟨S,A,aw⟩:=Z c H d H1 G v h o j;obtain⟨M,K,a1⟩:=AR Z cs vs H1 O Y S A.r (U.mono A.ext) V;exact⟨M,A.trans K,gO (aw.mono K.ext) a1⟩
   .simp at hi
  .simp at hi
theorem AS{B:Bs}{w:World}:∀(n:Nat) (v:AV) (H:Hp) (q:AV) (H':Hp) (G:Gh) (x:Value),R B H w G->VR G v x->eP n v H=some (q,H')->∃G',Step B H.next G w H' w G'/\VR G' q x
 |0,_,_,_,_,_,_,_,_,h=>by simp[eP]at h
 |n+1,v,H,q,H',G,x,h,hv,Y=>by
  unfold eP at Y;split at Y
  .rename_i r F Z z;split at Y
   .rename_i cs I tip O;split at Y
    .rename_i C;simp only[cN]at C;have hle1:=yg C.1;have hle2:=yg C.2;split at Y
     .rename_i l H1 A;simp only[cC]at Y;obtain⟨rfl,rfl⟩:=Y;cases hv with
      |sl hr hl hcx=>
       rename_i b o xx cap;have U:=h.cells r b o xx cs I tip hr O;have s1:=yd h hr O (n:=max I (F+Z*z)) aa aa tip id;obtain⟨M,ho1,ho2⟩:=U.list;have hlen:((cs.drop F).take (Z*z)).length=Z*z:=by rw[mF,jP];omega
       obtain⟨G2,s2,a1⟩:=AR (AS n) _ ((M.drop F).take (Z*z)) _ l H1 _ s1.r (((ho1.drop F).take (Z*z)).mono s1.ext) A;refine⟨G2,s1.trans s2,?_⟩;have hll:l.length=Z*z:=by
        have e1:=a1.1;have e2:=((ho1.drop F).take (Z*z)).1;rw[hlen]at e2;omega
       have hlc:=Ee z Z l;have hovl:M.length=cs.length:=ho1.1.symm;have hat:∀m,m<Z*z->∃v,M[F+m]?=some v/\G2.F b (o+F+m)=some v/\∀c,l[m]?=some c->VR G2 c v:=fun m hm=>by
        have S:F+m<M.length:=aa;refine⟨M[F+m],bt S,?_,fun c hc=>?_⟩
        .refine s2.ext.F _ _ _ ?_;have V:=ho2 (F+m) M[F+m] (bt S);show(G.ao w b o (max I (F+Z*z))).F b (o+F+m)=some M[F+m];simp only[Gh.ao];rw[<-gU]at V;split
         .rename_i v' hv';have:=h.dr _ _ _ hv';rw[V]at this;exact this.symm
         .rw[au ⟨pH,aa,aa⟩];exact V
        .refine a1.2 m c _ hc ?_;rw[rN,au hm,rO];exact bt S
       have hin:∀i j,i<Z->j<z->i*z+j<Z*z:=fun i j Y hj=>by
        calc i*z+j<i*z+z:=by omega
         _=(i+1)*z:=by rw[nK,yq]
         _<=Z*z:=vV _ Y
       have key:VR G2 (.ai (gk z Z l)) (.slice (some ⟨b,o+F,none⟩) (gk z Z l).length cap):=by
        refine .ai (fun i j=>(M[F+(i*z+j)]?).getD undef) (z:=z) (fun i J K=>(yx z Z l i J hll K).1) (fun i j Y hj=>?_) (fun i j J c K hcj=>?_) (by rw[hlc];exact hl)
        .rw[hlc]at Y;obtain⟨v,e1,e2,_⟩:=hat _ (hin i j Y hj);rw[e1,gU (o+F)];exact e2
        .have hm:=(yx z Z l i J hll K).2 j c hcj;have S:=(eu.1 hm).1;obtain⟨v,e1,_,e3⟩:=hat (i*z+j) aa;rw[e1];exact e3 c hm
       rw[hlc]at key;exact key
     .simp at Y
    .simp at Y
   .simp at Y
  .rename_i cs;split at Y
   .rename_i ds H1 A;simp only[cC]at Y;obtain⟨rfl,rfl⟩:=Y;cases hv with
    |agg hl hvs=>
     obtain⟨G',s,r⟩:=AR (AS n) cs _ H ds H1 G h ⟨hl,hvs⟩ A;exact⟨G',s,.agg r.1 r.2⟩
   .simp at Y
  .simp at Y
  .simp at Y
  .simp only[cC]at Y;obtain⟨rfl,rfl⟩:=Y;exact⟨G,jD h,hv⟩
section
variable {P:Program} {B:Bs} {G:Gh} {H H':Hp} {w:World}
theorem Ik:∀(j:qm) (i:Nat) (E:aD) (t:Nat),(a3 i j E).at t=if i<=t/\t<i+j.length then j.getD (t-i) ea else E.at t
 |[],i,E,t=>by
  simp only[a3,eg,sZ];rw[ad aa]
 |v::vs,i,E,t=>by
  simp only[a3,Ik vs (i+1),gN];by_cases Z:i+1<=t/\t<i+1+vs.length
  .rw[au Z,au aa,show t-i=(t-(i+1))+1 by omega];rfl
  .rw[ad Z,vX];by_cases m:t=i
   .subst m;rw[au rfl,au aa];simp
   .rw[ad m,ad aa]
theorem Ef:∀(d t:Nat),aD.at (xY d) t=ea
 |0,_=>rfl
 |d+1,t=>by
  unfold aD.at xY;rw[uE];cases h:Nat.beq t 0 with
  |true=>rfl
  |false=>
   rw[l0];cases m:Nat.beq (Nat.mod t 2) 1 with
   |true=>exact Ef d _
   |false=>exact Ef d _
def Q5(N t:Nat):aD.at (uw N) t=ea:=Ef _ _
def TR.start(h:bT G j vs)(Z:Nat):
 TR (max Z j.length) G (a3 0 j (uw (max Z j.length))) {tmps:=vs.toArray++Array.replicate (Z-vs.toArray.size) undef,defers:=[] }:=by
 have K:=h.1;refine⟨ce,fun t=>?_⟩;rw[Ik];simp only[dx,oT,bR,AF];by_cases U:t<j.length
 .rw[au U];have o:j.getD t ea=j[t]:=by simp[List.getD,U]
  rw[o];have:(vs.toArray++Array.replicate (Z-vs.toArray.size) undef).getD t undef=vs[t]' aa:=by
   rw[ji,Array.getElem?_append_left ce];simp[show t<vs.length by omega]
  rw[this];exact h.2 t _ _ (bt U) (bt aa)
 .rw[ad U,Q5];have:(vs.toArray++Array.replicate (Z-vs.toArray.size) undef).getD t undef=undef:=by
   rw[ji,Array.getElem?_append_right ce];simp only[HU];split<;>rfl
  rw[this];exact yb G
def Q6(h:R B H w G)(U:TR N G E a){r:ResultVar}{c:AV}(hr:cc P E H r=some c):
 ∃v,(match r with
  | .tmp t=>pure (a.tmps.getD t undef)
  | .cell x t=>do loadVar t (<-asAddr (a.tmps.getD x undef)):Sem Value).run P w=.ok v w/\VR G c v:=by
 cases r with
 |tmp t=>
  simp only[cc,aH]at hr;subst hr;exact⟨_,rfl,U.bM t⟩
 |cell x t=>
  simp only[cc]at hr;have hx:=U.bM x;obtain⟨v,j,m⟩:=Hr (P:=P) h hx hr;refine⟨v,?_,m⟩;show(do loadVar t (<-asAddr (a.tmps.getD x undef)):Sem Value).run P w=.ok v w;generalize a.tmps.getD x undef=M at hx j⊢;generalize E.at x=Y at hx hr;cases hx<;>simp[jL]at hr<;>simpa [Instr.loadAt,Instr.sureAddr,asAddr]using j
theorem Il(h:R B H w G){N:Nat}{E:aD}{a:Act}(U:TR N G E a):∀{rs:List ResultVar}{cs:qm},bU P E H rs=some cs ->
 ∃vs,(rs.mapM (fun
  | .tmp t=>pure (a.tmps.getD t undef)
  | .cell x t=>do loadVar t (<-asAddr (a.tmps.getD x undef)):ResultVar->Sem Value)).run P w=.ok vs w/\bT G cs vs
 |[],cs,hr=>by
  simp only[bU,aH]at hr;subst hr;exact⟨[],aI,kQ G⟩
 |r::rs,cs,hr=>by
  simp only[bU]at hr;split at hr
  .rename_i c C j m;simp only[aH]at hr;subst hr;obtain⟨v,o,Z⟩:=Q6 (P:=P) h U j;obtain⟨vs,k1,k2⟩:=Il h U m;refine⟨v::vs,?_,gO Z k2⟩;rw[List.mapM_cons];simp only[eY,o,fd,k1,jQ]
  .simp at hr
def Im(h:R B H w G)(U:TR N G E a){r:AV}(hr:vS P fn.results.toList E H=.val r H'):
 H'=H/\∃v,(results fn a.tmps).run P w=.ok v w/\VR G r v:=by
 unfold vS at hr;split at hr
 .rename_i cs Y;simp only[Res.val.injEq]at hr;obtain⟨rfl,rfl⟩:=hr;obtain⟨vs,j,m⟩:=Il (P:=P) h U Y;refine⟨rfl,?_⟩;have Z:(results fn a.tmps).run P w=.ok (if h:vs.toArray.size=1 then vs.toArray[0]else .tuple vs.toArray) w:=by
   unfold results;rw[Array.mapM_eq_mapM_toList];simp only[eY,Sem.run_map];exact lB (fun r:Result qw=>(r.andThen fun a A=>Result.ok a.toArray A).andThen fun a A=>Sem.run P (pure (if h:a.size=1 then a[0]else Value.tuple a)) A) j
  refine⟨_,Z,?_⟩
  match cs,vs,m with
  |[],[],m=>exact .aW (vs:=[]) rfl aI
  |[c],[v],m=>exact m.aR.1
  |c::c'::cs,v::v'::vs,m=>
   have:¬(v::v'::vs).toArray.size=1:=aI;rw[dif_neg this];exact .aW m.1 m.2
  |[],_::_,m=>have:=m.1;simp at this
  |[_],[],m=>have:=m.1;simp at this
  |[_],_::_::_,m=>have:=m.1;simp at this
  |_::_::_,[],m=>have:=m.1;simp at this
  |_::_::_,[_],m=>have:=m.1;simp at this
 .simp at hr
def Eg(I:Fit P)(Y:Snd P B n ih){f:FuncId}{Z:qm}{r:AV}(S:nG P ih f Z H=.val r H')(h:R B H w G)(F:bT G Z vs):
 (∃V,P.funcs[f]?=some V/\V.body.isSome=true)/\Calls P f vs.toArray w (fun e O=>∃v m,e=.returned v/\VR m r v/\Step B H.next G w H' O m):=by
 unfold nG at S;split at S
 .rename_i V U;split at S
  .rename_i c hc;refine⟨⟨V,U,by rw[hc];rfl⟩,calls_of_wp U hc ?_⟩;have z:=TR.start F V.ntmps;split at S
   .rename_i E1 H1 j;refine tg (fun e o O M=>?_) (Y.aw _ _ _ _ _ _ _ _ j G w _ h z rfl);obtain⟨rfl,m,A,C,hd⟩:=M;obtain⟨rfl,v,K,J⟩:=Im (P:=P) C.r A S;exact⟨hd,v,K,v,m,rfl,J,C⟩
   .rename_i E1 H1 j;refine tg (fun e o O M=>?_) (Y.aw _ _ _ _ _ _ _ _ j G w _ h z rfl);obtain⟨rfl,m,A,C,hd⟩:=M;obtain⟨rfl,v,K,J⟩:=Im (P:=P) C.r A S;exact⟨hd,v,K,v,m,rfl,J,C⟩
   .simp at S
  .simp at S
 .simp at S
def Eh(m:Snd P B n ih)(S:nH ih f N b r=.done x J H'):
 ∃C E1 H1,r=.done C E1 H1/\((C=.normal/\ih (.aw f N b E1 H1)=.done x J H')\/(C≠.normal/\x=C/\J=E1/\H'=H1)):=by
 unfold nH at S;split at S
 .rename_i E1 H1;exact⟨.normal,E1,H1,rfl,.inl ⟨rfl,S⟩⟩
 .rename_i o;subst S;exact⟨x,J,H',rfl,.inr ⟨fun e=>by subst e;exact o _ _ rfl,rfl,rfl,rfl⟩⟩
def Q7(fit:Fit P)(Y:Snd P B n ih){F:aD}(S:step P B.cl ih (.aw f N c E H)=.done x F H')
  (h:R B H w G) (U:TR N G E a) (hd:a.defers=[]):Code.wp P c (ku B N H.next G w x F H') a w:=by
 cases c with
 |skip=>
  simp only[step,Res.done.injEq]at S;obtain⟨rfl,rfl,rfl⟩:=S;exact wp_skip ⟨rfl,G,U,jD h,hd⟩
 |region id ops draw=>
  cases draw with
  |false=>
   exact wp_region_list (DR fit Y ops.toList S h U hd (fun _ _ _ hp=>hp))
  |true=>exact Q3 fit Y S h U hd
 |seq p q=>
  obtain⟨J,E1,H1,j,O⟩:=Eh Y S;refine wp_seq (tg (fun e M K V=>?_) (Y.aw _ _ _ _ _ _ _ _ j G w a h U hd));obtain⟨rfl,m,A,C,Z⟩:=V;rcases O with⟨rfl,O⟩|⟨o,rfl,rfl,rfl⟩
  .exact tg (fun e a w V=>AL C V) (Y.aw _ _ _ _ _ _ _ _ O m K M C.r A Z)
  .cases x with
   |normal=>exact(o rfl).elim
   |exit id=>exact⟨rfl,m,A,C,Z⟩
   |ret=>exact⟨rfl,m,A,C,Z⟩
 |cond y p q=>
  simp only[step,ux]at S;split at S
  .rename_i hy;have z:=DQ U hy;have:a.eval y=.bool true:=by generalize a.eval y=v at z;cases z;rfl
   exact wp_cond_true this (Y.aw _ _ _ _ _ _ _ _ S G w a h U hd)
  .rename_i hy;have z:=DQ U hy;have:a.eval y=.bool false:=by generalize a.eval y=v at z;cases z;rfl
   exact wp_cond_false this (Y.aw _ _ _ _ _ _ _ _ S G w a h U hd)
  .simp at S
 |block id p=>
  simp only[step]at S;cases j:ih (.aw f N p E H)with
  |done J E1 H1=>
   rw[j]at S;refine wp_block (tg (fun e M K V=>?_) (Y.aw _ _ _ _ _ _ _ _ j G w a h U hd));obtain⟨rfl,m,A,C,Z⟩:=V;cases J with
   |normal=>
    simp only[mE,Res.done.injEq]at S;obtain⟨rfl,rfl,rfl⟩:=S;exact⟨rfl,m,A,C,Z⟩
   |ret=>
    simp only[mE,Res.done.injEq]at S;obtain⟨rfl,rfl,rfl⟩:=S;exact⟨rfl,m,A,C,Z⟩
   |exit I=>
    simp only[mE]at S;cases z:Nat.beq I id with
    |true=>
     rw[z]at S;simp only[Res.done.injEq]at S;obtain⟨rfl,rfl,rfl⟩:=S;have:=ib z;subst this;simp only[DO,Exit.inBlock,bw];exact⟨rfl,m,A,C,Z⟩
    |false=>
     rw[z]at S;simp only[Res.done.injEq]at S;obtain⟨rfl,rfl,rfl⟩:=S;have:=x6 z;simp only[DO,Exit.inBlock];rw[ad this];exact⟨rfl,m,A,C,Z⟩
  |val v H1=>rw[j]at S;simp[mE]at S
  |ay=>rw[j]at S;simp[mE]at S
 |loop p=>
  refine wp_loop_rounds (n+1) ?_;rw[rounds_succ];obtain⟨J,E1,H1,j,O⟩:=Eh Y S;refine tg (fun e M K V=>?_) (Y.aw _ _ _ _ _ _ _ _ j G w a h U hd);obtain⟨rfl,m,A,C,Z⟩:=V;rcases O with⟨rfl,O⟩|⟨o,rfl,rfl,rfl⟩
  .exact DP (fun e a w V=>AL C V) (Y.loop _ _ _ _ _ _ _ _ O m K M C.r A Z)
  .cases x with
   |normal=>exact(o rfl).elim
   |exit id=>exact⟨rfl,m,A,C,Z⟩
   |ret=>exact⟨rfl,m,A,C,Z⟩
 |exit id=>
  simp only[step,Res.done.injEq]at S;obtain⟨rfl,rfl,rfl⟩:=S;exact wp_exit ⟨rfl,G,U,jD h,hd⟩
 |ret=>
  simp only[step,Res.done.injEq]at S;obtain⟨rfl,rfl,rfl⟩:=S;exact wp_ret ⟨rfl,G,U,jD h,hd⟩
 |rangeFunc _ _ _ _=>simp[step]at S
 |scope _=>simp[step]at S
 |label _=>simp[step]at S
 |goto _=>simp[step]at S
 |refuse _=>simp[step]at S
def Q8(I:Fit P)(S:Snd P B n ih)(U:step P B.cl ih (.aw f N (.loop c) E H)=.done x J H')
  (h:R B H w G) (O:TR N G E a) (hd:a.defers=[]):Code.rounds P c (ku B N H.next G w x J H') (n+1) a w:=by
 rw[rounds_succ];obtain⟨K,E1,H1,j,m⟩:=Eh S U;refine tg (fun e z M Y=>?_) (S.aw _ _ _ _ _ _ _ _ j G w a h O hd);obtain⟨rfl,V,A,C,Z⟩:=Y;rcases m with⟨rfl,m⟩|⟨o,rfl,rfl,rfl⟩
 .exact DP (fun e a w Y=>AL C Y) (S.loop _ _ _ _ _ _ _ _ m V M z C.r A Z)
 .cases x with
  |normal=>exact(o rfl).elim
  |exit id=>exact⟨rfl,V,A,C,Z⟩
  |ret=>exact⟨rfl,V,A,C,Z⟩
theorem In(fit:Fit P)(hc:Q4 P B):∀n,Snd P B n (dw P B.cl n)
 |0=>⟨fun _ _ _ _ _ h=>by simp[dw]at h,fun _ _ _ _ _ _ _ _ h=>by simp[dw]at h,fun _ _ _ _ _ _ _ _ h=>by simp[dw]at h⟩
 |n+1=>by
  have Z:=In fit hc n;have he:dw P B.cl (n+1)=step P B.cl (dw P B.cl n):=rfl;rw[he];refine⟨fun f j H r H' S G w vs h U=>?_,fun f N c E H x E' H' S G w a h K hd=>Q7 fit Z S h K hd,fun f N c E H x E' H' S G w a h K hd=>Q8 fit Z S h K hd⟩;have o:∀{G:Gh}{j:qm}{vs:qw}{H:Hp}{I:AV},B.cl.call f j=some I->R B H w G->bT G j vs ->
   (∃O,P.funcs[f]?=some O/\O.body.isSome=true)/\Calls P f vs.toArray w (fun e A=>∃v m,e=.returned v/\VR m I v/\Step B H.next G w H A m):=fun{G j vs H I} hr h U=>by
   obtain⟨h1,h2⟩:=hc f j I hr;refine⟨h1,(h2 G w vs h.val h.dr U).mono fun e A M=>?_⟩;obtain⟨v,F',rfl,C,hg⟩:=M;exact⟨v,_,rfl,C,h.gq hg⟩
  have V:∀{G:Gh}{j:qm}{vs:qw}{H H':Hp}{r:AV},nI P B.cl (dw P B.cl n) f j H=.val r H'->R B H w G->bT G j vs ->
   (∃O,P.funcs[f]?=some O/\O.body.isSome=true)/\Calls P f vs.toArray w (fun e A=>∃v m,e=.returned v/\VR m r v/\Step B H.next G w H' A m):=fun{G j vs H H' r} S h U=>by
   unfold nI at S;split at S
   .unfold xZ at S;split at S
    .rename_i J H1 z;split at S
     .rename_i I hr;simp only[Res.val.injEq]at S;obtain⟨rfl,rfl⟩:=S;obtain⟨G1,s1,aw⟩:=AR (AS 100) j vs H J H1 G h U z;obtain⟨h1,h2⟩:=o hr s1.r aw;refine⟨h1,h2.mono fun e A M=>?_⟩;obtain⟨v,m,rfl,C,Y⟩:=M;exact⟨v,m,rfl,C,s1.trans Y⟩
     .exact Eg fit Z S h U
    .exact Eg fit Z S h U
   .exact Eg fit Z S h U
  simp only[step]at S;split at S
  .rename_i I hr;simp only[Res.val.injEq]at S;obtain⟨rfl,rfl⟩:=S;exact o hr h U
  .unfold vT at S;split at S
   .rename_i v1 H1 hz F;obtain⟨g1,g2⟩:=V F h U;refine⟨g1,g2.mono fun e A M=>?_⟩;obtain⟨v,m,rfl,C,Y⟩:=M;cases hi:eP 100 v1 H1 with
    |none=>rw[hi]at S;simp[gI]at S
    |some p=>
     obtain⟨q,H2⟩:=p;rw[hi]at S;simp only[gI,Res.val.injEq]at S;obtain⟨rfl,rfl⟩:=S;obtain⟨G2,s2,a1⟩:=AS 100 v1 H1 _ _ m v Y.r C hi;exact⟨v,G2,rfl,a1,Y.trans s2⟩
   .exact V S h U
end
open Go Go.RowKit Go.WideShapes Go.ChangeShapes
theorem Q9(r:Nat):bV.get r=none:=rfl
theorem R.start(m:∀b o v,G.F b o=some v->w.cell? ⟨b,o,none⟩=some v)(z:∀r,G.β r=none)(Z:mH cfg.cj G.ρ):R ⟨w.heap.size,G.ρ,cfg⟩ bV w G:=by
 refine⟨aT _,?_,?_,?_,?_,?_,?_,?_,?_,?_,m,rfl,Z,?_⟩<;>intros<;>simp_all
theorem wi{g:AV->qv}:∀{cs C:qm},iceL g cs=some C->C.length=cs.length/\∀(i:Nat) d,C[i]?=some d->∃c,cs[i]?=some c/\g c=some d
 |[],C,h=>by
  simp only[iceL,aH]at h;subst h;exact⟨rfl,aI⟩
 |c::cs,C,h=>by
  simp only[iceL]at h;split at h
  .rename_i d O j m;simp only[aH]at h;subst h;obtain⟨A,Y⟩:=wi m;refine⟨by simp[A],fun i e Z=>?_⟩;cases i with
   |zero=>simp at Z;subst Z;exact⟨c,rfl,j⟩
   |succ i=>exact Y i e rL
  .simp at h
theorem Io{g:AV->qv}:∀{cs C:List qm},sX g cs=some C->C.length=cs.length/\∀(i:Nat) d,C[i]?=some d->∃c,cs[i]?=some c/\iceL g c=some d
 |[],C,h=>by
  simp only[sX,aH]at h;subst h;exact⟨rfl,aI⟩
 |c::cs,C,h=>by
  simp only[sX]at h;split at h
  .rename_i d O j m;simp only[aH]at h;subst h;obtain⟨A,Y⟩:=Io m;refine⟨by simp[A],fun i e Z=>?_⟩;cases i with
   |zero=>simp at Z;subst Z;exact⟨c,rfl,j⟩
   |succ i=>exact Y i e rL
  .simp at h
theorem yy{H:Hp}{G G2:Gh}{w:World}(C:G2.ρ=G.ρ)(hF:∀b o v,G.F b o=some v->G2.F b o=some v)
 (Z:∀r b o x cs imm tip,G.β r=some (b,o,x)->H.get r=some (.cells cs imm tip)->iU G w b o cs/\∀j v,w.cell? ⟨b,o+j,none⟩=some v->G2.F b (o+j)=some v) :
 ∀(n:Nat) (v:AV) (x:Value) (q:AV),VR G v x->iceV H n v=some q->VR G2 q x
 |0,_,_,_,_,h=>by simp[iceV]at h
 |n+1,v,x,q,hv,h=>by
  have M:∀{cs ds:qm}{vs:qw},bT G cs vs->iceL (iceV H n) cs=some ds->bT G2 ds vs:=fun{cs ds vs} S hi=>by
   obtain⟨h1,h2⟩:=wi hi;refine⟨by rw[h1];exact S.1,fun i d u hd hu=>?_⟩;obtain⟨c,hc,hcd⟩:=h2 i d hd;exact yy C hF Z n c u d (S.2 i c u hc hu) hcd
  cases hv with
  |int k a=>simp only[iceV,aH]at h;subst h;exact .int _ _
  |sx k e=>simp only[iceV,aH]at h;subst h;rw[<-C];exact .sx _ _
  |bool b=>simp only[iceV,aH]at h;subst h;exact .bool _
  |ae s l hs=>simp only[iceV,aH]at h;subst h;exact .ae _ _ hs
  |bK=>simp only[iceV,aH]at h;subst h;exact .bK
  |a5=>simp only[iceV,aH]at h;subst h;exact .a5
  |bP=>simp only[iceV,aH]at h;subst h;exact .bP
  |ab=>simp only[iceV,aH]at h;subst h;exact .ab
  |ptr _=>simp[iceV]at h
  |a2 _ _ _=>simp[iceV]at h
  |map _=>simp[iceV]at h
  |bl _ _=>simp[iceV]at h
  |agg hl S=>
   simp only[iceV]at h;split at h
   .rename_i ds hds;simp only[aH]at h;subst h;have:=M ⟨hl,S⟩ hds;exact .agg this.1 this.2
   .simp at h
  |aW hl S=>
   simp only[iceV]at h;split at h
   .rename_i ds hds;simp only[aH]at h;subst h;have:=M ⟨hl,S⟩ hds;exact .aW this.1 this.2
   .simp at h
  |cb a cap=>
   simp only[iceV,sX,aH]at h;subst h;exact .cb _ _
  |ai vs hz hFx hvx hc=>
   rename_i xs b o cap z;simp only[iceV]at h;split at h
   .rename_i ys hys;simp only[aH]at h;subst h;obtain⟨h1,h2⟩:=Io hys;rw[<-h1];refine .ai vs (z:=z) (fun i Y hr=>?_) (fun i j hi hj=>hF _ _ _ (hFx i j (by rw[<-h1];exact hi) hj)) (fun i j Y c hr hcj=>?_) (by rw[h1];exact hc)
    .obtain⟨c,O,hc2⟩:=h2 i Y hr;rw[(wi hc2).1];exact hz i c O
    .obtain⟨c0,O,hc2⟩:=h2 i Y hr;obtain⟨c1,hc3,hc4⟩:=(wi hc2).2 j c hcj;exact yy C hF Z n c1 (vs i j) c (hvx i j c0 c1 O hc3) hc4
   .simp at h
  |sl hr hl hcx=>
   rename_i r F V z b o xx cap;simp only[iceV]at h;split at h
   .rename_i cs imm tip hg;split at h
    .rename_i l hil;split at h
     .rename_i U;simp only[aH]at h;subst h;obtain⟨hh,hnew⟩:=Z r b o xx cs imm tip hr hg;obtain⟨h1,h2⟩:=wi hil;have I:∀(m:Nat) c,l[m]?=some c->∃v,w.cell? ⟨b,o+F+m,none⟩=some v/\VR G2 c v:=fun m c hm=>by
       obtain⟨c0,J,O⟩:=h2 m c hm;rw[rN]at J;split at J
       .rw[rO]at J;obtain⟨v,A,hv2⟩:=hh _ _ J;exact⟨v,by rw[gU];exact A,yy C hF Z n c0 v c hv2 O⟩
       .simp at J
      have hlc:=Ee z V l;have hin:∀i j,i<V->j<z->i*z+j<l.length:=fun i j hi hj=>by
       rw[U]
       calc i*z+j<i*z+z:=by omega
        _=(i+1)*z:=by rw[nK,yq]
        _<=V*z:=vV _ hi
      have key:VR G2 (.ai (gk z V l)) (.slice (some ⟨b,o+F,none⟩) (gk z V l).length cap):=by
       refine .ai (fun i j=>(w.cell? ⟨b,o+F+(i*z+j),none⟩).getD undef) (z:=z) (fun i Y K=>(yx z V l i Y U K).1) (fun i j hi hj=>?_) (fun i j Y c K hcj=>?_) (by rw[hlc];exact hl)
       .rw[hlc]at hi;have hm:=hin i j hi hj;obtain⟨v,A,_⟩:=I (i*z+j) _ (bt hm);rw[A];have:=hnew (F+(i*z+j)) v (by rw[<-gU];exact A);rw[show o+F+i*z+j=o+(F+(i*z+j)) by omega];exact this
       .have hm:=(yx z V l i Y U K).2 j c hcj;obtain⟨v,A,hv2⟩:=I (i*z+j) c hm;rw[A];exact hv2
      rw[hlc]at key;exact key
     .simp at h
    .simp at h
   .simp at h
def Ra(w:World){G2:Gh}(V:G2.ρ=G.ρ)(A:∀b o v,G.F b o=some v->G2.F b o=some v)(h:sY m j=true)(U:bT G j vs):bT G2 j vs:=by
 unfold sY at h;split at h
 .rename_i Z Y;have:=oP h;subst this;obtain⟨F,K⟩:=wi Y;refine⟨U.1,fun i c v hc M=>?_⟩;obtain⟨c0,J,O⟩:=K i c hc;rw[hc]at J;simp only[aH]at J;subst J;exact yy (H:=bV) (w:=w) V A (fun r b o x cs S I _ C=>by simp[Q9]at C) m c v c (U.2 i c v hc M) O
 .simp at h
def Ei{f:FuncId}{r:AV}(h:nG P ih f j H=.val r H'):∃Y,P.funcs[f]?=some Y/\Y.body.isSome=true:=by
 unfold nG at h;split at h
 .rename_i Y Z;split at h
  .rename_i c z;exact⟨Y,Z,by simp[z]⟩
  .simp at h
 .simp at h
theorem Rb{ρ:Nat->Int}(K:∀f j r,cfg.call f j=some r->bJ P ρ f j r){f:FuncId}{j:qm}{r:AV}(h:dw P cfg n (.call f j H)=.val r H'):
 ∃Y,P.funcs[f]?=some Y/\Y.body.isSome=true:=by
 cases n with
 |zero=>simp[dw]at h
 |succ n=>
  have C:dw P cfg (n+1)=step P cfg (dw P cfg n):=rfl;rw[C]at h;simp only[step]at h;split at h
  .rename_i I hr;exact(K f j I hr).1
  .have U:∀{r:AV}{H':Hp},nI P cfg (dw P cfg n) f j H=.val r H'->∃Y,P.funcs[f]?=some Y/\Y.body.isSome=true:=fun{r H'} h=>by
    unfold nI at h;split at h
    .unfold xZ at h;split at h
     .split at h
      .rename_i hr;exact(K _ _ _ hr).1
      .exact Ei h
     .exact Ei h
    .exact Ei h
   unfold vT at h;split at h
   .rename_i Z;exact U Z
   .exact U h
def Ip(fit:Fit P){ρ:Nat->Int}(hD:mH cfg.cj ρ)(z:∀f Z r,cfg.call f Z=some r->bJ P ρ f Z r){f:FuncId}{Z:qm}{r:AV}
 (hp:sY k Z=true) (h:Al P cfg n m f Z=some r):bJ P ρ f Z r:=by
 unfold Al at h;split at h
 .rename_i v0 H' O;refine⟨Rb z O,fun G w vs K M U=>?_⟩;subst K;have F:bT {G with β:=fun _=>none} Z vs:=Ra w (G:=G) (G2:={G with β:=fun _=>none}) rfl (fun _ _ _ h=>h) hp U;have C:R ⟨w.heap.size,G.ρ,cfg⟩ bV w {G with β:=fun _=>none}:=R.start (G:={G with β:=fun _=>none}) M (fun _=>rfl) hD;refine((In (B:=⟨w.heap.size,G.ρ,cfg⟩) fit z n).call f Z bV _ H' O _ w vs C F).2.mono fun e A hh=>?_;obtain⟨x,G',rfl,hx,Y⟩:=hh;have S:Below w.heap.size w A:=⟨Y.fr.os,Y.fr.tape,Y.fr.output,Y.fr.size,fun k hk=>Y.fr.block k hk (fun r b o x hr=>by simp at hr)⟩;refine⟨x,fun b o=>if b<w.heap.size then G.F b o else A.cell? ⟨b,o,none⟩,rfl,?_,S,fun b o v U=>?_,fun b o v U=>?_,fun b o v U=>?_⟩
  .refine yy (G:=G') (w:=A) (H:=H') ?_ (fun b o v U=>?_) (fun r b o x cs J I hr hg=>?_) m v0 x r hx h
   .exact Y.ext.ρ.symm
   .rcases Y.ef b o v U with V|V
    .show(if b<w.heap.size then G.F b o else A.cell? ⟨b,o,none⟩)=some v;rw[au (nM (M b o v V))];exact V
    .show(if b<w.heap.size then G.F b o else A.cell? ⟨b,o,none⟩)=some v;rw[ad (by have:w.heap.size<=b:=V;omega)];exact Y.r.dr b o v U
   .refine⟨Y.r.cells r b o x cs J I hr hg,fun j v hj=>?_⟩;have V:w.heap.size<=b:=(Y.r.lt r b o x hr).1;show(if b<w.heap.size then G.F b (o+j)else A.cell? ⟨b,o+j,none⟩)=some v;rw[ad aa];exact hj
  .rw[au (nM (M b o v U))];exact U
  .split at U
   .exact .inl U
   .exact .inr aa
  .split at U
   .rename_i hb;rw[(Ed S hb).1];exact M b o v U
   .exact U
 .simp at h
def Rd{ρ:Nat->Int}{f:FuncId}{b:Bool}(h:bJ P ρ f j (.bool b)){F:Nat->Nat->qH}
 (Z:∀b o v,F b o=some v->w.cell? ⟨b,o,none⟩=some v) (U:bT ⟨fun _=>none,F,ρ⟩ j vs) :
 Calls P f vs.toArray w (fun e A=>e=.returned (.bool b)/\Below w.heap.size w A):=by
 refine(h.2 ⟨fun _=>none,F,ρ⟩ w vs rfl Z U).mono fun e A M=>?_;obtain⟨v,O,rfl,hr,C⟩:=M;cases hr;exact⟨rfl,C.below⟩
def Re(fit:Fit P){ρ:Nat->Int}(o:mH cfg.cj ρ)(K:∀f j r,cfg.call f j=some r->bJ P ρ f j r){f:FuncId}{j:qm}{r:AV}
 (J:sY k j=true) (h:Do P cfg n m f j r=true):bJ P ρ f j r:=by
 unfold Do at h;split at h
 .rename_i q F;rw[<-AV.aM h];exact Ip fit o K J F
 .simp at h
def mL(ρ:Nat->Int):mH (fun _ _ _=>none) ρ:=fun _ _ _ _ _ h=>lC
def nR(P:Program)(ρ:Nat->Int):List (FuncId×qm×AV)->Prop
 |[]=>True
 |p::l=>bJ P ρ p.1 p.2.1 p.2.2/\nR P ρ l
theorem AT{P:Program}{ρ:Nat->Int}:∀{l:List (FuncId×qm×AV)},nR P ρ l->∀f j r,uy l f j=some r->bJ P ρ f j r
 |[],_,_,_,_,h=>by simp[uy]at h
 |p::l,hk,f,j,r,h=>by
  simp only[uy]at h;split at h
  .rename_i m;split at h
   .rename_i V;simp only[aH]at h;subst h;rw[<-ib m,<-oP V];exact hk.1
   .exact AT hk.2 f j r h
  .exact AT hk.2 f j r h
def wj:List (Nat×Nat×zdk)->FuncId->Nat->zdk
 |[],_,_=>.text
 |p::l,f,id=>match Nat.beq p.1 f with
  |true=>match Nat.beq p.2.1 id with
   |true=>p.2.2
   |false=>wj l f id
  |false=>wj l f id
def Rf(pls:List (Nat×Nat×zdk))(l:List (FuncId×qm×AV)):Cfg:={aj:=fun _=>false,call:=uy l,ao:=fun f=>l.any fun p=>Nat.beq p.1 f,bI:=wj pls}
def tj(fit:Fit P){ρ:Nat->Int}{pls:List (Nat×Nat×zdk)}{l:List (FuncId×qm×AV)}(K:nR P ρ l){f:FuncId}{r:AV}
 (J:sY k j=true) (h:Do P (Rf pls l) n m f j r=true):bJ P ρ f j r:=Re fit (mL ρ) (AT K) J h
def Iq(P:Program):Bool:=P.funcs.all (fun Y=>!(Y.body.isSome&&Y.name == "runtime.NumGoroutine"))&&P.follows .mixedOrders
def Fit.of(h:Iq P=true):Fit P:=by
 simp only[Iq,cN]at h;refine⟨fun f Y m z=>?_,h.2⟩;have j:=h.1;rw[DX]at j;have:=j Y (by exact Array.mem_of_getElem? m);simpa [z]using this
section
variable {H:Type} {enc:TypeId × Value -> H} {P:Program}
def Rg{f:Func}{s:ChangeSpec}{apart O V K:Bool}{W I:World}{Z:Array Value}{v:Value}{C F:List (DataW H)}{m A pv:List MemPlace}
 (hW:DataW.Whole enc P f.params.toList s.vars apart W Z.toList C F m)
 (M:∀(b:Nat) (J:Nat->Bool) (hd:Bool),DataW.TrodAll enc P I b J hd f.resultTypes.toList (v.resultList f.resultTypes.size) (s.fn H (C++F)).results [])
 (o:∀J:Nat->Bool,(∀p∈m,J p.block=true)->DataW.TrodAll enc P I 0 J true f.params.toList Z.toList (s.fn H (C++F)).args A)
 (Y:∀J:Nat->Bool,(∀p∈m,J p.block=true)->DataW.TrodVars enc P I J s.vars (s.fn H (C++F)).vars pv)
 (U:m=A++pv) (hb:Below W.heap.size W I)
 (hok:∀(j:Nat) (t:TypeId) (r:Value),f.resultTypes[j]?=some t->(v.resultList f.resultTypes.size)[j]?=some r->Value.okWide P I .any 0 t r) :
 s.post enc P f apart O V K W Z v I:=by
 have hlt:∀p∈m,p.block<W.heap.size:=fun p hp=>hW.lt p hp;have S:∀p∈m,(fun b=>decide (b<W.heap.size)) p.block=true:=fun p hp=>by simpa using hlt p hp
 refine⟨C,F,m,[],A,pv,hW,M _ _ _,o _ S,Y _ S,World.keptBut_mono (fun p hp=>⟨hp,?_⟩) (hb.frame (·∈ m)),fun _=>?_⟩
 .rw[U,nN]at hp;exact Or.inr hp
 .obtain⟨_,_,_,_,_,hz,hn⟩:=hW;refine⟨hok,_,_,([]++A)++pv,⟨[]++A,pv,trodAll_append (o _ (fun _ _=>rfl)) (M _ _ _),Y _ (fun _ _=>rfl),rfl,?_,?_⟩,?_⟩
  .intro b z hp;have hin:MemPlace.cell b z∈m:=by rw[U];simpa using hp
   rw[hb.frozen (hlt _ hin)];exact hz b z hin
  .intro ha;have:=hn ha;rw[U]at this;simpa using this
  .intro p hp _;rw[U];simpa using hp
end
open Go
def mM(ih ih':zdc->Res):Prop:=∀t,ih t≠.ay->ih' t=ih t
section
variable {P:Program} {cfg:Cfg} {ih ih':zdc -> Res}
def AU(h:mM ih ih'){f:FuncId}{op:Op}(I:ej P cfg ih f E H op≠.ay):ej P cfg ih' f E H op=ej P cfg ih f E H op:=by
 unfold ej at *;split
 .rename_i c;unfold sT at *;split
  .rename_i g C;simp only[C]at I;split
   .rename_i k S vs j m;simp only[j,m]at I;exact h _ I
   .rfl
  .rfl
  .rfl
 .rfl
theorem yz{Z:qs}:jA P cfg ih f N Z (o::l) E H=match jc Z E o with
 |true=>match ej P cfg ih f E H o.op with
  | .val v H=>jN (jA P cfg ih f N Z l) H (fo N E o.dst v)
  |_=>.ay
 |false=>jN (jA P cfg ih f N Z l) H (fo N E o.dst ea):=rfl
theorem AW(h:mM ih ih'){f N:Nat}{Z:qs}:∀{l:qs}{E:aD}{H:Hp},jA P cfg ih f N Z l E H≠.ay->jA P cfg ih' f N Z l E H=jA P cfg ih f N Z l E H
 |[],_,_,_=>rfl
 |o::l,E,H,hn=>by
  rw[yz]at hn⊢;rw[yz];cases J:jc Z E o with
  |true=>
   simp only[J]at hn⊢;cases M:ej P cfg ih f E H o.op with
   |ay=>simp[M]at hn
   |done x E1 H1=>simp[M]at hn
   |val v H1=>
    rw[AU h (by rw[M];simp),M];simp only[M]at hn⊢;cases hp:fo N E o.dst v with
    |none=>rfl
    |some E1=>
     rw[hp]at hn;exact AW h hn
  |false=>
   simp only[J]at hn⊢;cases hp:fo N E o.dst ea with
   |none=>rfl
   |some E1=>
    rw[hp]at hn;exact AW h hn
theorem AY(h:mM ih ih'){f N:Nat}{Z:qs}:∀{l:qs}{E:aD}{H:Hp},jd P cfg ih f N Z l E H≠.ay->jd P cfg ih' f N Z l E H=jd P cfg ih f N Z l E H
 |[],_,_,_=>rfl
 |o::l,E,H,hn=>by
  have j:∀{r:Rec}{x:zdt},nE r x≠.ay->x≠.ay:=fun{r x} hx e=>hx (by rw[e];rfl);simp only[jd]at hn⊢;cases J:jc Z E o with
  |true=>
   simp only[J]at hn⊢;cases M:ej P cfg ih f E H o.op with
   |ay=>simp[M]at hn
   |done x E1 H1=>simp[M]at hn
   |val v H1=>
    rw[AU h (by rw[M];simp),M];simp only[M]at hn⊢;cases hp:fo N E o.dst v with
    |none=>rfl
    |some E1=>
     rw[hp]at hn;have:=AY h (j hn);simp only[nF,this]
  |false=>
   simp only[J]at hn⊢;cases hp:fo N E o.dst ea with
   |none=>rfl
   |some E1=>
    rw[hp]at hn;have:=AY h (j hn);simp only[nF,this]
def AZ(h:mM ih ih'){ops:qs}(I:jf P cfg ih f N ops E H≠.ay):jf P cfg ih' f N ops E H=jf P cfg ih f N ops E H:=by
 unfold jf at *;split
 .rename_i hc;simp only[hc]at I;cases hr:jd P cfg ih f N ops ops E H with
  |ay=>simp[hr]at I
  |done E1 H1 rs=>rw[AY h yl,hr]
 .rfl
theorem Rh{ops:qs}{aw a1 m o:Res}(h1:aw≠.ay->m=aw)(h2:a1≠.ay->o=a1)(I:sW ops aw a1≠.ay):sW ops m o=sW ops aw a1:=by
 have Z:aw≠.ay:=fun e=>I (by rw[e];rfl);have Y:a1≠.ay:=fun e=>I (by rw[e];unfold sW;split<;>simp_all);rw[h1 Z,h2 Y]
theorem Ej(h:mM ih ih'){f N:Nat}{E:aD}{H:Hp}:∀{K:zdk}{ops:qs},jg P cfg ih f N E H K ops≠.ay->jg P cfg ih' f N E H K ops=jg P cfg ih f N E H K ops
 | .text,ops,hn=>AZ h hn
 | .bm ord,ops,hn=>by
   simp only[jg]at *;split
   .rename_i hp;simp only[hp]at hn;exact AZ h hn
   .rfl
 | .split p q a b,ops,hn=>by
   simp only[jg]at *;split
   .rfl
   .rename_i hp;simp only[hp]at hn;exact Rh (fun j=>Ej h j) (fun m=>Ej h m) hn
def Ek(h:mM ih ih'){f:FuncId}(I:nG P ih f j H≠.ay):nG P ih' f j H=nG P ih f j H:=by
 unfold nG at *;split
 .rename_i Y m;simp only[m]at I;split
  .rename_i c z;simp only[z]at I;cases hr:ih (.aw f (max Y.ntmps j.length) c (a3 0 j (uw (max Y.ntmps j.length))) H)with
   |ay=>simp[hr]at I
   |val v H1=>rw[h _ yl,hr]
   |done x E1 H1=>rw[h _ yl,hr]
  .rfl
 .rfl
def Ri(h:mM ih ih'){f:FuncId}(I:nI P cfg ih f j H≠.ay):nI P cfg ih' f j H=nI P cfg ih f j H:=by
 unfold nI at *;split
 .rename_i F;simp only[F]at I;unfold xZ at *;split
  .rename_i Z H' S;simp only[S]at I;split
   .rfl
   .rename_i Y;simp only[Y]at I;exact Ek h I
  .rename_i S;simp only[S]at I;exact Ek h I
 .rename_i F;simp only[F]at I;exact Ek h I
theorem Ir(h:mM ih ih'){r':Res}(hr:r≠.ay->r'=r)(I:nH ih f N b r≠.ay):nH ih' f N b r'=nH ih f N b r:=by
 cases r with
 |ay=>simp[nH]at I
 |val v H1=>rw[hr aI];rfl
 |done x E1 H1=>
  rw[hr aI];cases x with
  |normal=>exact h _ I
  |exit id=>rfl
  |ret=>rfl
theorem Rj(h:mM ih ih')(I:step P cfg ih t≠.ay):step P cfg ih' t=step P cfg ih t:=by
 cases t with
 |call f j H=>
  simp only[step]at *;split
  .rfl
  .rename_i hc;simp only[hc]at I;have U:nI P cfg ih f j H≠.ay:=fun e=>I (by rw[e];unfold vT;split<;>simp_all);rw[Ri h U]
 |aw f N c E H=>
  cases c with
  |region id ops draw=>cases draw with
   |false=>exact AW h I
   |true=>exact Ej h I
  |seq a b=>exact Ir h (h _) I
  |loop a=>exact Ir h (h _) I
  |cond x a b=>
   simp only[step]at *;unfold ux at *;split
   .rename_i hc;simp only[hc]at I;exact h _ I
   .rename_i hc;simp only[hc]at I;exact h _ I
   .rfl
  |block id a=>
   simp only[step]at *;cases hr:ih (.aw f N a E H)with
   |ay=>simp[hr,mE]at I
   |val v H1=>rw[h _ yl,hr]
   |done x E1 H1=>rw[h _ yl,hr]
  |_=>rfl
theorem Is:∀n,mM (dw P cfg n) (dw P cfg (n+1))
 |0=>fun _ I=>(I rfl).elim
 |n+1=>fun _ I=>Rj (Is n) I
def yA(M:n<=m)(I:dw P cfg n t≠.ay):dw P cfg m t=dw P cfg n t:=by
 induction m with
 |zero=>rw[show n=0 by omega]
 |succ m ih=>
  by_cases h:n=m+1
  .rw[h]
  .have:=ih aa;rw[Is m t (by rw[this];exact I),this]
def A0(M:n<=m)(h:dw P cfg n t=r)(hr:r≠.ay):dw P cfg m t=r:=by
 rw[yA M (by rw[h];exact hr),h]
def dm(P:Program)(cfg:Cfg)(t:zdc)(r:Res):Prop:=r≠.ay/\∃n,dw P cfg n t=r
def dm.step(hr:r≠.ay)(h:Ab.step P cfg (dw P cfg n) t=r):dm P cfg t r:=⟨hr,n+1,h⟩
def jT:=@dm.step
section
variable {f N id:Nat} {a b:Code} {x:Operand} {E E1:aD} {H H1:Hp} {r:Res} {ex:AX}
def dm.seq(h1:dm P cfg (.aw f N a E H) (.done .normal E1 H1))(h2:dm P cfg (.aw f N b E1 H1) r):dm P cfg (.aw f N (.seq a b) E H) r:=by
 obtain⟨_,n,h1⟩:=h1;obtain⟨hr,m,h2⟩:=h2;refine jT hr (n:=max n m) ?_;show nH (dw P cfg (max n m)) f N b (dw P cfg (max n m) (.aw f N a E H))=r;rw[A0 (AO n m) h1 aI];exact A0 (AP n m) h2 hr
theorem It(h1:dm P cfg (.aw f N a E H) (.done ex E1 H1))(O:ex≠.normal):dm P cfg (.aw f N (.seq a b) E H) (.done ex E1 H1):=by
 obtain⟨hr,n,h1⟩:=h1;refine jT hr (n:=n) ?_;show nH (dw P cfg n) f N b (dw P cfg n (.aw f N a E H))=_;rw[h1];cases ex with
 |normal=>exact(O rfl).elim
 |exit id=>rfl
 |ret=>rfl
def dm.loop(h1:dm P cfg (.aw f N a E H) (.done .normal E1 H1))(h2:dm P cfg (.aw f N (.loop a) E1 H1) r):dm P cfg (.aw f N (.loop a) E H) r:=by
 obtain⟨_,n,h1⟩:=h1;obtain⟨hr,m,h2⟩:=h2;refine jT hr (n:=max n m) ?_;show nH (dw P cfg (max n m)) f N (.loop a) (dw P cfg (max n m) (.aw f N a E H))=r;rw[A0 (AO n m) h1 aI];exact A0 (AP n m) h2 hr
theorem Iu(h1:dm P cfg (.aw f N a E H) (.done ex E1 H1))(O:ex≠.normal):dm P cfg (.aw f N (.loop a) E H) (.done ex E1 H1):=by
 obtain⟨hr,n,h1⟩:=h1;refine jT hr (n:=n) ?_;show nH (dw P cfg n) f N (.loop a) (dw P cfg n (.aw f N a E H))=_;rw[h1];cases ex with
 |normal=>exact(O rfl).elim
 |exit id=>rfl
 |ret=>rfl
def Rk(O:aV E x=some (.bool true))(h:dm P cfg (.aw f N a E H) r):dm P cfg (.aw f N (.cond x a b) E H) r:=by
 obtain⟨hr,n,h⟩:=h;refine jT hr (n:=n) ?_;show ux (dw P cfg n) f N x a b E H=r;unfold ux;rw[O];exact h
def Rl(O:aV E x=some (.bool false))(h:dm P cfg (.aw f N b E H) r):dm P cfg (.aw f N (.cond x a b) E H) r:=by
 obtain⟨hr,n,h⟩:=h;refine jT hr (n:=n) ?_;show ux (dw P cfg n) f N x a b E H=r;unfold ux;rw[O];exact h
def dm.block(h:dm P cfg (.aw f N a E H) (.done (.exit id) E1 H1)):dm P cfg (.aw f N (.block id a) E H) (.done .normal E1 H1):=by
 obtain⟨hr,n,h⟩:=h;refine jT aI (n:=n) ?_;show mE id (dw P cfg n (.aw f N a E H))=_;rw[h];simp[mE]
theorem Rm(h:dm P cfg (.aw f N a E H) (.done .normal E1 H1)):dm P cfg (.aw f N (.block id a) E H) (.done .normal E1 H1):=by
 obtain⟨hr,n,h⟩:=h;refine jT aI (n:=n) ?_;show mE id (dw P cfg n (.aw f N a E H))=_;rw[h];rfl
theorem Rn(h:dm P cfg (.aw f N a E H) (.done .ret E1 H1)):dm P cfg (.aw f N (.block id a) E H) (.done .ret E1 H1):=by
 obtain⟨hr,n,h⟩:=h;refine jT aI (n:=n) ?_;show mE id (dw P cfg n (.aw f N a E H))=_;rw[h];rfl
def Ro(o:Nat.beq Z id=false)(h:dm P cfg (.aw f N a E H) (.done (.exit Z) E1 H1)):dm P cfg (.aw f N (.block id a) E H) (.done (.exit Z) E1 H1):=by
 obtain⟨hr,n,h⟩:=h;refine jT aI (n:=n) ?_;show mE id (dw P cfg n (.aw f N a E H))=_;rw[h];simp only[mE,o]
theorem dm.skip:dm P cfg (.aw f N .skip E H) (.done .normal E H):=jT aI (n:=0) rfl
theorem dm.exit:dm P cfg (.aw f N (.exit id) E H) (.done (.exit id) E H):=jT aI (n:=0) rfl
theorem dm.ret:dm P cfg (.aw f N .ret E H) (.done .ret E H):=jT aI (n:=0) rfl
def dm.region(h:jA P cfg (dw P cfg n) f N ops.toList ops.toList E H=r)(hr:r≠.ay):dm P cfg (.aw f N (.region id ops false) E H) r:=jT hr (n:=n) h
def dm.br(h:jg P cfg (dw P cfg n) f N E H (cfg.bI f id) ops.toList=r)(hr:r≠.ay):dm P cfg (.aw f N (.region id ops true) E H) r:=jT hr (n:=n) h
def dm.call(o:cfg.call f j=none)(F:cfg.ao f=false)(Y:cfg.am f=false)(m:P.funcs[f]?=some fn)(z:fn.body=some c)
 (h:dm P cfg (.aw f (max fn.ntmps j.length) c (a3 0 j (uw (max fn.ntmps j.length))) H) (.done ex E1 H1)) (O:ex=.normal\/ex=.ret) (M:vS P fn.results.toList E1 H1=.val v H1):dm P cfg (.call f j H) (.val v H1):=by
 obtain⟨_,n,h⟩:=h;refine jT aI (n:=n) ?_;simp only[Ab.step,o,F,Y,nI,vT];unfold nG;simp only[m,z,h];rcases O with rfl|rfl<;>exact M
end
end
noncomputable section
open Go
def ov(L:qB)(d:Nat->AV):Nat->AV:=
 List.rec (motive:=fun _=>Nat->AV) d (fun p _ M k=>ja (Nat.beq p.1 k) p.2 (M k)) L
end
end Go.Ab
