/- Lemmas for the last file. -/
import Derived.Below
import Derived.ChangeSame
import Derived.Orders
import Derived.Test.YtbflaciihaijgaaSEC
set_option linter.all false
set_option maxHeartbeats 32000000
namespace Go.Ab
set_option maxRecDepth 20000
open Go
variable{qb:Prop}
def eF(h:qb:=by simpa using h):=h
def md(h:qb:=by simpa using W):=h
def k1(h:qb:=by rw[e]):=h
def k2(h:qb:=by simp at h):=h
def vU(h:qb:=by rw[Y.size];exact(List.getElem?_eq_some_iff.1 M).1):=h
def vV(h:qb:=by rw[hs];have:=(List.getElem?_eq_some_iff.1 J).1;simpa using this):=h
def vW(h:qb:=by rw[List.length_take,List.length_drop];omega):=h
def nW(h:qb:=by rw[hr];simp):=h
def fg:=@List.mem_cons
def me:=@List.mem_append
def k3:=@List.mem_range
def nX:=@Bool.not_true
def nY:=@Bool.false_or
def nZ:=@List.mem_filter
def iM:=@Array.getElem?_eq_getElem
def mg:=@Bool.not_eq_true'
def tg:=@Array.all_eq_true_iff_forall_mem
def fZ:=@Bool.or_eq_true
def n0:=@List.mem_map
def ob:=@Nat.lt_or_ge
def th:=@Array.getElem?_eq_none
def pV:=@Nat.lt_trichotomy
def og:=@List.eq_nil_iff_forall_not_mem
def j6:=@List.getElem?_eq_none
def vX:=@Array.getElem?_replicate
def gN:=@List.mem_cons_self
def iN:=@List.mem_cons_of_mem
def iO:=@List.map_append
def vY:=@Option.isSome_iff_exists
def ti:=@List.mem_iff_getElem?
def k4:=@Bool.and_self
def pW:=@Nat.one_mul
def k5:=@true_and
def pX:=@Nat.le_max_left
def pY:=@Nat.le_max_right
end Go.Ab
namespace Go.Ab
set_option maxRecDepth 20000
open Go Go.RowKit
variable{i j f N V n m q p k:Nat}{l Y:qj}{o L:Oper}{D:Nat->Prop}{ops:qv}{F y:qr}{ih:zad->Res}{E0 E' I E Z:ae}{H' H:Hp}{rs:List Rec}{G O G0:Gh}{a:Act}{t:zad}{w w' w0:World}{Q:Exit->Act->World->Prop}{x:AX}{P:Program}{S:qp}{v:Value}{r:AV}{vs:ql}{b c:Code}
theorem tj{i:Nat}:∀{l S:qp},i∈lW S l↔i∈S\/i∈l
 |[],S=>by simp[lW]
 |x::xs,S=>by
  simp only[lW];split
  .rename_i h;have U:x∈S:=eF;rw[tj,fg];exact⟨fun h=>h.elim .inl (fun h=>.inr (.inr h)),fun h=>h.elim .inl (fun h=>h.elim (fun e=>.inl (by subst e;exact U)) .inr)⟩
  .rw[tj,fg,fg];exact⟨fun h=>h.elim (fun h=>h.elim (fun e=>.inr (.inl e)) .inl) (fun h=>.inr (.inr h)),fun h=>h.elim (fun h=>.inl (.inr h)) (fun h=>h.elim (fun e=>.inl (.inl e)) .inr)⟩
def A5{l:qp}:i∈nz l↔i∈l:=by unfold nz;rw[tj];simp
theorem tk:∀(l:qj) (S:List qp) (i:Nat),i<S.length->(dc l S).getD i []=S.getD i []
 |[],S,i,_=>rfl
 |o::l,S,i,h=>by
  simp only[dc];rw[tk l _ i dj];simp[List.getD,h8 h]
theorem vZ:∀(l:qj) (S:List qp) (j:Nat) (o:Oper),l[j]?=some o ->
 ∃J:List qp,J.length=S.length+j/\(∀i,i<J.length->(dc l S).getD i []=J.getD i [])/\(dc l S).getD (S.length+j) []=nz (preds o++(preds o).flatMap fun i=>J.getD i [])
 |[],_,_,_,h=>by simp at h
 |o::l,S,0,o',h=>by
  simp at h;subst h;refine⟨S,rfl,fun i I=>tk _ _ i I,?_⟩;simp only[dc,iJ];rw[tk l _ S.length aK];simp[List.getD]
 |o::l,S,j+1,o',h=>by
  obtain⟨J,m,Z,F⟩:=vZ l (S++[nz (preds o++(preds o).flatMap fun i=>S.getD i [])]) j o' eF;simp only[lZ,de,l0]at m F;refine⟨J,aa,Z,?_⟩;simp only[dc];rw[show S.length+(j+1)=S.length+(0+1)+j by omega];exact F
def A6(V:l[j]?=some o)(J:∀p∈preds o,p<j):
 i∈(dc l []).getD j []↔i∈preds o\/∃p∈preds o,i∈(dc l []).getD p []:=by
 obtain⟨Y,m,W,F⟩:=vZ l [] j o V;simp only[l0,dd]at m F;rw[F,A5,me,List.mem_flatMap];constructor
 .rintro(h|⟨p,L,Z⟩)
  .exact .inl h
  .exact .inr ⟨p,L,by rw[W p (by rw[m];exact J p L)];exact Z⟩
 .rintro(h|⟨p,L,Z⟩)
  .exact .inl h
  .exact .inr ⟨p,L,by rw[<-W p (by rw[m];exact J p L)];exact Z⟩
structure zaj (l:qj):Prop where
 lt:∀j o,l[j]?=some o->∀p∈preds o,p<j
 guard:∀j o g b,l[j]?=some o->o.guard=some (g,b)->g∈(dc l []).getD j []
 clash:∀i j p q,i<j->l[i]?=some p->l[j]?=some q->Ab.clash l p q=true->i∈(dc l []).getD j []
def A7(h:jW l=true):zaj l:=by
 unfold jW at h;simp only[fU,k3]at h;have J:∀j o,l[j]?=some o->(∀p∈preds o,p<j)/\(∀g b,o.guard=some (g,b)->g∈(dc l []).getD j [])/\∀i p,i<j->l[i]?=some p->Ab.clash l p o=true->i∈(dc l []).getD j []:=fun j o Z=>by
  have:=h j (ci.1 Z).1;rw[Z]at this;simp only[cI,fU,dE,k3]at this;obtain⟨⟨m,Y⟩,F⟩:=this;refine⟨m,fun g b L=>?_,fun i p I hp hc=>?_⟩
  .rw[L]at Y;simpa using Y
  .have:=F i I;rw[hp]at this;simp only[hc,nX,nY]at this;simpa using this
 exact⟨fun j o Z=>(J j o Z).1,fun j o g b Z=>(J j o Z).2.1 g b,fun i j p q S I V=>(J j q V).2.2 i p S I⟩
def tl(W:zaj l)(F:∀j,D j->∀o,l[j]?=some o->∀p∈preds o,D p):
 ∀(j:Nat) o,l[j]?=some o->(∀p∈preds o,D p)->∀i∈(dc l []).getD j [],D i:=by
 intro j;induction j using Nat.strongRecOn with
 |_ j ih=>
  intro o J hp i I;rcases(A6 J (W.lt j o J)).1 I with h|⟨p,L,Z⟩
  .exact hp i h
  .have Y:=W.lt j o J p L;have V:=(ci.1 J).1;have m:l[p]?=some (l[p]' aa):=bq aa;exact ih p Y _ m (fun q A=>F p (hp p L) _ m q A) i Z
def gO:i∈dL l↔∃o,l[i]?=some o/\fR o=true:=by
 unfold dL;rw[nZ,k3];constructor
 .rintro⟨m,Z⟩;rw[bq m]at Z;exact⟨_,bq m,Z⟩
 .rintro⟨o,m,Z⟩;exact⟨(ci.1 m).1,by rw[m];exact Z⟩
def fh:i∈Region.ready .any ops F↔∃o,ops.toList[i]?=some o/\F.getD i true=false/\∀p∈preds o,F.getD p false=true:=by
 unfold Region.ready preds;rw[nZ,k3,nQ];constructor
 .rintro⟨m,Z⟩;rw[iM m]at Z;simp only[cI,mg,eB,bQ,tg,fZ]at Z;refine⟨_,iM m,Z.1,fun p hp=>?_⟩;simp only[n0,nZ]at hp;obtain⟨e,⟨U,Y⟩,rfl⟩:=hp;rcases Z.2 e (by simpa using U)with h|h
  .rw[Y]at h;simp at h
  .exact h
 .rintro⟨o,m,Z,V⟩;have I:i<ops.size:=by
   rcases ob i ops.size with h|h
   .exact h
   .rw[th h]at m;simp at m
  refine⟨I,?_⟩;rw[m];simp only[cI,mg,eB,bQ,tg,fZ];refine⟨Z,fun e W=>?_⟩;cases C:Region.binds .any e with
  |false=>exact .inl rfl
  |true=>exact .inr (V e.on (by simp only[n0,nZ];exact⟨e,⟨md,C⟩,rfl⟩))
theorem tm{l:qj}:∀(k s:Nat),s+k=l.length->∃m,s<=m/\m<=l.length/\(m=l.length\/m∈dL l)/\∀j,s<=j->j<m->j∉dL l
 |0,s,hs=>⟨s,aA _,aa,.inl aa,fun j Z o=>aa⟩
 |k+1,s,hs=>by
  by_cases h:s∈dL l
  .exact⟨s,aA _,aa,.inr h,fun j Z o=>aa⟩
  .obtain⟨m,Z,o,F,Y⟩:=tm (l:=l) k (s+1) aa;refine⟨m,aa,o,F,fun j V C=>?_⟩;by_cases e:j=s
   .subst e;exact h
   .exact Y j aa C
section
variable {P:Program} {B:Bs} {cfg:Cfg}
structure Ctx (P:Program) (cfg:Cfg) (ih:zad->Res) (f N:Nat) (l:qj) (E0:ae) (bA:Hp) (E':ae) (H':Hp) (rs:List Rec):Prop where
 calm:zaj l
 len:rs.length=l.length
 cH:∀(i:Nat) (r:Rec),rs[i]?=some r->∃o,l[i]?=some o/\AtD P cfg ih f N l o r (cR rs E' i) (cR rs E' (i+1)) (a7 rs H' i) (a7 rs H' (i+1))
 zeroE:cR rs E' 0=E0
 df:a7 rs H' 0=bA
 next:∀i,i<l.length->(a7 rs H' i).next<=(a7 rs H' (i+1)).next
 bV:∀(i:Nat) (r:Rec),rs[i]?=some r->r.did=true->∀m,(m∈dL l\/m=l.length)->(∀e∈dL l,e∈(dc l []).getD i []->e<m)->(∀e∈dL l,i∈(dc l []).getD e []->m<=e) ->
  zaQ P cfg r (a7 rs H' m)=true
def A8{bA:Hp}(hc:jW l=true)(hr:dK P cfg ih f N l l E0 bA=.done E' H' rs)(L:kH P cfg (iG l) rs H'=true):
 Ctx P cfg ih f N l E0 bA E' H' rs:=by
 have M:=nV hr;obtain⟨z1,z2⟩:=td M;have Y:=tc M;unfold kH at L;simp only[cI,fU]at L;refine⟨A7 hc,Y,fun i r I=>kZ M I,z1,z2,fun i I=>?_,fun i r I hd m hm h1 h2=>?_⟩
 .have hi':i<rs.length:=by omega
  have O:=bq hi';obtain⟨o,_,J⟩:=kZ M O;have h3:=nP (L.1 _ (fY O));rw[J.eH,J.eH']at h3;exact h3
 .obtain⟨o,ho,J⟩:=kZ M I;have W:pD (dc l []) (dL l) i m=true:=by
   unfold pD;simp only[mg,sJ,List.any_eq_false,cI,not_and];refine⟨fun e F C hle=>?_,fun e F C hlt=>?_⟩
   .have:=h1 e F (by simpa using C);have:=nP hle;omega
   .have:=h2 e F (by simpa using C);have:e<m:=by simpa [fA]using hlt
    omega
  have V:∀k,cS o.op=k->(k=.read\/k=.make)->(i,m)∈iG l:=fun k A hor=>by
   unfold iG;rw[List.mem_flatMap];refine⟨i,k3.2 (ci.1 ho).1,?_⟩;rw[ho];have U:(i,m)∈((dL l++[l.length]).filter (pD (dc l []) (dL l) i)).map fun m=>(i,m):=
    n0.2 ⟨m,nZ.2 ⟨by simpa using hm,W⟩,rfl⟩
   rcases hor with rfl|rfl<;>simp only[A]<;>exact U
  have Z:(i,m)∈iG l->zaQ P cfg r (a7 rs H' m)=true:=fun h=>by
   have:=L.2 _ h;simp only[I,hd,nX,nY]at this;exact this
  have S:r.o=o:=J.eo;cases A:cS o.op with
  |read=>exact Z (V _ A (.inl rfl))
  |make=>exact Z (V _ A (.inr rfl))
  |calm=>unfold zaQ;rw[S,A]
  |ck=>unfold zaQ;rw[S,A]
section
variable {ih:zad -> Res} {f N:Nat} {ops:qv} {E0 E':ae} {bA H':Hp} {rs:List Rec} (cx:Ctx P cfg ih f N ops.toList E0 bA E' H' rs)
include cx
def Ctx.bZ(J:ops.toList[i]?=some o):∃r,rs[i]?=some r/\AtD P cfg ih f N ops.toList o r (cR rs E' i) (cR rs E' (i+1)) (a7 rs H' i) (a7 rs H' (i+1)):=by
 have I:i<rs.length:=by rw[cx.len];exact(ci.1 J).1
 obtain⟨L,m,Z⟩:=cx.cH i _ (bq I);rw[J]at m;simp only[ak]at m;subst m;exact⟨_,bq I,Z⟩
theorem Ctx.dR:∀(d s:Nat),s+d<=ops.toList.length->(∀j,s<=j->j<s+d->j∉dL ops.toList) ->
 (a7 rs H' s).next<=(a7 rs H' (s+d)).next/\∀r,r<(a7 rs H' s).next->(a7 rs H' (s+d)).get r=(a7 rs H' s).get r
 |0,s,_,_=>⟨aA _,fun _ _=>rfl⟩
 |d+1,s,hs,hn=>by
  obtain⟨U,o⟩:=Ctx.dR d s aa (fun j V C=>hn j V aa);have m:s+d<ops.toList.length:=aa;obtain⟨r,hr,W⟩:=cx.bZ (bq m);have Y:fR (ops.toList[s+d])=false:=by
   cases S:fR (ops.toList[s+d])with
   |false=>rfl
   |true=>exact(hn (s+d) aa aa (gO.2 ⟨_,bq m,S⟩)).elim
  have I:a7 rs H' (s+d+1)=a7 rs H' (s+d)\/∃Z,a7 rs H' (s+d+1)=(a7 rs H' (s+d)).alloc Z:=by
   cases hd:r.did with
   |true=>exact A4 Y (W.dg hd)
   |false=>exact .inl (W.no hd).2
  rw[show s+(d+1)=s+d+1 by omega];rcases I with e|⟨Z,e⟩
  .rw[e];exact⟨U,o⟩
  .rw[e];refine⟨dj,fun k A=>?_⟩;rw[aP,aw aa];exact o k A
theorem Ctx.aW:∀(d s:Nat),s+d<=ops.toList.length->(a7 rs H' s).next<=(a7 rs H' (s+d)).next
 |0,_,_=>aA _
 |d+1,s,hs=>dB (Ctx.aW d s aa) (by rw[show s+(d+1)=s+d+1 by omega];exact cx.next _ aa)
theorem Ctx.cr(t:Nat):∀s,s<=ops.toList.length ->
 (∃(i:Nat) (r:Rec) (o:Oper),i<s/\rs[i]?=some r/\ops.toList[i]?=some o/\o.dst=some t/\(∀(j:Nat) (L:Oper),j<s->ops.toList[j]?=some L->L.dst=some t->j<=i)/\(cR rs E' s).at t=r.val) \/
 ((∀(j:Nat) (L:Oper),j<s->ops.toList[j]?=some L->L.dst≠some t)/\(cR rs E' s).at t=E0.at t)
 |0,_=>.inr ⟨fun j L V=>aa,by rw[cx.zeroE]⟩
 |s+1,hs=>by
  have J:ops.toList[s]?=some (ops.toList[s]' aa):=bq aa;obtain⟨r,hr,F⟩:=cx.bZ J;have m:=F.put;have Z:=Ctx.cr t s aa;by_cases hd:(ops.toList[s]' aa).dst=some t
  .refine .inl ⟨s,r,_,aa,hr,J,hd,fun j L V _ _=>aa,?_⟩;rw[hd]at m;simp only[cF]at m;split at m
   .simp only[ak]at m;rw[<-m,l5,aD rfl]
   .simp at m
  .have Y:(cR rs E' (s+1)).at t=(cR rs E' s).at t:=by
    cases S:(ops.toList[s]' aa).dst with
    |none=>
     rw[S]at m;simp only[cF,ak]at m;rw[<-m]
    |some d=>
     rw[S]at m hd;simp only[cF]at m;split at m
     .simp only[ak]at m;rw[<-m,l5,aw (fun e=>hd k1)]
     .simp at m
   rw[Y];rcases Z with⟨i,C,L,I,W,A,h4,h5,h6⟩|⟨I,W⟩
   .refine .inl ⟨i,C,L,aa,W,A,h4,fun j U V M O=>?_,h6⟩;by_cases e:j=s
    .subst e;rw[J]at M;simp only[ak]at M;subst M;exact(hd O).elim
    .exact h5 j U aa M O
   .refine .inr ⟨fun j L V M=>?_,W⟩;by_cases e:j=s
    .subst e;rw[J]at M;simp only[ak]at M;subst M;exact hd
    .exact I j L aa M
end
def cP(F:qr)(j:Nat):Prop:=F.getD j false=true
def mh(rs:List Rec)(l:qj)(m:ae)(D:Nat->Prop)(G:Gh)(a:Act):Prop:=∀t,
 (∃(i:Nat) (r:Rec) (o:Oper),D i/\rs[i]?=some r/\l[i]?=some o/\o.dst=some t/\(∀(j:Nat) (L:Oper),D j->l[j]?=some L->L.dst=some t->j<=i)/\VR G r.val (a.tmps.getD t undef)) \/
 ((∀(j:Nat) (L:Oper),D j->l[j]?=some L->L.dst≠some t)/\VR G (m.at t) (a.tmps.getD t undef))
def mh.cX{J:ae}{bA:Hp}(cx:Ctx P cfg ih f N ops.toList J bA I H' rs)(hs:mh rs ops.toList J D G a){t s:Nat}
 (V:s<=ops.toList.length) (A:∀(j:Nat) (o:Oper),ops.toList[j]?=some o->o.dst=some t->(D j↔j<s)):VR G ((cR rs I s).at t) (a.tmps.getD t undef):=by
 rcases cx.cr t s V with⟨i,r,o,S,O,F,M,h5,h6⟩|⟨S,O⟩
 .rw[h6];have C:=(A i o F M).2 S;rcases hs t with⟨Z,r',L,Y,U,W,m,g5,g6⟩|⟨Y,_⟩
  .have e1:=h5 Z L ((A Z L W m).1 Y) W m;have e2:=g5 i o C F M;have:Z=i:=aa;subst this;rw[O]at U;simp only[ak]at U;subst U;exact g6
  .exact(Y i o C F M).elim
 .rw[O];rcases hs t with⟨Z,r',L,Y,U,W,m,g5,g6⟩|⟨_,U⟩
  .exact(S Z L ((A Z L W m).1 Y) W m).elim
  .exact U
structure InvD (rs:List Rec) (l:qj) (N:Nat) (B:Bs) (nx0:Nat) (E0:ae) (H':Hp) (G0:Gh) (w0:World) (listed:qr) (a:Act) (w:World) (m:Nat) (G:Gh):Prop where
 size:listed.size=l.length
 bz:∀j,cP listed j->∀o,l[j]?=some o->∀p∈preds o,cP listed p
 le:m<=l.length
 ck:m=l.length\/m∈dL l
 bu:¬cP listed m
 cZ:∀e∈dL l,e<m->cP listed e
 step:Step B nx0 G0 w0 (a7 rs H' m) w G
 cj:∀r p,G.β r=some p->r<nx0\/∃j,cP listed j/\j<l.length/\(a7 rs H' j).next<=r/\r<(a7 rs H' (j+1)).next
 a3:mh rs l E0 (cP listed) G a
 frame:a.tmps.size=N
 defers:a.defers=[]
def cP.set(I:i<F.size)(j:Nat):cP (F.setIfInBounds i true) j↔j=i\/cP F j:=by
 unfold cP;rw[dO,dO,kO];by_cases e:i=j
 .subst e;simp[I]
 .rw[aw e];constructor
  .exact fun h=>.inr h
  .rintro(h|h)
   .exact(e h.symm).elim
   .exact h
def fC:=@cP.set
theorem mh.put{rs:List Rec}{l:qj}{E0:ae}{F:qr}{G W:Gh}{a:Act}(hs:mh rs l E0 (cP F) G a)(he:Ext G W){i:Nat}(Y:i<F.size){o:Oper}(J:l[i]?=some o){r:Rec}(hr:rs[i]?=some r)
 {v:Value} (hv:VR W r.val v) (hd:∀d,o.dst=some d->d<a.tmps.size/\∀(j:Nat) (L:Oper),cP F j->l[j]?=some L->L.dst=some d->j<=i):mh rs l E0 (cP (F.setIfInBounds i true)) W (a.put o.dst v):=by
 intro t;by_cases I:o.dst=some t
 .obtain⟨h1,h2⟩:=hd t I;refine .inl ⟨i,r,o,(fC Y i).2 (.inl rfl),hr,J,I,fun j L V M O=>?_,?_⟩
  .rcases(fC Y j).1 V with e|V
   .omega
   .exact h2 j L V M O
  .rw[I];simp only[Act.put];simpa [Array.getD,h1]using hv
 .have Z:(a.put o.dst v).tmps.getD t undef=a.tmps.getD t undef:=by
   cases S:o.dst with
   |none=>rfl
   |some d=>
    rw[S]at I;have m:d≠t:=fun e=>I k1;simp only[Act.put,dO,kO];rw[aw m]
  rw[Z];rcases hs t with⟨i',r',L,C,A,g3,g4,g5,g6⟩|⟨C,A⟩
  .refine .inl ⟨i',r',L,(fC Y i').2 (.inr C),A,g3,g4,fun j U V M O=>?_,g6.mono he⟩;rcases(fC Y j).1 V with e|V
   .subst e;rw[J]at M;simp only[ak]at M;subst M;exact(I O).elim
   .exact g5 j U V M O
  .refine .inr ⟨fun j L V M O=>?_,A.mono he⟩;rcases(fC Y j).1 V with e|V
   .subst e;rw[J]at M;simp only[ak]at M;subst M;exact(I O).elim
   .exact C j L V M O
def tn{t:Nat}:t∈jU Y o↔o.dst=some t\/(Operand.tmp t)∈o.op.operands.toList\/∃g b L,o.guard=some (g,b)/\Y[g]?=some L/\L.dst=some t:=by
 unfold jU u6;simp only[me,Option.mem_toList,List.mem_filterMap];constructor
 .rintro((h|⟨x,U,h⟩)|h)
  .exact .inl h
  .cases x<;>simp at h;subst h;exact .inr (.inl U)
  .cases W:o.guard with
   |none=>rw[W]at h;simp at h
   |some p=>
    obtain⟨g,b⟩:=p;rw[W]at h;simp only[Option.mem_toList,aX]at h;obtain⟨L,m,Z⟩:=h;exact .inr (.inr ⟨g,b,L,rfl,m,Z⟩)
 .rintro(h|h|⟨g,b,L,m,Z,F⟩)
  .exact .inl (.inl h)
  .exact .inl (.inr ⟨_,h,rfl⟩)
  .refine .inr ?_;rw[m];simp[Z,F]
def v9{p q:Oper}{d:Nat}(h:(p.dst=some d/\d∈jU Y q)\/(q.dst=some d/\d∈jU Y p)):Ab.clash Y p q=true:=by
 unfold Ab.clash;rcases h with⟨m,o⟩|⟨m,o⟩
 .rw[m];simp[o]
 .rw[m];simp[o]
def Step.cl{Z:Hp}{J:Gh}{L:World}(h:Step B V G w H' w' O)(k:Step B V O w' Z L J):Step B V G w Z L J:=
 ⟨k.r,h.ext.trans k.ext,h.fr.trans k.fr h.new,h.new.trans k.new h.fr.size,fun r p hr=>by
  rcases k.cj r p hr with m|m
  .exact h.cj r p m
  .exact .inr m,k.mono,fun b o v M=>by
  rcases k.cA b o v M with m|m
  .exact h.cA b o v m
  .exact .inr m⟩
def Step.bY{F:Nat}(h:Step B V G w H' w' O)(S:F<=V):Step B F G w H' w' O:=
 ⟨h.r,h.ext,h.fr,h.new,fun r p hr=>(h.cj r p hr).imp id (fun e=>dB S e),dB S h.mono,h.cA⟩
def Snd.aq(P:Program)(B:Bs):Snd P B 0 (fun _=>.aq):=
 ⟨fun _ _ _ _ _ h=>k2,fun _ _ _ _ _ _ _ _ h=>k2,fun _ _ _ _ _ _ _ _ h=>k2⟩
def A9(fit:Fit P)(hih:Snd P B n ih){nx0:Nat}{bA:Hp}(cx:Ctx P B.cfg ih f N ops.toList E0 bA E' H' rs)(hnx:bA.next=nx0)
  (Z:InvD rs ops.toList N B nx0 E0 H' G0 w0 F a w m G)  (hi:i∈Region.ready .any ops F) {K:Act->World->Prop}
 (hK:∀a' w' m' G',InvD rs ops.toList N B nx0 E0 H' G0 w0 (F.setIfInBounds i true) a' w' m' G'->K a' w'):wpOp P ops Q i K a w:=by
 obtain⟨o,ho,hun,hpr⟩:=fh.1 hi;obtain⟨r,hr,ha⟩:=cx.bZ ho;have hil:i<ops.toList.length:=(ci.1 ho).1;have Y:i<F.size:=by rw[Z.size];exact hil
 have hnot:¬cP F i:=fun hd=>by
  unfold cP at hd;rw[dO,iM Y]at hd;rw[dO,iM Y]at hun;simp only[bQ]at hd hun;rw[hd]at hun;simp at hun
 -- what comes before i is done;what comes behind it is not
 have W:∀j∈(dc ops.toList []).getD i [],cP F j:=tl cx.calm Z.bz i o ho hpr;have M:∀j,cP F j->∀oj,ops.toList[j]?=some oj->i∉(dc ops.toList []).getD j []:=fun j hj oj O hm=>
  hnot (tl cx.calm Z.bz j oj O (Z.bz j hj oj O) i hm)
 -- the writers of the slots that i names
 have hagree:∀t∈jU ops.toList o,∀(j:Nat) (oj:Oper),ops.toList[j]?=some oj->oj.dst=some t->(cP F j↔j<i):=fun t ht j oj O hjd=>by
  constructor
  .intro hj;rcases pV j i with h|h|h
   .exact h
   .subst h;exact(hnot hj).elim
   .exact(M j hj oj O (cx.calm.clash i j o oj h ho O (v9 (.inr ⟨hjd,ht⟩)))).elim
  .intro hj;exact W j (cx.calm.clash j i oj o hj O ho (v9 (.inl ⟨hjd,ht⟩)))
 have hslot:∀t∈jU ops.toList o,VR G ((cR rs E' i).at t) (a.tmps.getD t undef):=fun t ht=>Z.a3.cX cx (Nat.le_of_lt hil) (hagree t ht);have U:kY G (cR rs E' i) a o.op.operands:=fun x hx c hc=>by
  cases x with
  |tmp t=>simp only[ay,ak]at hc;subst hc;exact hslot t (tn.2 (.inr (.inl (by simpa using hx))))
  |const v=>exact l6 hc
  |global g=>simp[ay]at hc
  |func f=>simp only[ay,ak]at hc;subst hc;exact .bj (vs:=[]) rfl aK
 have hwant:=vR (G:=G) (E:=cR rs E' i) (a:=a) (ops:=ops) (o:=o) (fun g b d hg hd=>by
  simp only[aX]at hd;obtain⟨o',h1,h2⟩:=hd;exact hslot d (tn.2 (.inr (.inr ⟨g,b,o',hg,by rw[nQ];exact h1,h2⟩))))
 have hdst:∀d,o.dst=some d->d<a.tmps.size/\∀(j:Nat) (o':Oper),cP F j->ops.toList[j]?=some o'->o'.dst=some d->j<=i:=fun d hd=>by
  refine⟨?_,fun j o' hj hjo hjd=>Nat.le_of_lt ((hagree d (tn.2 (.inl hd)) j o' hjo hjd).1 hj)⟩;have hp:=ha.put;rw[hd]at hp;simp only[cF]at hp;split at hp
  .rename_i hb;rw[Z.frame];simpa [fA]using hb
  .simp at hp
 have hclosed':∀j,cP (F.setIfInBounds i true) j->∀oj,ops.toList[j]?=some oj->∀p∈preds oj,cP (F.setIfInBounds i true) p:=fun j hj oj O p hp=>by
  rcases(fC Y j).1 hj with rfl|hj
  .rw[ho]at O;simp only[ak]at O;subst O;exact(fC Y p).2 (.inr (hpr p hp))
  .exact(fC Y p).2 (.inr (Z.bz j hj oj O p hp))
 -- an act comes up in its turn
 have hturn:fR o=true->i=m:=fun hact=>by
  have L:i∈dL ops.toList:=gO.2 ⟨o,ho,hact⟩;rcases pV i m with h|h|h
  .exact(hnot (Z.cZ i L h)).elim
  .exact h
  .rcases Z.ck with e|e
   .omega
   .obtain⟨om,V,S⟩:=gO.1 e;exact(Z.bu (W m (cx.calm.clash m i om o h V ho (by unfold Ab.clash;simp[hact,S])))).elim
 -- how the invariant goes on
 have hfin:∀(v:Value) (w':World) (G':Gh) (X:Hp),VR G' r.val v->Step B nx0 G w X w' G' ->
  (∀k p,G'.β k=some p->G.β k=some p\/((a7 rs H' i).next<=k/\k<(a7 rs H' (i+1)).next)) ->
  ((i≠m/\X=a7 rs H' m)\/(i=m/\X=a7 rs H' (i+1)))->K (a.put o.dst v) w':=fun v w' G' X hv C hlow hX=>by
  have hslots':=Z.a3.put C.ext Y ho hr hv hdst;have hlow':∀k p,G'.β k=some p->k<nx0\/∃j,cP (F.setIfInBounds i true) j/\j<ops.toList.length/\(a7 rs H' j).next<=k/\k<(a7 rs H' (j+1)).next:=fun k p hk=>by
   rcases hlow k p hk with h|h
   .rcases Z.cj k p h with h|⟨j,h1,h2⟩
    .exact .inl h
    .exact .inr ⟨j,(fC Y j).2 (.inr h1),h2⟩
   .exact .inr ⟨i,(fC Y i).2 (.inl rfl),hil,h⟩
  have hframe':(a.put o.dst v).tmps.size=N:=by rw[<-Z.frame];cases o.dst<;>simp[Act.put]
  have hdef':(a.put o.dst v).defers=[]:=by have:=Z.defers;cases o.dst<;>exact this
  rcases hX with⟨hne,rfl⟩|⟨rfl,rfl⟩
  .refine hK _ _ m G' ⟨by simpa using Z.size,hclosed',Z.le,Z.ck,fun hd=>?_,fun e he hlt=>(fC Y e).2 (.inr (Z.cZ e he hlt)),Z.step.cl C,hlow',hslots',hframe',hdef'⟩;rcases(fC Y m).1 hd with h|h
   .exact hne h.symm
   .exact Z.bu h
  ·-- the next act
   obtain⟨m',q1,q2,q3,q4⟩:=tm (l:=ops.toList) (ops.toList.length-(i+1)) (i+1) aa;obtain⟨g1,g2⟩:=cx.dR (m'-(i+1)) (i+1) aa (fun j h1 h2=>q4 j h1 aa);rw[show i+1+(m'-(i+1))=m' by omega]at g1 g2;have hst2:Step B nx0 G0 w0 (a7 rs H' m') w' G':=by
    have:=Z.step.cl C;exact⟨this.r.more g1 g2,this.ext,this.fr,this.new,this.cj,dB this.mono g1,this.cA⟩
   have hact:∀e∈dL ops.toList,e<m'->cP (F.setIfInBounds i true) e:=fun e he hlt=>by
    by_cases h:e<i
    .exact(fC Y e).2 (.inr (Z.cZ e he h))
    .by_cases h2:e=i
     .exact(fC Y e).2 (.inl h2)
     .exact(q4 e aa hlt he).elim
   refine hK _ _ m' G' ⟨by simpa using Z.size,hclosed',q2,q3,fun hd=>?_,hact,hst2,hlow',hslots',hframe',hdef'⟩;rcases(fC Y m').1 hd with h|h
   .omega
   ·-- m' is done though i,an act before it,was not
    have hm'l:m'<ops.toList.length:=by
     rcases ob m' ops.toList.length with h3|h3
     .exact h3
     .unfold cP at h;rw[dO,th (by rw[Z.size];exact h3)]at h;simp at h
    rcases q3 with e|e
    .omega
    .obtain⟨om,V,S⟩:=gO.1 e;rcases Z.ck with e2|e2
     .omega
     .obtain⟨oi,hoi,hacti⟩:=gO.1 e2;rw[ho]at hoi;simp only[ak]at hoi;subst hoi;exact M m' h om V (cx.calm.clash i m' o om aa ho V (by unfold Ab.clash;simp[hacti,S]))
 -- the range of m for the looks
 have hlo:∀e∈dL ops.toList,e∈(dc ops.toList []).getD i []->e<m:=fun e he hA=>by
  have hd:=W e hA;rcases ob e m with h|h
  .exact h
  .exfalso;rcases Z.ck with e2|e2
   .have:=(gO.1 he);obtain⟨oe,hoe,_⟩:=this;have:=(ci.1 hoe).1;omega
   .by_cases e3:e=m
    .subst e3;exact Z.bu hd
    .obtain⟨om,V,S⟩:=gO.1 e2;obtain⟨oe,hoe,hacte⟩:=gO.1 he;exact Z.bu (tl cx.calm Z.bz e oe hoe (Z.bz e hd oe hoe) m (cx.calm.clash m e om oe aa V hoe (by unfold Ab.clash;simp[S,hacte])))
 have hhi:∀e∈dL ops.toList,i∈(dc ops.toList []).getD e []->m<=e:=fun e he hA=>by
  rcases ob e m with h|h
  .obtain⟨oe,hoe,_⟩:=gO.1 he;exact(M e (Z.cZ e he h) oe hoe hA).elim
  .exact h
 unfold wpOp;rw[show ops[i]?=some o by rw[<-nQ];exact ho];simp only[];have hnxm:nx0<=(a7 rs H' m).next:=Z.step.mono
 have hsame:Step B nx0 G w (a7 rs H' m) w G:=(eh Z.step.r).bY hnxm;have hstill:∀(v:Value) (w':World) (G':Gh),i≠m->VR G' r.val v->Step B (a7 rs H' m).next G w (a7 rs H' m) w' G'->K (a.put o.dst v) w':=fun v w' G' L hv C=>
  hfin v w' G' _ hv (C.bY hnxm) (fun k p hk=>by
   rcases C.cj k p hk with h|h
   .exact .inl h
   .have:=C.r.bW k p hk;omega) (.inl ⟨L,rfl⟩)
 have I:fR o=false->i≠m:=fun hna e=>by
  rcases Z.ck with e2|e2
  .omega
  .obtain⟨om,V,S⟩:=gO.1 e2;rw[<-e,ho]at V;simp only[ak]at V;subst V;rw[hna]at S;simp at S
 cases hd:r.did with
 |false=>
  have hw:Region.wanted o (yielded ops a.tmps)=false:=by rw[<-hwant,ha.dI];exact hd
  rw[hw];simp only[bK,cT];obtain⟨hval,hheap⟩:=ha.no hd;by_cases L:i=m
  .subst L;exact hfin undef w G (a7 rs H' (i+1)) (by rw[hval];exact nK G) (by rw[hheap];exact hsame) (fun k p hk=>.inl hk) (.inr ⟨rfl,rfl⟩)
  .exact hfin undef w G _ (by rw[hval];exact nK G) hsame (fun k p hk=>.inl hk) (.inl ⟨L,rfl⟩)
 |true=>
  have hw:Region.wanted o (yielded ops a.tmps)=true:=by rw[<-hwant,ha.dI];exact hd
  rw[hw];simp only[cy];have hop:=ha.dg hd;refine .inl ?_;cases J:cS o.op with
  |ck=>
   have L:=hturn (by simp[fR,J]);subst L;refine pU fit hih Z.step.r U hop fun v w' G' hv C=>?_;refine hfin v w' G' _ hv (C.bY hnxm) (fun k p hk=>?_) (.inr ⟨rfl,rfl⟩);rcases C.cj k p hk with h|h
   .exact .inl h
   .exact .inr ⟨h,C.r.bW k p hk⟩
  |calm=>
   have hnc:∀c,o.op≠.call c:=fun c e=>by
    rw[e]at J;simp only[cS]at J;split at J<;>simp at J
   have L:=I (by simp[fR,J]);have hX:=(te (P:=P) (by simp[jt,J]) ((k0 hnc).1 hop)).2 (a7 rs H' m);have hop':b6 P B.cfg ih f (cR rs E' i) (a7 rs H' m) o.op=.val r.val (a7 rs H' m):=(k0 hnc).2 hX;exact pU fit hih Z.step.r U hop' fun v w' G' hv C=>hstill v w' G' L hv C
  |read=>
   have L:=I (by simp[fR,J]);have A:=cx.bV i r hr hd m Z.ck.symm hlo hhi;unfold zaQ at A;rw[ha.eo,J,ha.eE]at A;simp only[]at A;split at A
   .rename_i v1 H1 hop';have hv1:=AV.beq_eq A;subst hv1;have hH1:=tf (by simp[iL,J]) hop';subst hH1;exact pU fit (Snd.aq P B) Z.step.r U hop' fun v w' G' hv C=>hstill v w' G' L hv C
   .simp at A
  |make=>
   have L:=I (by simp[fR,J]);have hnc:∀c,o.op≠.call c:=fun c e=>by
    rw[e]at J;simp only[cS]at J;split at J<;>simp at J
   have hopA:=(k0 hnc).1 hop;obtain⟨blk,obj,ext,v,hH1,hrun,hmade,hv⟩:=AW (P:=P) (w:=w) (by simp[jV,J]) U hopA;have A:=cx.bV i r hr hd m Z.ck.symm hlo hhi;unfold zaQ at A;rw[ha.eo,J,ha.eH,ha.eH']at A;simp only[]at A;have hnext1:(a7 rs H' (i+1)).next=(a7 rs H' i).next+1:=by rw[hH1];rfl
   have hgetm:(a7 rs H' m).get (a7 rs H' i).next=some blk:=by
    split at A
    .rename_i b b' h1 h2;rw[HB.beq_eq A]at h1;rw[hH1,aP,aD rfl]at h2;simp only[ak]at h2;subst h2;exact h1
    .simp at A
   have hlt:i<m:=by
    rcases pV i m with h|h|h
    .exact h
    .exact(L h).elim
    .exfalso;rcases Z.ck with e2|e2
     .omega
     .obtain⟨om,V,S⟩:=gO.1 e2;exact Z.bu (W m (cx.calm.clash m i om o h V ho (by unfold Ab.clash;simp[S,jV,J])))
   have hr0:(a7 rs H' i).next<(a7 rs H' m).next:=by
    have:=cx.aW (m-(i+1)) (i+1) (by have:=Z.le;omega);rw[show i+1+(m-(i+1))=m by omega]at this;omega
   have hnx0:nx0<=(a7 rs H' i).next:=by
    have:=cx.aW i 0 aa;rw[dd,cx.df,hnx]at this;exact this
   have hno:∀q,G.β (a7 rs H' i).next=some q->False:=fun q hq=>by
    rcases Z.cj _ q hq with h|⟨j,h1,h2,h3,h4⟩
    .omega
    .rcases pV j i with h|h|h
     .have:=cx.aW (i-(j+1)) (j+1) aa;rw[show j+1+(i-(j+1))=i by omega]at this;omega
     .subst h;exact hnot h1
     .have:=cx.aW (j-(i+1)) (i+1) aa;rw[show i+1+(j-(i+1))=j by omega]at this;omega
   have C:=vk Z.step.r hno hr0 hgetm hnx0 hmade;unfold Oper.wp;rw[hrun];refine hfin v _ _ _ (hv _ (js _ _ _)) C (fun k p hk=>?_) (.inl ⟨L,rfl⟩);simp only[Gh.add]at hk;split at hk
   .rename_i e;exact .inr ⟨aa,aa⟩
   .exact .inl hk
def countP_set(I:i<F.size)(Z:F[i]=false):(F.setIfInBounds i true).toList.countP (·=false)+1=F.toList.countP (·=false):=by
 rw[vh,List.countP_set nF];have m:F.toList[i]' nF=false:=by simpa using Z
 have C:0<F.toList.countP (·=false):=List.countP_pos_iff.2 ⟨false,by rw[<-m];exact jn _,aK⟩;rw[m];simp only[jl,cy,Bool.true_eq_false,gm,bK,cT];omega
def Ba(fit:Fit P)(hih:Snd P B n ih){U:Nat}{bA:Hp}(cx:Ctx P B.cfg ih f N ops.toList E0 bA I H' rs)(hnx:bA.next=U)
 (hE':cR rs I ops.toList.length=I) (hH':a7 rs H' ops.toList.length=H')  (hQ:∀e a w,eR B N U G0 w0 .normal I H' e a w->Q e a w) :
 ∀(Z:Nat) (F:qr) (a:Act) (w:World) (m:Nat) (G:Gh),InvD rs ops.toList N B U E0 H' G0 w0 F a w m G->F.toList.countP (·=false)<=Z->wpAny P .any ops Q Z F a w:=by
 -- at the end all is done
 have S:∀(F:qr) (a:Act) (w:World) (m:Nat) (G:Gh),InvD rs ops.toList N B U E0 H' G0 w0 F a w m G->Region.ready .any ops F=[]->Q .normal a w:=fun F a w m G Y J=>by
  have O:∀j,j<ops.toList.length->cP F j:=fun j=>by
   induction j using Nat.strongRecOn with
   |_ j ihj=>
    intro hj;have M:=bq hj;have L:j<F.size:=by rw[Y.size];exact hj
    cases hl:F[j]with
    |true=>
     unfold cP;rw[dO,iM L,hl];rfl
    |false=>
     exfalso;have:j∈Region.ready .any ops F:=fh.2 ⟨_,M,by rw[dO,iM L,hl];rfl,fun p hp=>by
      have hlt:=cx.calm.lt j _ M p hp;exact ihj p hlt aa⟩
     rw[J]at this;simp at this
  have hm:m=ops.toList.length:=by
   rcases Y.ck with e|e
   .exact e
   .obtain⟨om,hom,_⟩:=gO.1 e;exact(Y.bu (O m (ci.1 hom).1)).elim
  subst hm;have C:=Y.step;rw[hH']at C;refine hQ _ _ _ ⟨rfl,G,⟨Y.frame,fun t=>?_⟩,C,Y.defers⟩;have:=Y.a3.cX cx (t:=t) (aA _) (fun j oj hoj _=>⟨fun _=>(ci.1 hoj).1,fun h=>O j h⟩);rw[hE']at this;exact this
 intro Z;induction Z with
 |zero=>
  intro F a w m G Y hc;have J:Region.ready .any ops F=[]:=by
   apply og.2;intro i A;obtain⟨o,M,W,_⟩:=fh.1 A;have V:i<F.size:=vU;rw[dO,iM V]at W;have:=countP_set V md;omega
  exact⟨J,S F a w m G Y J⟩
 |succ Z ihf=>
  intro F a w m G Y hc;refine⟨fun J=>S F a w m G Y J,fun i A=>?_⟩;obtain⟨o,M,W,_⟩:=fh.1 A;have V:i<F.size:=vU;rw[dO,iM V]at W;have hcs:=countP_set V md;exact A9 fit hih cx hnx Y A (fun a' w' m' G' hI'=>ihf _ a' w' m' G' hI' aa)
def wa(fit:Fit P)(o:Snd P B n ih){M:ae}(hr:fS P B.cfg ih f N ops.toList E H=.done x M H')
 (h:R B H w G) (I:TR N G E a) (hd:a.defers=[])  (hQ:∀e J w',eR B N H.next G w x M H' e J w'->Q e J w'):wpAny P .any ops Q ops.size (Array.replicate ops.size false) a {w with drawn:=w.drawn+1}:=by
 unfold fS at hr;split at hr
 .rename_i O;split at hr
  .rename_i E1 H1 rs Y;split at hr
   .rename_i A;simp only[Res.done.injEq]at hr;obtain⟨rfl,rfl,rfl⟩:=hr;have cx:=A8 O Y A;have hlen:=cx.len;have F:cR rs E1 ops.toList.length=E1:=by unfold cR;rw[j6 aa]
    have L:a7 rs H1 ops.toList.length=H1:=by unfold a7;rw[j6 aa]
    obtain⟨m,q1,q2,q3,q4⟩:=tm (l:=ops.toList) ops.toList.length 0 aa;obtain⟨S,g2⟩:=cx.dR m 0 aa (fun j _ Z=>q4 j aa aa);rw[dd,cx.df]at S g2;have C:R B H {w with drawn:=w.drawn+1} G:=h.heap rfl;have U:Step B H.next G w (a7 rs H1 m) {w with drawn:=w.drawn+1} G:=
     ⟨C.more S g2,l4 _,⟨rfl,rfl,rfl,aA _,fun _ _ _=>rfl⟩,kR _ _,fun _ _ h=>.inl h,S,fun _ _ _ h=>.inl h⟩
    have V:∀j,¬cP (Array.replicate ops.size false) j:=fun j Z=>by
     unfold cP at Z;rw[dO,vX]at Z;split at Z<;>simp at Z
    refine Ba fit o cx rfl F L hQ ops.size _ a _ m G
     ⟨aK,fun j Z=>(V j Z).elim,q2,q3,V m,fun e he W=>(q4 e (eC _) W he).elim,U,fun r p hr=>.inl (h.bW r p hr),fun t=>.inr ⟨fun j o' Z=>(V j Z).elim,I.a3 t⟩,I.size,hd⟩ ?_
    exact dB List.countP_le_length aK
   .simp at hr
  .simp at hr
 .simp at hr
end
def fj(ops:qv):qp->qr->Prop
 |[],listed=>Region.ready .any ops listed=[]
 |i::L,listed=>i∈Region.ready .any ops listed/\fj ops L (listed.setIfInBounds i true)
theorem wb{ops:qv}:∀(Z t:Nat) (F:qr),F.size=ops.size->F.toList.countP (·=false)<=Z->fj ops (Region.linearise.go .any ops Z t F []) F
 |0,t,F,hs,hc=>by
  show Region.ready .any ops F=[];apply og.2;intro i I;obtain⟨o,J,Y,_⟩:=fh.1 I;have W:i<F.size:=vV;rw[dO,iM W]at Y;have:=countP_set W kW;omega
 |Z+1,t,F,hs,hc=>by
  simp only[Region.linearise.go];change fj ops (match (Region.ready .any ops F)[t%(Region.ready .any ops F).length]? with
   |some i=>Region.linearise.go .any ops Z (t/(Region.ready .any ops F).length) (F.setIfInBounds i true) [i]
   |none=>[].reverse) F
  cases I:(Region.ready .any ops F)[t%(Region.ready .any ops F).length]? with
  |none=>
   show Region.ready .any ops F=[];cases hr:Region.ready .any ops F with
   |nil=>rfl
   |cons x U=>
    rw[hr]at I;have m:t%(x::U).length<(x::U).length:=Nat.mod_lt _ aK;simp at I;simp at m;omega
  |some i=>
   simp only[];rw[linearise_go_acc,List.reverse_singleton,List.singleton_append];have V:=fY I;refine⟨V,wb Z _ _ (by simpa using hs) ?_⟩;obtain⟨o,J,Y,_⟩:=fh.1 V;have W:i<F.size:=vV;rw[dO,iM W]at Y;have:=countP_set W kW;omega
section
variable {P:Program} {Q:Exit -> Act -> World -> Prop}
theorem tp{ops:qv}:∀(L:qp) (o:Nat) (F:qr) (a:Act) (w:World),wpAny P .any ops Q o F a w->fj ops L F->wpOps P ops Q L a w
 |[],0,F,a,w,h,_=>h.2
 |[],o+1,F,a,w,h,hv=>h.1 hv
 |i::L,0,F,a,w,h,hv=>by
  have m:=hv.1;rw[h.1]at m;simp at m
 |i::L,o+1,F,a,w,h,hv=>by
  rw[wpOps_cons];exact wpOp_mono (fun a w S=>tp L o _ a w S hv.2) (h.2 i hv.1)
def Bb{id:Nat}(W:P.follows .mixedOrders=true)
 (h:∀L,fj ops L (Array.replicate ops.size false)->wpOps P ops Q L a {w with drawn:=w.drawn+1}):(Code.region id ops true).wp P Q a w:=
 wp_region_draw fun t=>by
  simp only[Region.schedule,W,Bool.true_or,cy];exact h _ (wb ops.size t _ aK (dB List.countP_le_length aK))
theorem tq{ops ops':qv}{φ:Nat->Nat}:∀(L:qp) (a:Act) (w:World),
 (∀i∈L,∃o Z,ops[i]?=some o/\ops'[φ i]?=some Z/\(∃Y S,Z={o with after:=Y,guard:=S})/\∀a:Act,Region.wanted Z (yielded ops' a.tmps)=Region.wanted o (yielded ops a.tmps)) ->
 wpOps P ops' Q (L.map φ) a w->wpOps P ops Q L a w
 |[],_,_,_,h=>h
 |i::L,a,w,hr,h=>by
  rw[mb,wpOps_cons]at h;rw[wpOps_cons];obtain⟨o,Z,m,U,⟨Y,S,F⟩,O⟩:=hr i gN;have W:∀a w,wpOps P ops' Q (L.map φ) a w->wpOps P ops Q L a w:=fun a w=>tq L a w (fun j V=>hr j (iN _ V));have J:=wpOp_mono W h;unfold wpOp at J⊢;rw[U]at J;rw[m];simp only[]at J⊢;rw[O a]at J;subst F;exact J
end
def pZ(q p:Nat)(l:qj):(dM q p l).length=l.length:=by
 unfold dM;split<;>simp
theorem oh(h:l[i]?=some o):
 ∃L,(dM q p l)[i]?=some L/\(∃Z,L={o with after:=Z})/\(i≠q->L=o)/\∀j,j∈preds L↔j∈preds o\/(i=q/\j=p):=by
 unfold dM;have I:=(ci.1 h).1;by_cases e:i=q
 .subst e;rw[h];refine⟨_,sK I,⟨_,rfl⟩,fun S=>(S rfl).elim,fun j=>?_⟩;unfold preds;have:(o.after.push {on:=p,ground:=.data}).toList=o.after.toList++[{on:=p,ground:=.data}]:=aK;rw[this,List.filter_append,iO,me];have Y:(List.filter (Region.binds .any) [({on:=p,ground:=.data}:Edge)])=[{on:=p,ground:=.data}]:=rfl;rw[Y];simp
 .have W:∀U,(l.set q U)[i]?=some o:=fun U=>by rw[List.getElem?_set_ne (fun h=>e h.symm)];exact h
  split
  .exact⟨o,W _,⟨o.after,rfl⟩,fun _=>rfl,fun j=>⟨.inl,fun h=>h.elim id (fun h=>(e h.1).elim)⟩⟩
  .exact⟨o,h,⟨o.after,rfl⟩,fun _=>rfl,fun j=>⟨.inl,fun h=>h.elim id (fun h=>(e h.1).elim)⟩⟩
def wc(h:(dM q p l)[i]?=some L):∃o,l[i]?=some o:=by
 have:=(ci.1 h).1;rw[pZ]at this;exact⟨_,bq this⟩
theorem Bc(j:Nat):((dM q p l)[j]?).bind (·.dst)=(l[j]?).bind (·.dst):=by
 cases h:l[j]? with
 |none=>
  rw[j6 (by rw[pZ];exact List.getElem?_eq_none_iff.1 h)]
 |some o=>
  obtain⟨L,m,⟨Z,rfl⟩,_⟩:=oh (q:=q) (p:=p) h;rw[m];rfl
def wd(h:i∈Region.ready .any (dM q p l).toArray F):i∈Region.ready .any l.toArray F:=by
 obtain⟨L,m,Z,W⟩:=fh.1 h;simp only[]at m;obtain⟨o,J⟩:=wc m;obtain⟨S,Y,_,_,U⟩:=oh (q:=q) (p:=p) J;rw[m]at Y;simp only[ak]at Y;subst Y;exact fh.2 ⟨o,J,Z,fun j V=>W j ((U j).2 (.inl V))⟩
def ol(h:i∈Region.ready .any l.toArray F)(J:i=q->F.getD p false=true):i∈Region.ready .any (dM q p l).toArray F:=by
 obtain⟨o,m,Z,Y⟩:=fh.1 h;simp only[]at m;obtain⟨U,W,_,_,S⟩:=oh (q:=q) (p:=p) m;refine fh.2 ⟨U,W,Z,fun j V=>?_⟩;rcases(S j).1 V with h|⟨A,rfl⟩
 .exact Y j h
 .exact J A
def Be(h:F.getD p false=true):(F.setIfInBounds i true).getD p false=true:=by
 simp only[dO,kO]at *;split
 .split
  .rfl
  .rename_i m o;subst m;rw[th aa]at h;simp at h
 .exact h
theorem tt{q p:Nat}{l:qj}:∀{L:qp}{F:qr},F.getD p false=true->fj l.toArray L F->fj (dM q p l).toArray L F
 |[],F,_,hv=>by
  show Region.ready .any (dM q p l).toArray F=[];apply og.2;intro i I;have:=wd I;rw[show Region.ready .any l.toArray F=[]from hv]at this;simp at this
 |i::L,F,hd,hv=>⟨ol hv.1 (fun _=>hd),tt (Be hd) hv.2⟩
theorem we{p q:Nat}(U:p≠q){l:qj}:∀{L:qp}{F:qr},F.size=l.length->fj l.toArray L F->fj (dM q p l).toArray L F\/fj (dM p q l).toArray L F
 |[],F,_,hv=>.inl <|by
  show Region.ready .any (dM q p l).toArray F=[];apply og.2;intro i I;have:=wd I;rw[show Region.ready .any l.toArray F=[]from hv]at this;simp at this
 |i::L,F,hs,hv=>by
  have Y:i<F.size:=by
   obtain⟨o,J,_⟩:=fh.1 hv.1;rw[hs];exact(ci.1 J).1
  have Z:(F.setIfInBounds i true).getD i false=true:=by
   simp[dO,kO,Y]
  by_cases A:i=q
  .subst A;exact .inr ⟨ol hv.1 (fun e=>(U e.symm).elim),tt Z hv.2⟩
  .by_cases W:i=p
   .subst W;exact .inl ⟨ol hv.1 (fun e=>(A e).elim),tt Z hv.2⟩
   .rcases we U (by simpa using hs) hv.2 with h|h
    .exact .inl ⟨ol hv.1 (fun e=>(A e).elim),h⟩
    .exact .inr ⟨ol hv.1 (fun e=>(W e).elim),h⟩
theorem tu{ops:qv}:∀{L:qp}{F:qr},fj ops L F->∀i∈L,∃o,ops.toList[i]?=some o
 |[],_,_,i,I=>by simp at I
 |j::L,F,hv,i,I=>by
  rcases fg.1 I with rfl|I
  .obtain⟨o,J,_⟩:=fh.1 hv.1;exact⟨o,J⟩
  .exact tu hv.2 i I
theorem wg{L:qp}(M:fj l.toArray L F)
 (h:wpOps P (dM q p l).toArray Q L a w):wpOps P l.toArray Q L a w:=by
 refine tq (ops':=(dM q p l).toArray) (φ:=id) L a w (fun i I=>?_) eF;obtain⟨o,J⟩:=tu M i I;simp only[]at J;obtain⟨W,Y,⟨Z,rfl⟩,_⟩:=oh (q:=q) (p:=p) J;refine⟨o,_,by simpa using J,kW,⟨Z,o.guard,rfl⟩,fun a=>?_⟩;have S:yielded (dM q p l).toArray a.tmps=yielded l.toArray a.tmps:=funext fun j=>by
  unfold yielded;have:=Bc (q:=q) (p:=p) (l:=l) j;simp only[List.getElem?_toArray,this]
 rw[S];rfl
structure zaf (ord:qp) (l:qj):Prop where
 len:ord.length=l.length
 bk:∀k:Nat,k<l.length->∃i,ord[k]?=some i/\i<l.length/\dt ord i=k
 lt:∀i:Nat,i<l.length->dt ord i<l.length/\ord[dt ord i]?=some i
 pre:∀(i:Nat) o,l[i]?=some o->(∀p∈preds o,p<l.length)/\∀j b,o.guard=some (j,b)->j<l.length
def Bf(h:sC S l=true):zaf S l:=by
 unfold sC at h;simp only[cI,fU,k3]at h;obtain⟨⟨m,Z⟩,F⟩:=h;refine⟨dN m,fun k A=>?_,fun i I=>?_,fun i o Y=>?_⟩
 .have:=(Z k A).1.1;split at this
  .rename_i i I;simp only[cI]at this;exact⟨i,I,by simpa [fA]using this.1,dN this.2⟩
  .simp at this
 .have W:=(Z i I).1.2;have J:=(Z i I).2;refine⟨by simpa [fA]using W,?_⟩;split at J
  .rename_i k A;rw[A,dN J]
  .simp at J
 .have:=F o (fY Y);refine⟨fun p hp=>by simpa [fA]using this.1 p hp,fun j b L=>?_⟩;have O:=this.2;rw[L]at O;simpa [fA]using O
theorem wh{W β:Type}{f:W->Option β}:∀{I:List W},(∀x∈I,(f x).isSome=true)->∀k:Nat,(I.filterMap f)[k]?=(I[k]?).bind f
 |[],_,k=>by simp
 |x::I,h,k=>by
  obtain⟨y,S⟩:=vY.1 (h x gN);rw[List.filterMap_cons_some S];cases k with
  |zero=>simp[S]
  |succ k=>simp[wh (fun x U=>h x (iN _ U)) k]
section
variable {ord:qp} {l:qj} (hp:zaf ord l)
include hp
theorem zaf.cH(h:l[i]?=some o):(fy ord l)[dt ord i]?=some (kI ord o):=by
 have I:=(ci.1 h).1;unfold fy;rw[wh (fun x U=>?_)]
 .rw[(hp.lt i I).2];simp[h]
 .obtain⟨k,A⟩:=ti.1 U;have Y:k<l.length:=by rw[<-hp.len];exact(ci.1 A).1
  obtain⟨W,m,Z,_⟩:=hp.bk k Y;rw[A]at m;simp only[ak]at m;subst m;rw[bq Z];rfl
def zaf.length:(fy ord l).length=l.length:=by
 have:∀k,k<l.length->((fy ord l)[k]?).isSome=true:=fun k A=>by
  obtain⟨i,m,o,F⟩:=hp.bk k A;have:=hp.cH (bq o);rw[F]at this;rw[this];rfl
 refine Nat.le_antisymm (dB (List.length_filterMap_le _ _) (by rw[hp.len];exact aA _)) ?_;rcases ob (fy ord l).length l.length with h|h
 .have:=this _ h;rw[j6 (aA _)]at this;simp at this
 .exact h
def zaf.of(h:(fy ord l)[k]?=some L):∃i o,l[i]?=some o/\dt ord i=k/\L=kI ord o:=by
 have A:k<l.length:=by rw[<-hp.length];exact(ci.1 h).1
 obtain⟨i,m,Z,F⟩:=hp.bk k A;have:=hp.cH (bq Z);rw[F,h]at this;simp only[ak]at this;exact⟨i,_,bq Z,F,this⟩
def zaf.inj(I:i<l.length)(V:j<l.length)(h:dt ord i=dt ord j):i=j:=by
 have m:=(hp.lt i I).2;rw[h,(hp.lt j V).2]at m;simpa using m.symm
theorem zaf.preds:Ab.preds (kI ord o)=(Ab.preds o).map (dt ord):=by
 unfold Ab.preds kI;simp only[List.map_map];rw[List.filter_map];have:(Region.binds .any ∘ fun e:Edge=>{e with on:=dt ord e.on})=Region.binds .any:=rfl;rw[this,List.filter_filter];simp only[k4,List.map_map];rfl
def oq(S:qp)(l:qj)(x y:qr):Prop:=x.size=l.length/\y.size=l.length/\∀i,i<l.length->y[dt S i]?=x[i]?
def oq.set{x:qr}(h:oq ord l x y)(I:i<l.length):oq ord l (x.setIfInBounds i true) (y.setIfInBounds (dt ord i) true):=by
 refine⟨by simpa using h.1,by simpa using h.2.1,fun j V=>?_⟩;simp only[kO];by_cases e:i=j
 .subst e;rw[aD rfl,aD rfl,aD (by rw[h.2.1];exact(hp.lt i I).1),aD (by rw[h.1];exact I)]
 .rw[aw e,aw (fun U=>e (hp.inj I V U))];exact h.2.2 j V
def wi{x:qr}(h:oq ord l x y)(I:i<l.length):dt ord i∈Region.ready .any (fy ord l).toArray y↔i∈Region.ready .any l.toArray x:=by
 have J:=bq I;have o:=hp.cH J;rw[fh,fh];simp only[];have hd:∀(j:Nat) (b:Bool),j<l.length->y.getD (dt ord j) b=x.getD j b:=fun j b V=>by
  simp only[dO,h.2.2 j V]
 constructor
 .rintro⟨S,Y,U,W⟩;rw[o]at Y;simp only[ak]at Y;subst Y;refine⟨_,J,by rw[<-hd i true I];exact U,fun p Z=>?_⟩;rw[<-hd p false ((hp.pre i _ J).1 p Z)];exact W _ (by rw[hp.preds];exact List.mem_map_of_mem Z)
 .rintro⟨S,Y,U,W⟩;rw[J]at Y;simp only[ak]at Y;subst Y;refine⟨_,o,by rw[hd i true I];exact U,fun p Z=>?_⟩;rw[hp.preds]at Z;obtain⟨m,L,rfl⟩:=n0.1 Z;rw[hd m false ((hp.pre i _ J).1 m L)];exact W m L
theorem wj:∀{L:qp}{x y:qr},oq ord l x y->fj l.toArray L x->fj (fy ord l).toArray (L.map (dt ord)) y
 |[],x,y,hs,hv=>by
  show Region.ready .any (fy ord l).toArray y=[];apply og.2;intro k A;obtain⟨W,Y,_⟩:=fh.1 A;simp only[]at Y;obtain⟨i,o,m,Z,_⟩:=hp.of Y;have I:=(ci.1 m).1;rw[<-Z]at A;have:=(wi hp hs I).1 A;rw[show Region.ready .any l.toArray x=[]from hv]at this;simp at this
 |i::L,x,y,hs,hv=>by
  obtain⟨o,J,_⟩:=fh.1 hv.1;have I:i<l.length:=(ci.1 J).1;exact⟨(wi hp hs I).2 hv.1,wj (hs.set hp I) hv.2⟩
theorem Bg{L:qp}(M:fj l.toArray L F)
 (h:wpOps P (fy ord l).toArray Q (L.map (dt ord)) a w):wpOps P l.toArray Q L a w:=by
 refine tq (ops':=(fy ord l).toArray) (φ:=dt ord) L a w (fun i I=>?_) h;obtain⟨o,J⟩:=tu M i I;simp only[]at J;have Y:=hp.cH J;refine⟨o,kI ord o,by simpa using J,kW,⟨_,_,rfl⟩,fun a=>?_⟩;unfold Region.wanted kI;cases W:o.guard with
 |none=>rfl
 |some U=>
  obtain⟨j,b⟩:=U;have V:=(hp.pre i o J).2 j b W;have Z:=hp.cH (bq V);simp only[];unfold yielded;simp only[List.getElem?_toArray,Z,bq V];rfl
end
theorem T.beq_eq{W:Type}{A:W->W->Bool}(F:∀a b,A a b=true->a=b):∀{x y:T W},T.beq A x y=true->x=y
 | .e,.e,_=>rfl
 | .e,.n _ _ _,h=>by simp[T.beq]at h
 | .n _ _ _,.e,h=>by simp[T.beq]at h
 | .n v l r,.n o Y Z,h=>by
   simp only[T.beq,cI]at h;rw[T.beq_eq F h.1.2,T.beq_eq F h.2];have m:=h.1.1;cases v<;>cases o <;>simp only[bK]at m
   .rfl
   .rw[F _ _ m]
def Bh{ops:qj}{C H2:Hp}(h:sD ops Z I C H2=true):(∀o∈ops,∀d,o.dst=some d->Z.at d=I.at d)/\C=H2:=by
 unfold sD at h;simp only[cI,fU]at h;refine⟨fun o J d hd=>?_,?_⟩
 .have:=h.1.1 o J;rw[hd]at this;exact AV.beq_eq this
 .have m:=dN h.1.2;have Y:=T.beq_eq (fun a b=>HB.beq_eq) h.2;cases C;cases H2;simp only[]at m Y;rw[m,Y]
section
variable {P:Program} {B:Bs} {cfg:Cfg}
def Bi{t:Nat}{o:ae}{S:Option Tmp}{v:AV}(h:cF N E S v=some o)(I:S≠some t):o.at t=E.at t:=by
 unfold cF at h;split at h
 .rename_i d;split at h
  .simp only[ak]at h;rw[<-h,l5,aw (fun e=>I k1)]
  .simp at h
 .simp only[ak]at h;rw[<-h]
theorem wl{ih:zad->Res}{f N t:Nat}{Y:qj}:∀{rs:List Rec}{l:qj}{E E':ae}{H H':Hp},gt P cfg ih f N Y rs l E H E' H'->(∀o∈l,o.dst≠some t)->E'.at t=E.at t
 |[],[],_,_,_,_,h,_=>by rw[h.1]
 |[],_::_,_,_,_,_,h,_=>by simp[gt]at h
 |_::_,[],_,_,_,_,h,_=>by simp[gt]at h
 |r::rs,o::l,E,E',H,H',h,ht=>by
  obtain⟨_,_,_,_,_,_,E1,hp,Z⟩:=h;rw[wl Z (fun o J=>ht o (iN _ J)),Bi hp (ht o gN)]
def wm{t:Nat}{ops:qj}{Y:ae}(h:fS P cfg ih f N ops E H=.done x Y H')(I:∀o∈ops,o.dst≠some t):x=.normal/\Y.at t=E.at t:=by
 unfold fS at h;split at h
 .split at h
  .rename_i E1 H1 rs Z;split at h
   .simp only[Res.done.injEq]at h;obtain⟨rfl,rfl,rfl⟩:=h;exact⟨rfl,wl (nV Z) I⟩
   .simp at h
  .simp at h
 .simp at h
def Bj(h:o∈fy S l):∃L∈l,o.dst=L.dst:=by
 unfold fy at h;rw[List.mem_filterMap]at h;obtain⟨i,_,Z⟩:=h;split at Z
 .rename_i L J;simp only[ak]at Z;subst Z;exact⟨L,fY J,rfl⟩
 .simp at Z
def wn(h:o∈dM q p l):∃L∈l,o.dst=L.dst:=by
 obtain⟨i,I⟩:=ti.1 h;obtain⟨J,m⟩:=wc I;obtain⟨Z,Y,⟨W,U⟩,_⟩:=oh (q:=q) (p:=p) m;rw[I]at Y;simp only[ak]at Y;exact⟨J,fY m,by rw[Y,U]⟩
def wo{ops:qj}{ao aC:Res}(h:kJ ops ao aC=.done x Z H'):
 x=.normal/\ao=.done .normal Z H'/\∃I,aC=.done .normal I H'/\∀o∈ops,∀d,o.dst=some d->Z.at d=I.at d:=by
 unfold kJ at h;split at h
 .split at h
  .rename_i J;simp only[Res.done.injEq]at h;obtain⟨rfl,rfl,rfl⟩:=h;obtain⟨m,Y⟩:=Bh J;subst Y;exact⟨rfl,rfl,_,rfl,m⟩
  .simp at h
 .simp at h
theorem tw{ih:zad->Res}{f N t:Nat}{E Y:ae}{H H':Hp}{x:AX}:∀{I:zae}{ops:qj},ey P cfg ih f N E H I ops=.done x Y H'->(∀o∈ops,o.dst≠some t)->Y.at t=E.at t
 | .text,ops,h,ht=>(wm h ht).2
 | .b0 ord,ops,h,ht=>by
   simp only[ey]at h;split at h
   .exact(wm h (fun o J=>by obtain⟨L,m,Z⟩:=Bj J;rw[Z];exact ht L m)).2
   .simp at h
 | .split p q a b,ops,h,ht=>by
   simp only[ey]at h;split at h
   .simp at h
   .obtain⟨_,m,_⟩:=wo h;exact tw m (fun o J=>by obtain⟨L,m,Z⟩:=wn J;rw[Z];exact ht L m)
def eR.av(o:∀t,Z.at t=I.at t){e:Exit}(h:eR B N V G w x I H' e a w'):eR B N V G w x Z H' e a w':=by
 obtain⟨m,O,Y,F,W⟩:=h;exact⟨m,O,⟨Y.size,fun t=>by rw[o];exact Y.a3 t⟩,F,W⟩
theorem tx(fit:Fit P){n:Nat}{ih:zad->Res}(Z:Snd P B n ih){f N:Nat}{E:ae}{H:Hp}{G:Gh}{w:World}{a:Act}(h:R B H w G)(I:TR N G E a)(hd:a.defers=[]){Q:Exit->Act->World->Prop}:
 ∀(pl:zae) (l:qj) {E':ae}{H':Hp}{x:AX},ey P B.cfg ih f N E H pl l=.done x E' H'->(∀e Y W,eR B N H.next G w x E' H' e Y W->Q e Y W)->∀L,fj l.toArray L (Array.replicate l.length false) ->
  wpOps P l.toArray Q L a {w with drawn:=w.drawn+1}
 | .text,l,E',H',x,hr,hQ,L,hv=>tp L _ _ a _ (by
  have:=wa (ops:=l.toArray) fit Z hr h I hd hQ;simpa using this) hv
 | .b0 ord,l,E',H',x,hr,hQ,L,hv=>by
   simp only[ey]at hr;split at hr
   .rename_i hp;have hp:=Bf hp;refine Bg hp hv (tp _ _ _ a _ (wa (ops:=(fy ord l).toArray) fit Z hr h I hd hQ) ?_);refine wj hp ⟨aK,by simp[hp.length],fun i F=>?_⟩ hv;have:=(hp.lt i F).1;simp[hp.length,F,this]
   .simp at hr
 | .split p q pa pb,l,E',H',x,hr,hQ,L,hv=>by
   simp only[ey]at hr;split at hr
   .simp at hr
   .rename_i U;have O:p≠q:=sI U;obtain⟨rfl,m,E2,h2,h3⟩:=wo hr;rcases we O aK hv with V|C
    .exact wg hv (tx fit Z h I hd pa _ m hQ L (by rw[pZ];exact V))
    .have S:∀t,E'.at t=E2.at t:=fun t=>by
      by_cases I:∃o∈l,o.dst=some t
      .obtain⟨o,J,hd⟩:=I;exact h3 o J t hd
      .have M:∀o∈l,o.dst≠some t:=fun o J hd=>I ⟨o,J,hd⟩;have A:∀q p,∀o∈dM q p l,o.dst≠some t:=fun q p o J=>by obtain⟨o',g1,g2⟩:=wn J;rw[g2];exact M o' g1
       rw[tw m (A _ _),tw h2 (A _ _)]
     exact wg hv (tx fit Z h I hd pb _ h2 (fun e Y W hp=>hQ _ _ _ (eR.av S hp)) L (by rw[pZ];exact C))
def Bk(fit:Fit P)(o:Snd P B n ih){id:Nat}{I:zae}(hr:ey P B.cfg ih f N E H I ops.toList=.done x Z H')
 (h:R B H w G) (Y:TR N G E a) (hd:a.defers=[]):Code.wp P (.region id ops true) (eR B N H.next G w x Z H') a w:=by
 refine Bb fit.mixed fun L A=>?_;have:=tx fit o h Y hd I ops.toList hr (fun _ _ _ hp=>hp) L jY;simpa using this
end
structure Grow (w:World) (F:Nat->Nat->qz) (w':World) (F':Nat->Nat->qz):Prop where
 below:Below w.heap.size w w'
 more:∀b o v,F b o=some v->F' b o=some v
 cA:∀b o v,F' b o=some v->F b o=some v\/w.heap.size<=b
 bR:∀b o v,F' b o=some v->w'.cell? ⟨b,o,none⟩=some v
def bN(P:Program)(ρ:Nat->Int)(f:FuncId)(Z:qh)(r:AV):Prop:=
 (∃m,P.funcs[f]?=some m/\m.body.isSome=true)/\∀(G:Gh) (w:World) (vs:ql),G.ρ=ρ->(∀b o v,G.F b o=some v->w.cell? ⟨b,o,none⟩=some v)->bb G Z vs ->
   Calls P f vs.toArray w (fun e I=>∃v J,e=.returned v/\VR {G with F:=J} r v/\Grow w G.F I J)
def Bl(P:Program)(B:Bs):Prop:=∀f o r,B.cfg.call f o=some r->bN P B.ρ f o r
def tz(h:Below w.heap.size w w'){b o:Nat}(C:b<w.heap.size):w'.cell? ⟨b,o,none⟩=w.cell? ⟨b,o,none⟩/\w'.frozen? ⟨b,o,none⟩=w.frozen? ⟨b,o,none⟩:=
 ⟨by simp only[World.cell?,h.block b C],h.frozen (p:=⟨b,o,none⟩) C⟩
theorem R.du{B:Bs}{J:Nat->Nat->qz}(h:R B H w G)(g:Grow w G.F w' J):Step B H.next G w H w' {G with F:=J}:=by
 have U:Ext G {G with F:=J}:=⟨fun _ _ h=>h,g.more,rfl⟩;have V:∀{b o:Nat}{v:Value},w.cell? ⟨b,o,none⟩=some v->w'.cell? ⟨b,o,none⟩=some v:=fun hc=>by rw[(tz g.below (h9 hc)).1];exact hc
 refine⟨?_,U,⟨g.below.os,g.below.tape,g.below.output,g.below.size,fun k A _=>g.below.block k A⟩,fun r b o x hr=>.inl hr,fun _ _ h=>.inl h,aA _,fun b o v M=>(g.cA b o v M).imp id fun C=>dB h.a8 C⟩;exact{
  a8:=dB h.a8 g.below.size
  bW:=h.bW
  lt:=fun r b o x hr=>⟨(h.lt r b o x hr).1,eO (h.lt r b o x hr).2 g.below.size⟩
  cells:=fun r b o x cs imm Z hr hc j c S=>by
   obtain⟨v,m,O⟩:=h.cells r b o x cs imm Z hr hc j c S;exact⟨v,V m,O.mono U⟩
  bO:=fun r b o x cs imm Z hr hc j S Y=>let ⟨v,M⟩:=h.bO r b o x cs imm Z hr hc j S Y;⟨v,g.more _ _ _ M⟩
  ext:=h.ext
  a2:=h.a2
  aV:=fun r b o x cs imm Z hr hc j S Y=>by
   obtain⟨⟨v,m⟩,O,h3⟩:=h.aV r b o x cs imm Z hr hc j S Y;have C:=(h.lt r b o x hr).2;refine⟨⟨v,V m⟩,by rw[(tz g.below C).2];exact O,?_⟩;show J b (o+j)=none;cases hF:J b (o+j)with
   |none=>rfl
   |some u=>rcases g.cA _ _ _ hF with L|L
            ·rw[h3]at L;simp at L
            .omega
  apart:=h.apart
  map:=fun r b o x I hr hc=>by
   obtain⟨ms,W,m,O⟩:=h.map r b o x I hr hc;exact⟨ms,W,by rw[g.below.block b (h.lt r b o x hr).2];exact m,O.mono U⟩
  au:=h.au
  bR:=g.bR
  val:=h.val
  ca:=h.ca}
def Bm(h:u7 r=true)(k:VR G r v):VR O r v:=by
 cases k<;>first|exact .int _ _|exact .bool _|exact .ad _ _ nE|cases h
theorem tA(z:Nat):∀(n:Nat) (l:qh),(eM z n l).length=n
 |0,_=>rfl
 |n+1,l=>by simp[eM,tA z n]
theorem ot(z:Nat):∀(n:Nat) (l:qh) (i:Nat) (S:qh),l.length=n*z->(eM z n l)[i]?=some S->S.length=z/\∀(j:Nat) c,S[j]?=some c->l[i*z+j]?=some c
 |0,_,i,S,_,h=>by simp[eM]at h
 |n+1,l,i,S,hl,h=>by
  rw[gM,pW]at hl;simp only[eM]at h;cases i with
  |zero=>
   simp at h;subst h;refine⟨nN,fun j c V=>?_⟩;rw[jZ]at V;split at V
   .rw[Nat.zero_mul,dd];exact V
   .simp at V
  |succ i=>
   obtain⟨m,o⟩:=ot z n (l.drop z) i S (by rw[gn];omega) eF;refine⟨m,fun j c V=>?_⟩;have:=o j c V;rw[j3]at this;rw[gM,pW,show i*z+z+j=z+(i*z+j) by omega];exact this
theorem p5{B:Bs}{w:World}{g:AV->Hp->Option (AV×Hp)}
 (Z:∀(v:AV) (H:Hp) (q:AV) (H':Hp) (G:Gh) (x:Value),R B H w G->VR G v x->g v H=some (q,H')->∃O,Step B H.next G w H' w O/\VR O q x) :
 ∀(cs:qh) (vs:ql) (H:Hp) (V:qh) (H':Hp) (G:Gh),R B H w G->bb G cs vs->hU g cs H=some (V,H')->∃O,Step B H.next G w H' w O/\bb O V vs
 |[],vs,H,V,H',G,h,hv,hi=>by
  simp only[hU,bm]at hi;obtain⟨rfl,rfl⟩:=hi;exact⟨G,eh h,hv⟩
 |c::cs,[],H,V,H',G,h,hv,hi=>by have:=hv.1;simp at this
 |c::cs,v::vs,H,V,H',G,h,hv,hi=>by
  simp only[hU]at hi;split at hi
  .rename_i d H1 m;split at hi
   .rename_i A Y o;simp only[bm]at hi;obtain⟨rfl,rfl⟩:=hi;obtain⟨W,S⟩:=hv.aE;obtain⟨M,L,ao⟩:=Z c H d H1 G v h W m;obtain⟨J,U,aC⟩:=p5 Z cs vs H1 A Y M L.r (S.mono L.ext) o;exact⟨J,L.trans U,gq (ao.mono U.ext) aC⟩
   .simp at hi
  .simp at hi
theorem p6{B:Bs}{w:World}:∀(n:Nat) (v:AV) (H:Hp) (q:AV) (H':Hp) (G:Gh) (x:Value),R B H w G->VR G v x->fz n v H=some (q,H')->∃G',Step B H.next G w H' w G'/\VR G' q x
 |0,_,_,_,_,_,_,_,_,h=>by simp[fz]at h
 |n+1,v,H,q,H',G,x,h,hv,I=>by
  unfold fz at I;split at I
  .rename_i r F Z z;split at I
   .rename_i cs V tip A;split at I
    .rename_i U;simp only[cI]at U;have hle1:=nP U.1;have hle2:=nP U.2;split at I
     .rename_i l H1 M;simp only[bm]at I;obtain⟨rfl,rfl⟩:=I;cases hv with
      |sl hr hl hcx=>
       rename_i b o xx cap;have O:=h.cells r b o xx cs V tip hr A;have s1:=nM h hr A (n:=max V (F+Z*z)) aa aa tip id;obtain⟨Y,J,ho2⟩:=O.list;have hlen:((cs.drop F).take (Z*z)).length=Z*z:=vW;obtain⟨G2,s2,aC⟩:=p5 (p6 n) _ ((Y.drop F).take (Z*z)) _ l H1 _ s1.r (((J.drop F).take (Z*z)).mono s1.ext) M;refine⟨G2,s1.trans s2,?_⟩;have hll:l.length=Z*z:=by
        have e1:=aC.1;have e2:=((J.drop F).take (Z*z)).1;rw[hlen]at e2;omega
       have hlc:=tA z Z l;have hovl:Y.length=cs.length:=J.1.symm;have hat:∀m,m<Z*z->∃v,Y[F+m]?=some v/\G2.F b (o+F+m)=some v/\∀c,l[m]?=some c->VR G2 c v:=fun m hm=>by
        have W:F+m<Y.length:=aa;refine⟨Y[F+m],bq W,?_,fun c hc=>?_⟩
        .refine s2.ext.F _ _ _ ?_;have L:=ho2 (F+m) Y[F+m] (bq W);show(G.aB w b o (max V (F+Z*z))).F b (o+F+m)=some Y[F+m];simp only[Gh.aB];rw[<-eP]at L;split
         .rename_i v' hv';have:=h.bR _ _ _ hv';rw[L]at this;exact this.symm
         .rw[aD ⟨by trivial,aa,aa⟩];exact L
        .refine aC.2 m c _ hc ?_;rw[jZ,aD hm,j3];exact bq W
       have hin:∀i j,i<Z->j<z->i*z+j<Z*z:=fun i j I hj=>by
        calc i*z+j<i*z+z:=by omega
         _=(i+1)*z:=by rw[gM,pW]
         _<=Z*z:=nI _ I
       have key:VR G2 (.af (eM z Z l)) (.slice (some ⟨b,o+F,none⟩) (eM z Z l).length cap):=by
        refine .af (fun i j=>(Y[F+(i*z+j)]?).getD undef) (z:=z) (fun i S C=>(ot z Z l i S hll C).1) (fun i j I hj=>?_) (fun i j S c C hcj=>?_) (by rw[hlc];exact hl)
        .rw[hlc]at I;obtain⟨v,e1,e2,_⟩:=hat _ (hin i j I hj);rw[e1,eP (o+F)];exact e2
        .have hm:=(ot z Z l i S hll C).2 j c hcj;have W:=(ci.1 hm).1;obtain⟨v,e1,_,e3⟩:=hat (i*z+j) aa;rw[e1];exact e3 c hm
       rw[hlc]at key;exact key
     .simp at I
    .simp at I
   .simp at I
  .rename_i cs;split at I
   .rename_i ds H1 M;simp only[bm]at I;obtain⟨rfl,rfl⟩:=I;cases hv with
    |agg hl hvs=>
     obtain⟨G',s,r⟩:=p5 (p6 n) cs _ H ds H1 G h ⟨hl,hvs⟩ M;exact⟨G',s,.agg r.1 r.2⟩
   .simp at I
  .simp at I
  .simp at I
  .simp only[bm]at I;obtain⟨rfl,rfl⟩:=I;exact⟨G,eh h,hv⟩
section
variable {P:Program} {B:Bs} {G:Gh} {H H':Hp} {w:World}
theorem wq:∀(o:qh) (i:Nat) (E:ae) (t:Nat),(ba i o E).at t=if i<=t/\t<i+o.length then o.getD (t-i) b5 else E.at t
 |[],i,E,t=>by
  simp only[ba,l0,iJ];rw[aw aa]
 |v::vs,i,E,t=>by
  simp only[ba,wq vs (i+1),de];by_cases m:i+1<=t/\t<i+1+vs.length
  .rw[aD m,aD aa,show t-i=(t-(i+1))+1 by omega];rfl
  .rw[aw m,l5];by_cases Z:t=i
   .subst Z;rw[aD rfl,aD aa];simp
   .rw[aw Z,aw aa]
theorem tB:∀(d t:Nat),ae.at (nA d) t=b5
 |0,_=>rfl
 |d+1,t=>by
  unfold ae.at nA;rw[kS];cases h:Nat.beq t 0 with
  |true=>rfl
  |false=>
   rw[fW];cases o:Nat.beq (Nat.mod t 2) 1 with
   |true=>exact tB d _
   |false=>exact tB d _
def Bn(N t:Nat):ae.at (kK N) t=b5:=tB _ _
def TR.start{o:qh}(h:bb G o vs)(U:Nat):
 TR (max U o.length) G (ba 0 o (kK (max U o.length))) {tmps:=vs.toArray++Array.replicate (U-vs.toArray.size) undef,defers:=[] }:=by
 have O:=h.1;refine⟨dj,fun t=>?_⟩;rw[wq];simp only[eC,k5,dd,Nat.sub_zero];by_cases I:t<o.length
 .rw[aD I];have A:o.getD t b5=o[t]:=by simp[List.getD,I]
  rw[A];have:(vs.toArray++Array.replicate (U-vs.toArray.size) undef).getD t undef=vs[t]' aa:=by
   rw[dO,Array.getElem?_append_left dj];simp[show t<vs.length by omega]
  rw[this];exact h.2 t _ _ (bq I) (bq aa)
 .rw[aw I,Bn];have:(vs.toArray++Array.replicate (U-vs.toArray.size) undef).getD t undef=undef:=by
   rw[dO,Array.getElem?_append_right dj];simp only[vX];split<;>rfl
  rw[this];exact nK G
def Bo(h:R B H w G)(I:TR N G E a){r:ResultVar}{c:AV}(hr:cG P E H r=some c):
 ∃v,(match r with
  | .tmp t=>pure (a.tmps.getD t undef)
  | .cell x t=>do loadVar t (<-asAddr (a.tmps.getD x undef)):Sem Value).run P w=.ok v w/\VR G c v:=by
 cases r with
 |tmp t=>
  simp only[cG,ak]at hr;subst hr;exact⟨_,rfl,I.a3 t⟩
 |cell x t=>
  simp only[cG]at hr;have U:=I.a3 x;obtain⟨v,m,o⟩:=vu (P:=P) h U hr;refine⟨v,?_,o⟩;show(do loadVar t (<-asAddr (a.tmps.getD x undef)):Sem Value).run P w=.ok v w;generalize a.tmps.getD x undef=Z at U m⊢;generalize E.at x=M at U hr;cases U<;>simp[dq]at hr<;>simpa [Instr.loadAt,Instr.sureAddr,asAddr]using m
theorem wr(h:R B H w G){N:Nat}{E:ae}{a:Act}(I:TR N G E a):∀{rs:List ResultVar}{cs:qh},cu P E H rs=some cs ->
 ∃vs,(rs.mapM (fun
  | .tmp t=>pure (a.tmps.getD t undef)
  | .cell x t=>do loadVar t (<-asAddr (a.tmps.getD x undef)):ResultVar->Sem Value)).run P w=.ok vs w/\bb G cs vs
 |[],cs,hr=>by
  simp only[cu,ak]at hr;subst hr;exact⟨[],aK,iK G⟩
 |r::rs,cs,hr=>by
  simp only[cu]at hr;split at hr
  .rename_i c A m o;simp only[ak]at hr;subst hr;obtain⟨v,Y,U⟩:=Bo (P:=P) h I m;obtain⟨vs,bD,a4⟩:=wr h I o;refine⟨v::vs,?_,gq U a4⟩;rw[List.mapM_cons];simp only[cw,Y,cA,bD,eA]
  .simp at hr
def ws(h:R B H w G)(Y:TR N G E a){m:Func}(hr:lX P m.results.toList E H=.val r H'):
 H'=H/\∃v,(results m a.tmps).run P w=.ok v w/\VR G r v:=by
 unfold lX at hr;split at hr
 .rename_i cs A;simp only[Res.val.injEq]at hr;obtain⟨rfl,rfl⟩:=hr;obtain⟨vs,W,o⟩:=wr (P:=P) h Y A;refine⟨rfl,?_⟩;have Z:(results m a.tmps).run P w=.ok (if h:vs.toArray.size=1 then vs.toArray[0]else .tuple vs.toArray) w:=by
   unfold results;rw[Array.mapM_eq_mapM_toList];simp only[cw,Sem.run_map];exact congrArg (fun r:Result ql=>(r.andThen fun a I=>Result.ok a.toArray I).andThen fun a I=>Sem.run P (pure (if h:a.size=1 then a[0]else Value.tuple a)) I) W
  refine⟨_,Z,?_⟩
  match cs,vs,o with
  |[],[],o=>exact .aC (vs:=[]) rfl aK
  |[c],[v],o=>exact o.aE.1
  |c::c'::cs,v::v'::vs,o=>
   have:¬(v::v'::vs).toArray.size=1:=aK;rw[dif_neg this];exact .aC o.1 o.2
  |[],_::_,o=>have:=o.1;simp at this
  |[_],[],o=>have:=o.1;simp at this
  |[_],_::_::_,o=>have:=o.1;simp at this
  |_::_::_,[],o=>have:=o.1;simp at this
  |_::_::_,[_],o=>have:=o.1;simp at this
 .simp at hr
def tC(M:Fit P)(Z:Snd P B n ih){f:FuncId}{o:qh}(J:gI P ih f o H=.val r H')(h:R B H w G)(L:bb G o vs):
 (∃m,P.funcs[f]?=some m/\m.body.isSome=true)/\Calls P f vs.toArray w (fun e I=>∃v O,e=.returned v/\VR O r v/\Step B H.next G w H' I O):=by
 unfold gI at J;split at J
 .rename_i m C;split at J
  .rename_i c hc;refine⟨⟨m,C,by rw[hc];rfl⟩,calls_of_wp C hc ?_⟩;have W:=TR.start L m.ntmps;split at J
   .rename_i E1 H1 V;refine j5 (fun e a' I F=>?_) (Z.aj _ _ _ _ _ _ _ _ V G w _ h W rfl);obtain⟨rfl,O,Y,A,hd⟩:=F;obtain⟨rfl,v,U,S⟩:=ws (P:=P) A.r Y J;exact⟨hd,v,U,v,O,rfl,S,A⟩
   .rename_i E1 H1 V;refine j5 (fun e a' I F=>?_) (Z.aj _ _ _ _ _ _ _ _ V G w _ h W rfl);obtain⟨rfl,O,Y,A,hd⟩:=F;obtain⟨rfl,v,U,S⟩:=ws (P:=P) A.r Y J;exact⟨hd,v,U,v,O,rfl,S,A⟩
   .simp at J
  .simp at J
 .simp at J
def tD(W:Snd P B n ih){r:Res}{o:ae}(J:gJ ih f N b r=.done x o H'):
 ∃O E1 H1,r=.done O E1 H1/\((O=.normal/\ih (.aj f N b E1 H1)=.done x o H')\/(O≠.normal/\x=O/\o=E1/\H'=H1)):=by
 unfold gJ at J;split at J
 .rename_i E1 H1;exact⟨.normal,E1,H1,rfl,.inl ⟨rfl,J⟩⟩
 .rename_i Z;subst J;exact⟨x,o,H',rfl,.inr ⟨fun e=>by subst e;exact Z _ _ rfl,rfl,rfl,rfl⟩⟩
def Bp(fit:Fit P)(o:Snd P B n ih)(J:step P B.cfg ih (.aj f N c E H)=.done x E' H')
  (h:R B H w G) (I:TR N G E a) (hd:a.defers=[]):Code.wp P c (eR B N H.next G w x E' H') a w:=by
 cases c with
 |skip=>
  simp only[step,Res.done.injEq]at J;obtain⟨rfl,rfl,rfl⟩:=J;exact wp_skip ⟨rfl,G,I,eh h,hd⟩
 |region id ops draw=>
  cases draw with
  |false=>
   exact wp_region_list (ta fit o ops.toList J h I hd (fun _ _ _ hp=>hp))
  |true=>exact Bk fit o J h I hd
 |seq p q=>
  obtain⟨L,E1,H1,m,Z⟩:=tD o J;refine wp_seq (j5 (fun e V U F=>?_) (o.aj _ _ _ _ _ _ _ _ m G w a h I hd));obtain⟨rfl,O,Y,A,S⟩:=F;rcases Z with⟨rfl,Z⟩|⟨W,rfl,rfl,rfl⟩
  .exact j5 (fun e a w F=>pT A F) (o.aj _ _ _ _ _ _ _ _ Z O U V A.r Y S)
  .cases x with
   |normal=>exact(W rfl).elim
   |exit id=>exact⟨rfl,O,Y,A,S⟩
   |ret=>exact⟨rfl,O,Y,A,S⟩
 |cond y p q=>
  simp only[step,kL]at J;split at J
  .rename_i M;have C:=s9 I M;have:a.eval y=.bool true:=by generalize a.eval y=v at C;cases C;rfl
   exact wp_cond_true this (o.aj _ _ _ _ _ _ _ _ J G w a h I hd)
  .rename_i M;have C:=s9 I M;have:a.eval y=.bool false:=by generalize a.eval y=v at C;cases C;rfl
   exact wp_cond_false this (o.aj _ _ _ _ _ _ _ _ J G w a h I hd)
  .simp at J
 |block id p=>
  simp only[step]at J;cases m:ih (.aj f N p E H)with
  |done L E1 H1=>
   rw[m]at J;refine wp_block (j5 (fun e V U F=>?_) (o.aj _ _ _ _ _ _ _ _ m G w a h I hd));obtain⟨rfl,O,Y,A,S⟩:=F;cases L with
   |normal=>
    simp only[gl,Res.done.injEq]at J;obtain⟨rfl,rfl,rfl⟩:=J;exact⟨rfl,O,Y,A,S⟩
   |ret=>
    simp only[gl,Res.done.injEq]at J;obtain⟨rfl,rfl,rfl⟩:=J;exact⟨rfl,O,Y,A,S⟩
   |exit id'=>
    simp only[gl]at J;cases C:Nat.beq id' id with
    |true=>
     rw[C]at J;simp only[Res.done.injEq]at J;obtain⟨rfl,rfl,rfl⟩:=J;have:=dN C;subst this;simp only[s7,Exit.inBlock,cy];exact⟨rfl,O,Y,A,S⟩
    |false=>
     rw[C]at J;simp only[Res.done.injEq]at J;obtain⟨rfl,rfl,rfl⟩:=J;have:=sI C;simp only[s7,Exit.inBlock];rw[aw this];exact⟨rfl,O,Y,A,S⟩
  |val v H1=>rw[m]at J;simp[gl]at J
  |aq=>rw[m]at J;simp[gl]at J
 |loop p=>
  refine wp_loop_rounds (n+1) ?_;rw[rounds_succ];obtain⟨L,E1,H1,m,Z⟩:=tD o J;refine j5 (fun e V U F=>?_) (o.aj _ _ _ _ _ _ _ _ m G w a h I hd);obtain⟨rfl,O,Y,A,S⟩:=F;rcases Z with⟨rfl,Z⟩|⟨W,rfl,rfl,rfl⟩
  .exact s8 (fun e a w F=>pT A F) (o.loop _ _ _ _ _ _ _ _ Z O U V A.r Y S)
  .cases x with
   |normal=>exact(W rfl).elim
   |exit id=>exact⟨rfl,O,Y,A,S⟩
   |ret=>exact⟨rfl,O,Y,A,S⟩
 |exit id=>
  simp only[step,Res.done.injEq]at J;obtain⟨rfl,rfl,rfl⟩:=J;exact wp_exit ⟨rfl,G,I,eh h,hd⟩
 |ret=>
  simp only[step,Res.done.injEq]at J;obtain⟨rfl,rfl,rfl⟩:=J;exact wp_ret ⟨rfl,G,I,eh h,hd⟩
 |rangeFunc _ _ _ _=>simp[step]at J
 |scope _=>simp[step]at J
 |label _=>simp[step]at J
 |goto _=>simp[step]at J
 |refuse _=>simp[step]at J
def Bq(V:Fit P)(o:Snd P B n ih){U:ae}(J:step P B.cfg ih (.aj f N (.loop c) E H)=.done x U H')
  (h:R B H w G) (I:TR N G E a) (hd:a.defers=[]):Code.rounds P c (eR B N H.next G w x U H') (n+1) a w:=by
 rw[rounds_succ];obtain⟨C,E1,H1,m,Z⟩:=tD o J;refine j5 (fun e M L F=>?_) (o.aj _ _ _ _ _ _ _ _ m G w a h I hd);obtain⟨rfl,O,Y,A,S⟩:=F;rcases Z with⟨rfl,Z⟩|⟨W,rfl,rfl,rfl⟩
 .exact s8 (fun e a w F=>pT A F) (o.loop _ _ _ _ _ _ _ _ Z O L M A.r Y S)
 .cases x with
  |normal=>exact(W rfl).elim
  |exit id=>exact⟨rfl,O,Y,A,S⟩
  |ret=>exact⟨rfl,O,Y,A,S⟩
theorem wt(fit:Fit P)(hc:Bl P B):∀n,Snd P B n (bP P B.cfg n)
 |0=>⟨fun _ _ _ _ _ h=>by simp[bP]at h,fun _ _ _ _ _ _ _ _ h=>by simp[bP]at h,fun _ _ _ _ _ _ _ _ h=>by simp[bP]at h⟩
 |n+1=>by
  have V:=wt fit hc n;have he:bP P B.cfg (n+1)=step P B.cfg (bP P B.cfg n):=rfl;rw[he];refine⟨fun f Z H r H' J G w vs h M=>?_,fun f N c E H x E' H' J G w a h ht hd=>Bp fit V J h ht hd,fun f N c E H x E' H' J G w a h ht hd=>Bq fit V J h ht hd⟩;have W:∀{G:Gh}{Z:qh}{vs:ql}{H:Hp}{U:AV},B.cfg.call f Z=some U->R B H w G->bb G Z vs ->
   (∃m,P.funcs[f]?=some m/\m.body.isSome=true)/\Calls P f vs.toArray w (fun e I=>∃v O,e=.returned v/\VR O U v/\Step B H.next G w H I O):=fun{G Z vs H U} hr h M=>by
   obtain⟨h1,h2⟩:=hc f Z U hr;refine⟨h1,(h2 G w vs h.val h.bR M).mono fun e I S=>?_⟩;obtain⟨v,F',rfl,Y,hg⟩:=S;exact⟨v,_,rfl,Y,h.du hg⟩
  have C:∀{G:Gh}{Z:qh}{vs:ql}{H H':Hp}{r:AV},hY P B.cfg (bP P B.cfg n) f Z H=.val r H'->R B H w G->bb G Z vs ->
   (∃m,P.funcs[f]?=some m/\m.body.isSome=true)/\Calls P f vs.toArray w (fun e I=>∃v O,e=.returned v/\VR O r v/\Step B H.next G w H' I O):=fun{G Z vs H H' r} J h M=>by
   unfold hY at J;split at J
   .unfold pE at J;split at J
    .rename_i L H1 hice;split at J
     .rename_i U hr;simp only[Res.val.injEq]at J;obtain⟨rfl,rfl⟩:=J;obtain⟨G1,s1,ao⟩:=p5 (p6 100) Z vs H L H1 G h M hice;unfold u9;split
      .rename_i hfl;obtain⟨h1,h2⟩:=hc f L U hr;refine⟨h1,(h2 G1 w vs s1.r.val s1.r.bR ao).mono fun e I S=>?_⟩;obtain⟨v,F',rfl,Y,hg⟩:=S;exact⟨v,{G with F:=G.F},rfl,Bm hfl Y,h.du ⟨hg.below,fun _ _ _ h=>h,fun _ _ _ h=>.inl h,fun b o v hF=>hg.bR b o v (hg.more b o v (s1.ext.F b o v hF))⟩⟩
      .obtain⟨h1,h2⟩:=W hr s1.r ao;refine⟨h1,h2.mono fun e I S=>?_⟩;obtain⟨v,O,rfl,Y,A⟩:=S;exact⟨v,O,rfl,Y,s1.trans A⟩
     .exact tC fit V J h M
    .exact tC fit V J h M
   .exact tC fit V J h M
  simp only[step]at J;split at J
  .rename_i U hr;simp only[Res.val.injEq]at J;obtain⟨rfl,rfl⟩:=J;exact W hr h M
  .unfold nB at J;split at J
   .rename_i v1 H1 hz hv1;obtain⟨g1,g2⟩:=C hv1 h M;refine⟨g1,g2.mono fun e I S=>?_⟩;obtain⟨v,O,rfl,Y,A⟩:=S;cases hi:fz 100 v1 H1 with
    |none=>rw[hi]at J;simp[cO]at J
    |some p=>
     obtain⟨q,H2⟩:=p;rw[hi]at J;simp only[cO,Res.val.injEq]at J;obtain⟨rfl,rfl⟩:=J;obtain⟨G2,s2,aC⟩:=p6 100 v1 H1 _ _ O v A.r Y hi;exact⟨v,G2,rfl,aC,A.trans s2⟩
   .exact C J h M
end
open Go Go.RowKit Go.WideShapes Go.ChangeShapes
theorem Br(r:Nat):bA.get r=none:=rfl
theorem R.start{cfg:Cfg}(Z:∀b o v,G.F b o=some v->w.cell? ⟨b,o,none⟩=some v)(C:∀r,G.β r=none)(F:fV cfg.bC G.ρ):R ⟨w.heap.size,G.ρ,cfg⟩ bA w G:=by
 refine⟨aA _,?_,?_,?_,?_,?_,?_,?_,?_,?_,Z,rfl,F,?_⟩<;>intros<;>simp_all
theorem mj{g:AV->qk}:∀{cs V:qh},iceL g cs=some V->V.length=cs.length/\∀(i:Nat) d,V[i]?=some d->∃c,cs[i]?=some c/\g c=some d
 |[],V,h=>by
  simp only[iceL,ak]at h;subst h;exact⟨rfl,aK⟩
 |c::cs,V,h=>by
  simp only[iceL]at h;split at h
  .rename_i d A m o;simp only[ak]at h;subst h;obtain⟨Z,Y⟩:=mj o;refine⟨by simp[Z],fun i e F=>?_⟩;cases i with
   |zero=>simp at F;subst F;exact⟨c,rfl,m⟩
   |succ i=>exact Y i e (by simpa using F)
  .simp at h
theorem wu{g:AV->qk}:∀{cs V:List qh},jX g cs=some V->V.length=cs.length/\∀(i:Nat) d,V[i]?=some d->∃c,cs[i]?=some c/\iceL g c=some d
 |[],V,h=>by
  simp only[jX,ak]at h;subst h;exact⟨rfl,aK⟩
 |c::cs,V,h=>by
  simp only[jX]at h;split at h
  .rename_i d A m o;simp only[ak]at h;subst h;obtain⟨Z,Y⟩:=wu o;refine⟨by simp[Z],fun i e F=>?_⟩;cases i with
   |zero=>simp at F;subst F;exact⟨c,rfl,m⟩
   |succ i=>exact Y i e (by simpa using F)
  .simp at h
theorem ou{H:Hp}{G G2:Gh}{w:World}(O:G2.ρ=G.ρ)(hF:∀b o v,G.F b o=some v->G2.F b o=some v)
 (L:∀r b o x cs imm tip,G.β r=some (b,o,x)->H.get r=some (.cells cs imm tip)->dD G w b o cs/\∀j v,w.cell? ⟨b,o+j,none⟩=some v->G2.F b (o+j)=some v) :
 ∀(n:Nat) (v:AV) (x:Value) (q:AV),VR G v x->iceV H n v=some q->VR G2 q x
 |0,_,_,_,_,h=>by simp[iceV]at h
 |n+1,v,x,q,hv,h=>by
  have U:∀{cs ds:qh}{vs:ql},bb G cs vs->iceL (iceV H n) cs=some ds->bb G2 ds vs:=fun{cs ds vs} Z I=>by
   obtain⟨h1,h2⟩:=mj I;refine⟨by rw[h1];exact Z.1,fun i d u hd hu=>?_⟩;obtain⟨c,hc,hcd⟩:=h2 i d hd;exact ou O hF L n c u d (Z.2 i c u hc hu) hcd
  cases hv with
  |int k a=>simp only[iceV,ak]at h;subst h;exact .int _ _
  |sx k e=>simp only[iceV,ak]at h;subst h;rw[<-O];exact .sx _ _
  |bool b=>simp only[iceV,ak]at h;subst h;exact .bool _
  |ad s l hs=>simp only[iceV,ak]at h;subst h;exact .ad _ _ hs
  |aY=>simp only[iceV,ak]at h;subst h;exact .aY
  |aO=>simp only[iceV,ak]at h;subst h;exact .aO
  |bh=>simp only[iceV,ak]at h;subst h;exact .bh
  |ab=>simp only[iceV,ak]at h;subst h;exact .ab
  |ptr _=>simp[iceV]at h
  |aN _ _ _=>simp[iceV]at h
  |map _=>simp[iceV]at h
  |bj _ _=>simp[iceV]at h
  |agg hl Z=>
   simp only[iceV]at h;split at h
   .rename_i ds hds;simp only[ak]at h;subst h;have:=U ⟨hl,Z⟩ hds;exact .agg this.1 this.2
   .simp at h
  |aC hl Z=>
   simp only[iceV]at h;split at h
   .rename_i ds hds;simp only[ak]at h;subst h;have:=U ⟨hl,Z⟩ hds;exact .aC this.1 this.2
   .simp at h
  |b1 a cap=>
   simp only[iceV,jX,ak]at h;subst h;exact .b1 _ _
  |af vs hz hFx hvx hc=>
   rename_i xs b o cap z;simp only[iceV]at h;split at h
   .rename_i ys hys;simp only[ak]at h;subst h;obtain⟨h1,h2⟩:=wu hys;rw[<-h1];refine .af vs (z:=z) (fun i S hr=>?_) (fun i j I hj=>hF _ _ _ (hFx i j (by rw[<-h1];exact I) hj)) (fun i j S c hr hcj=>?_) (by rw[h1];exact hc)
    .obtain⟨c,V,hc2⟩:=h2 i S hr;rw[(mj hc2).1];exact hz i c V
    .obtain⟨c0,V,hc2⟩:=h2 i S hr;obtain⟨c1,hc3,hc4⟩:=(mj hc2).2 j c hcj;exact ou O hF L n c1 (vs i j) c (hvx i j c0 c1 V hc3) hc4
   .simp at h
  |sl hr hl hcx=>
   rename_i r Y F z b o xx cap;simp only[iceV]at h;split at h
   .rename_i cs imm tip hg;split at h
    .rename_i l hil;split at h
     .rename_i M;simp only[ak]at h;subst h;obtain⟨hh,hnew⟩:=L r b o xx cs imm tip hr hg;obtain⟨h1,h2⟩:=mj hil;have C:∀(m:Nat) c,l[m]?=some c->∃v,w.cell? ⟨b,o+Y+m,none⟩=some v/\VR G2 c v:=fun m c hm=>by
       obtain⟨c0,A,V⟩:=h2 m c hm;rw[jZ]at A;split at A
       .rw[j3]at A;obtain⟨v,J,hv2⟩:=hh _ _ A;exact⟨v,by rw[eP];exact J,ou O hF L n c0 v c hv2 V⟩
       .simp at A
      have hlc:=tA z F l;have hin:∀i j,i<F->j<z->i*z+j<l.length:=fun i j I hj=>by
       rw[M]
       calc i*z+j<i*z+z:=by omega
        _=(i+1)*z:=by rw[gM,pW]
        _<=F*z:=nI _ I
      have key:VR G2 (.af (eM z F l)) (.slice (some ⟨b,o+Y,none⟩) (eM z F l).length cap):=by
       refine .af (fun i j=>(w.cell? ⟨b,o+Y+(i*z+j),none⟩).getD undef) (z:=z) (fun i S W=>(ot z F l i S M W).1) (fun i j I hj=>?_) (fun i j S c W hcj=>?_) (by rw[hlc];exact hl)
       .rw[hlc]at I;have hm:=hin i j I hj;obtain⟨v,J,_⟩:=C (i*z+j) _ (bq hm);rw[J];have:=hnew (Y+(i*z+j)) v (by rw[<-eP];exact J);rw[show o+Y+i*z+j=o+(Y+(i*z+j)) by omega];exact this
       .have hm:=(ot z F l i S M W).2 j c hcj;obtain⟨v,J,hv2⟩:=C (i*z+j) c hm;rw[J];exact hv2
      rw[hlc]at key;exact key
     .simp at h
    .simp at h
   .simp at h
def Bt(w:World){G2:Gh}(F:G2.ρ=G.ρ)(Y:∀b o v,G.F b o=some v->G2.F b o=some v){Z:qh}(h:iH m Z=true)(M:bb G Z vs):bb G2 Z vs:=by
 unfold iH at h;split at h
 .rename_i U C;have:=ig h;subst this;obtain⟨I,O⟩:=mj C;refine⟨M.1,fun i c v hc J=>?_⟩;obtain⟨c0,A,S⟩:=O i c hc;rw[hc]at A;simp only[ak]at A;subst A;exact ou (H:=bA) (w:=w) F Y (fun r b o x cs W V _ L=>by simp[Br]at L) m c v c (M.2 i c v hc J) S
 .simp at h
def tE{f:FuncId}{o:qh}(h:gI P ih f o H=.val r H'):∃m,P.funcs[f]?=some m/\m.body.isSome=true:=by
 unfold gI at h;split at h
 .rename_i m C;split at h
  .rename_i c Z;exact⟨m,C,by simp[Z]⟩
  .simp at h
 .simp at h
theorem Bu{cfg:Cfg}{ρ:Nat->Int}(Z:∀f o r,cfg.call f o=some r->bN P ρ f o r){f:FuncId}{o:qh}{r:AV}(h:bP P cfg n (.call f o H)=.val r H'):
 ∃m,P.funcs[f]?=some m/\m.body.isSome=true:=by
 cases n with
 |zero=>simp[bP]at h
 |succ n=>
  have F:bP P cfg (n+1)=step P cfg (bP P cfg n):=rfl;rw[F]at h;simp only[step]at h;split at h
  .rename_i Y hr;exact(Z f o Y hr).1
  .have C:∀{r:AV}{H':Hp},hY P cfg (bP P cfg n) f o H=.val r H'->∃m,P.funcs[f]?=some m/\m.body.isSome=true:=fun{r H'} h=>by
    unfold hY at h;split at h
    .unfold pE at h;split at h
     .split at h
      .rename_i hr;exact(Z _ _ _ hr).1
      .exact tE h
     .exact tE h
    .exact tE h
   unfold nB at h;split at h
   .rename_i M;exact C M
   .exact C h
def wv(fit:Fit P){cfg:Cfg}{ρ:Nat->Int}(hD:fV cfg.bC ρ)(A:∀f Z r,cfg.call f Z=some r->bN P ρ f Z r){f:FuncId}{Z:qh}{r:AV}
 (hp:iH k Z=true) (h:pF P cfg n m f Z=some r):bN P ρ f Z r:=by
 unfold pF at h;split at h
 .rename_i v0 H' L;refine⟨Bu A L,fun G w vs F W M=>?_⟩;subst F;have U:bb {G with β:=fun _=>none} Z vs:=Bt w (G:=G) (G2:={G with β:=fun _=>none}) rfl (fun _ _ _ h=>h) hp M;have S:R ⟨w.heap.size,G.ρ,cfg⟩ bA w {G with β:=fun _=>none}:=R.start (G:={G with β:=fun _=>none}) W (fun _=>rfl) hD;refine((wt (B:=⟨w.heap.size,G.ρ,cfg⟩) fit A n).call f Z bA _ H' L _ w vs S U).2.mono fun e I hh=>?_;obtain⟨x,G',rfl,hx,J⟩:=hh;have O:Below w.heap.size w I:=⟨J.fr.os,J.fr.tape,J.fr.output,J.fr.size,fun k hk=>J.fr.block k hk (fun r b o x hr=>by simp at hr)⟩;refine⟨x,fun b o=>if b<w.heap.size then G.F b o else I.cell? ⟨b,o,none⟩,rfl,?_,O,fun b o v M=>?_,fun b o v M=>?_,fun b o v M=>?_⟩
  .refine ou (G:=G') (w:=I) (H:=H') ?_ (fun b o v M=>?_) (fun r b o x cs C V hr hg=>?_) m v0 x r hx h
   .exact J.ext.ρ.symm
   .rcases J.cA b o v M with Y|Y
    .show(if b<w.heap.size then G.F b o else I.cell? ⟨b,o,none⟩)=some v;rw[aD (h9 (W b o v Y))];exact Y
    .show(if b<w.heap.size then G.F b o else I.cell? ⟨b,o,none⟩)=some v;rw[aw (by have:w.heap.size<=b:=Y;omega)];exact J.r.bR b o v M
   .refine⟨J.r.cells r b o x cs C V hr hg,fun j v hj=>?_⟩;have Y:w.heap.size<=b:=(J.r.lt r b o x hr).1;show(if b<w.heap.size then G.F b (o+j)else I.cell? ⟨b,o+j,none⟩)=some v;rw[aw aa];exact hj
  .rw[aD (h9 (W b o v M))];exact M
  .split at M
   .exact .inl M
   .exact .inr aa
  .split at M
   .rename_i hb;rw[(tz O hb).1];exact W b o v M
   .exact M
 .simp at h
def Bv{ρ:Nat->Int}{f:FuncId}{Z:qh}{b:Bool}(h:bN P ρ f Z (.bool b)){F:Nat->Nat->qz}
 (J:∀b o v,F b o=some v->w.cell? ⟨b,o,none⟩=some v) (M:bb ⟨fun _=>none,F,ρ⟩ Z vs) :
 Calls P f vs.toArray w (fun e I=>e=.returned (.bool b)/\Below w.heap.size w I):=by
 refine(h.2 ⟨fun _=>none,F,ρ⟩ w vs rfl J M).mono fun e I W=>?_;obtain⟨v,Y,rfl,hr,L⟩:=W;cases hr;exact⟨rfl,L.below⟩
def Bw(fit:Fit P){cfg:Cfg}{ρ:Nat->Int}(F:fV cfg.bC ρ)(Z:∀f o r,cfg.call f o=some r->bN P ρ f o r){f:FuncId}{o:qh}{r:AV}
 (J:iH k o=true) (h:sE P cfg n m f o r=true):bN P ρ f o r:=by
 unfold sE at h;split at h
 .rename_i q A;rw[<-AV.beq_eq h];exact wv fit F Z J A
 .simp at h
def p7(ρ:Nat->Int):fV (fun _ _ _=>none) ρ:=fun _ _ _ _ _ h=>k2
def ei(P:Program)(ρ:Nat->Int):List (FuncId×qh×AV)->Prop
 |[]=>True
 |p::l=>bN P ρ p.1 p.2.1 p.2.2/\ei P ρ l
theorem p8{P:Program}{ρ:Nat->Int}:∀{l:List (FuncId×qh×AV)},ei P ρ l->∀f o r,ji l f o=some r->bN P ρ f o r
 |[],_,_,_,_,h=>by simp[ji]at h
 |p::l,hk,f,o,r,h=>by
  simp only[ji]at h;split at h
  .rename_i Z;split at h
   .rename_i S;simp only[ak]at h;subst h;rw[<-dN Z,<-ig S];exact hk.1
   .exact p8 hk.2 f o r h
  .exact p8 hk.2 f o r h
def ml:List (Nat×Nat×zae)->FuncId->Nat->zae
 |[],_,_=>.text
 |p::l,f,id=>match Nat.beq p.1 f with
  |true=>match Nat.beq p.2.1 id with
   |true=>p.2.2
   |false=>ml l f id
  |false=>ml l f id
def Bx(pls:List (Nat×Nat×zae))(l:List (FuncId×qh×AV)):Cfg:={az:=fun _=>false,call:=ji l,aB:=fun f=>l.any fun p=>Nat.beq p.1 f,bS:=ml pls}
def ju(fit:Fit P){ρ:Nat->Int}{pls:List (Nat×Nat×zae)}{l:List (FuncId×qh×AV)}(O:ei P ρ l){f:FuncId}{o:qh}
 (J:iH k o=true) (h:sE P (Bx pls l) n m f o r=true):bN P ρ f o r:=Bw fit (p7 ρ) (p8 O) J h
def ww(P:Program):Bool:=P.funcs.all (fun m=>!(m.body.isSome&&m.name == "runtime.NumGoroutine"))&&P.follows .mixedOrders
def Fit.of(h:ww P=true):Fit P:=by
 simp only[ww,cI]at h;refine⟨fun f Z Y C=>?_,h.2⟩;have m:=h.1;rw[tg]at m;have:=m Z (by exact Array.mem_of_getElem? Y);simpa [C]using this
section
variable {H:Type} {enc:TypeId × Value -> H} {P:Program}
def By{f:Func}{s:ChangeSpec}{apart S U Y:Bool}{W F:World}{o:Array Value}{ds C:List (DataW H)}{J pa pv:List MemPlace}
 (hW:DataW.Whole enc P f.params.toList s.vars apart W o.toList ds C J)
 (M:∀(b:Nat) (L:Nat->Bool) (hd:Bool),DataW.TrodAll enc P F b L hd f.resultTypes.toList (v.resultList f.resultTypes.size) (s.fn H (ds++C)).results [])
 (I:∀L:Nat->Bool,(∀p∈J,L p.block=true)->DataW.TrodAll enc P F 0 L true f.params.toList o.toList (s.fn H (ds++C)).args pa)
 (Z:∀L:Nat->Bool,(∀p∈J,L p.block=true)->DataW.TrodVars enc P F L s.vars (s.fn H (ds++C)).vars pv)
 (O:J=pa++pv) (hb:Below W.heap.size W F)
 (hok:∀(j:Nat) (t:TypeId) (r:Value),f.resultTypes[j]?=some t->(v.resultList f.resultTypes.size)[j]?=some r->Value.okWide P F .any 0 t r) :
 s.post enc P f apart S U Y W o v F:=by
 have m:∀p∈J,p.block<W.heap.size:=fun p hp=>hW.lt p hp;have V:∀p∈J,(fun b=>decide (b<W.heap.size)) p.block=true:=fun p hp=>by simpa using m p hp
 refine⟨ds,C,J,[],pa,pv,hW,M _ _ _,I _ V,Z _ V,World.keptBut_mono (fun p hp=>⟨hp,?_⟩) (hb.frame (·∈ J)),fun _=>?_⟩
 .rw[O,me]at hp;exact Or.inr hp
 .obtain⟨_,_,_,_,_,hz,hn⟩:=hW;refine⟨hok,_,_,([]++pa)++pv,⟨[]++pa,pv,trodAll_append (I _ (fun _ _=>rfl)) (M _ _ _),Z _ (fun _ _=>rfl),rfl,?_,?_⟩,?_⟩
  .intro b A hp;have hin:MemPlace.cell b A∈J:=by rw[O];simpa using hp
   rw[hb.frozen (m _ hin)];exact hz b A hin
  .intro ha;have:=hn ha;rw[O]at this;simpa using this
  .intro p hp _;rw[O];simpa using hp
end
open Go
def gw(ih ih':zad->Res):Prop:=∀t,ih t≠.aq->ih' t=ih t
section
variable {P:Program} {cfg:Cfg} {ih ih':zad -> Res}
def p9(h:gw ih ih'){f:FuncId}{op:Op}(S:b6 P cfg ih f E H op≠.aq):b6 P cfg ih' f E H op=b6 P cfg ih f E H op:=by
 unfold b6 at *;split
 .rename_i c;unfold iF at *;split
  .rename_i g L;simp only[L]at S;split
   .rename_i k F vs m o;simp only[m,o]at S;exact h _ S
   .rfl
  .rfl
  .rfl
 .rfl
theorem ow:eg P cfg ih f N Y (o::l) E H=match dJ Y E o with
 |true=>match b6 P cfg ih f E H o.op with
  | .val v H=>ez (eg P cfg ih f N Y l) H (cF N E o.dst v)
  |_=>.aq
 |false=>ez (eg P cfg ih f N Y l) H (cF N E o.dst b5):=rfl
theorem rb(h:gw ih ih'){f N:Nat}{Y:qj}:∀{l:qj}{E:ae}{H:Hp},eg P cfg ih f N Y l E H≠.aq->eg P cfg ih' f N Y l E H=eg P cfg ih f N Y l E H
 |[],_,_,_=>rfl
 |o::l,E,H,hn=>by
  rw[ow]at hn⊢;rw[ow];cases m:dJ Y E o with
  |true=>
   simp only[m]at hn⊢;cases J:b6 P cfg ih f E H o.op with
   |aq=>simp[J]at hn
   |done x E1 H1=>simp[J]at hn
   |val v H1=>
    rw[p9 h (by rw[J];simp),J];simp only[J]at hn⊢;cases hp:cF N E o.dst v with
    |none=>rfl
    |some E1=>
     rw[hp]at hn;exact rb h hn
  |false=>
   simp only[m]at hn⊢;cases hp:cF N E o.dst b5 with
   |none=>rfl
   |some E1=>
    rw[hp]at hn;exact rb h hn
theorem re(h:gw ih ih'){f N:Nat}{Y:qj}:∀{l:qj}{E:ae}{H:Hp},dK P cfg ih f N Y l E H≠.aq->dK P cfg ih' f N Y l E H=dK P cfg ih f N Y l E H
 |[],_,_,_=>rfl
 |o::l,E,H,hn=>by
  have Z:∀{r:Rec}{x:zah},gG r x≠.aq->x≠.aq:=fun{r x} U e=>U (by rw[e];rfl);simp only[dK]at hn⊢;cases m:dJ Y E o with
  |true=>
   simp only[m]at hn⊢;cases J:b6 P cfg ih f E H o.op with
   |aq=>simp[J]at hn
   |done x E1 H1=>simp[J]at hn
   |val v H1=>
    rw[p9 h (by rw[J];simp),J];simp only[J]at hn⊢;cases hp:cF N E o.dst v with
    |none=>rfl
    |some E1=>
     rw[hp]at hn;have:=re h (Z hn);simp only[gH,this]
  |false=>
   simp only[m]at hn⊢;cases hp:cF N E o.dst b5 with
   |none=>rfl
   |some E1=>
    rw[hp]at hn;have:=re h (Z hn);simp only[gH,this]
def wx(h:gw ih ih'){ops:qj}(S:fS P cfg ih f N ops E H≠.aq):fS P cfg ih' f N ops E H=fS P cfg ih f N ops E H:=by
 unfold fS at *;split
 .rename_i hc;simp only[hc]at S;cases hr:dK P cfg ih f N ops ops E H with
  |aq=>simp[hr]at S
  |done E1 H1 rs=>rw[re h nW,hr]
 .rfl
theorem Bz{ops:qj}{ao aC m o:Res}(Z:ao≠.aq->m=ao)(Y:aC≠.aq->o=aC)(S:kJ ops ao aC≠.aq):kJ ops m o=kJ ops ao aC:=by
 have W:ao≠.aq:=fun e=>S (by rw[e];rfl);have U:aC≠.aq:=fun e=>S (by rw[e];unfold kJ;split<;>simp_all);rw[Z W,Y U]
theorem tF(h:gw ih ih'){f N:Nat}{E:ae}{H:Hp}:∀{I:zae}{ops:qj},ey P cfg ih f N E H I ops≠.aq->ey P cfg ih' f N E H I ops=ey P cfg ih f N E H I ops
 | .text,ops,hn=>wx h hn
 | .b0 ord,ops,hn=>by
   simp only[ey]at *;split
   .rename_i hp;simp only[hp]at hn;exact wx h hn
   .rfl
 | .split p q a b,ops,hn=>by
   simp only[ey]at *;split
   .rfl
   .rename_i hp;simp only[hp]at hn;exact Bz (fun m=>tF h m) (fun o=>tF h o) hn
def tG(h:gw ih ih'){f:FuncId}{o:qh}(S:gI P ih f o H≠.aq):gI P ih' f o H=gI P ih f o H:=by
 unfold gI at *;split
 .rename_i m Z;simp only[Z]at S;split
  .rename_i c C;simp only[C]at S;cases hr:ih (.aj f (max m.ntmps o.length) c (ba 0 o (kK (max m.ntmps o.length))) H)with
   |aq=>simp[hr]at S
   |val v H1=>rw[h _ nW,hr]
   |done x E1 H1=>rw[h _ nW,hr]
  .rfl
 .rfl
def BA(h:gw ih ih'){f:FuncId}{o:qh}(S:hY P cfg ih f o H≠.aq):hY P cfg ih' f o H=hY P cfg ih f o H:=by
 unfold hY at *;split
 .rename_i I;simp only[I]at S;unfold pE at *;split
  .rename_i Z H' J;simp only[J]at S;split
   .rfl
   .rename_i m;simp only[m]at S;exact tG h S
  .rename_i J;simp only[J]at S;exact tG h S
 .rename_i I;simp only[I]at S;exact tG h S
theorem wy(h:gw ih ih'){r r':Res}(hr:r≠.aq->r'=r)(S:gJ ih f N b r≠.aq):gJ ih' f N b r'=gJ ih f N b r:=by
 cases r with
 |aq=>simp[gJ]at S
 |val v H1=>rw[hr aK];rfl
 |done x E1 H1=>
  rw[hr aK];cases x with
  |normal=>exact h _ S
  |exit id=>rfl
  |ret=>rfl
theorem BB(h:gw ih ih')(S:step P cfg ih t≠.aq):step P cfg ih' t=step P cfg ih t:=by
 cases t with
 |call f o H=>
  simp only[step]at *;split
  .rfl
  .rename_i hc;simp only[hc]at S;have C:hY P cfg ih f o H≠.aq:=fun e=>S (by rw[e];unfold nB;split<;>simp_all);rw[BA h C]
 |aj f N c E H=>
  cases c with
  |region id ops draw=>cases draw with
   |false=>exact rb h S
   |true=>exact tF h S
  |seq a b=>exact wy h (h _) S
  |loop a=>exact wy h (h _) S
  |cond x a b=>
   simp only[step]at *;unfold kL at *;split
   .rename_i hc;simp only[hc]at S;exact h _ S
   .rename_i hc;simp only[hc]at S;exact h _ S
   .rfl
  |block id a=>
   simp only[step]at *;cases hr:ih (.aj f N a E H)with
   |aq=>simp[hr,gl]at S
   |val v H1=>rw[h _ nW,hr]
   |done x E1 H1=>rw[h _ nW,hr]
  |_=>rfl
theorem wz:∀n,gw (bP P cfg n) (bP P cfg (n+1))
 |0=>fun _ S=>(S rfl).elim
 |n+1=>fun _ S=>BB (wz n) S
def tH(W:n<=m)(S:bP P cfg n t≠.aq):bP P cfg m t=bP P cfg n t:=by
 induction m with
 |zero=>rw[show n=0 by omega]
 |succ m ih=>
  by_cases h:n=m+1
  .rw[h]
  .have:=ih aa;rw[wz m t (by rw[this];exact S),this]
def rg(W:n<=m){r:Res}(h:bP P cfg n t=r)(hr:r≠.aq):bP P cfg m t=r:=by
 rw[tH W (by rw[h];exact hr),h]
def bF(P:Program)(cfg:Cfg)(t:zad)(r:Res):Prop:=r≠.aq/\∃n,bP P cfg n t=r
def bF.step{r:Res}(hr:r≠.aq)(h:Ab.step P cfg (bP P cfg n) t=r):bF P cfg t r:=⟨hr,n+1,h⟩
def eS:=@bF.step
section
variable {f N id:Nat} {a b:Code} {x:Operand} {E E1:ae} {H H1:Hp} {r:Res} {ex:AX}
def bF.seq(Z:bF P cfg (.aj f N a E H) (.done .normal E1 H1))(o:bF P cfg (.aj f N b E1 H1) r):bF P cfg (.aj f N (.seq a b) E H) r:=by
 obtain⟨_,n,Z⟩:=Z;obtain⟨hr,m,o⟩:=o;refine eS hr (n:=max n m) ?_;show gJ (bP P cfg (max n m)) f N b (bP P cfg (max n m) (.aj f N a E H))=r;rw[rg (pX n m) Z aK];exact rg (pY n m) o hr
theorem wA(m:bF P cfg (.aj f N a E H) (.done ex E1 H1))(U:ex≠.normal):bF P cfg (.aj f N (.seq a b) E H) (.done ex E1 H1):=by
 obtain⟨hr,n,m⟩:=m;refine eS hr (n:=n) ?_;show gJ (bP P cfg n) f N b (bP P cfg n (.aj f N a E H))=_;rw[m];cases ex with
 |normal=>exact(U rfl).elim
 |exit id=>rfl
 |ret=>rfl
def bF.loop(Z:bF P cfg (.aj f N a E H) (.done .normal E1 H1))(o:bF P cfg (.aj f N (.loop a) E1 H1) r):bF P cfg (.aj f N (.loop a) E H) r:=by
 obtain⟨_,n,Z⟩:=Z;obtain⟨hr,m,o⟩:=o;refine eS hr (n:=max n m) ?_;show gJ (bP P cfg (max n m)) f N (.loop a) (bP P cfg (max n m) (.aj f N a E H))=r;rw[rg (pX n m) Z aK];exact rg (pY n m) o hr
theorem wB(m:bF P cfg (.aj f N a E H) (.done ex E1 H1))(U:ex≠.normal):bF P cfg (.aj f N (.loop a) E H) (.done ex E1 H1):=by
 obtain⟨hr,n,m⟩:=m;refine eS hr (n:=n) ?_;show gJ (bP P cfg n) f N (.loop a) (bP P cfg n (.aj f N a E H))=_;rw[m];cases ex with
 |normal=>exact(U rfl).elim
 |exit id=>rfl
 |ret=>rfl
def BC(U:ay E x=some (.bool true))(h:bF P cfg (.aj f N a E H) r):bF P cfg (.aj f N (.cond x a b) E H) r:=by
 obtain⟨hr,n,h⟩:=h;refine eS hr (n:=n) ?_;show kL (bP P cfg n) f N x a b E H=r;unfold kL;rw[U];exact h
def BD(U:ay E x=some (.bool false))(h:bF P cfg (.aj f N b E H) r):bF P cfg (.aj f N (.cond x a b) E H) r:=by
 obtain⟨hr,n,h⟩:=h;refine eS hr (n:=n) ?_;show kL (bP P cfg n) f N x a b E H=r;unfold kL;rw[U];exact h
def bF.block(h:bF P cfg (.aj f N a E H) (.done (.exit id) E1 H1)):bF P cfg (.aj f N (.block id a) E H) (.done .normal E1 H1):=by
 obtain⟨hr,n,h⟩:=h;refine eS aK (n:=n) ?_;show gl id (bP P cfg n (.aj f N a E H))=_;rw[h];simp[gl]
theorem BE(h:bF P cfg (.aj f N a E H) (.done .normal E1 H1)):bF P cfg (.aj f N (.block id a) E H) (.done .normal E1 H1):=by
 obtain⟨hr,n,h⟩:=h;refine eS aK (n:=n) ?_;show gl id (bP P cfg n (.aj f N a E H))=_;rw[h];rfl
theorem BF(h:bF P cfg (.aj f N a E H) (.done .ret E1 H1)):bF P cfg (.aj f N (.block id a) E H) (.done .ret E1 H1):=by
 obtain⟨hr,n,h⟩:=h;refine eS aK (n:=n) ?_;show gl id (bP P cfg n (.aj f N a E H))=_;rw[h];rfl
def BG{Z:Nat}(O:Nat.beq Z id=false)(h:bF P cfg (.aj f N a E H) (.done (.exit Z) E1 H1)):bF P cfg (.aj f N (.block id a) E H) (.done (.exit Z) E1 H1):=by
 obtain⟨hr,n,h⟩:=h;refine eS aK (n:=n) ?_;show gl id (bP P cfg n (.aj f N a E H))=_;rw[h];simp only[gl,O]
theorem bF.skip:bF P cfg (.aj f N .skip E H) (.done .normal E H):=eS aK (n:=0) rfl
theorem bF.exit:bF P cfg (.aj f N (.exit id) E H) (.done (.exit id) E H):=eS aK (n:=0) rfl
theorem bF.ret:bF P cfg (.aj f N .ret E H) (.done .ret E H):=eS aK (n:=0) rfl
def bF.region(h:eg P cfg (bP P cfg n) f N ops.toList ops.toList E H=r)(hr:r≠.aq):bF P cfg (.aj f N (.region id ops false) E H) r:=eS hr (n:=n) h
def bF.bl(h:ey P cfg (bP P cfg n) f N E H (cfg.bS f id) ops.toList=r)(hr:r≠.aq):bF P cfg (.aj f N (.region id ops true) E H) r:=eS hr (n:=n) h
def bF.call{o:qh}{m:Func}{v:AV}(A:cfg.call f o=none)(I:cfg.aB f=false)(C:cfg.an f=false)(Z:P.funcs[f]?=some m)(Y:m.body=some c)
 (h:bF P cfg (.aj f (max m.ntmps o.length) c (ba 0 o (kK (max m.ntmps o.length))) H) (.done ex E1 H1)) (U:ex=.normal\/ex=.ret) (M:lX P m.results.toList E1 H1=.val v H1):bF P cfg (.call f o H) (.val v H1):=by
 obtain⟨_,n,h⟩:=h;refine eS aK (n:=n) ?_;simp only[Ab.step,A,I,C,hY,nB];unfold gI;simp only[Z,Y,h];rcases U with rfl|rfl<;>exact M
end
end
noncomputable section
open Go
def ov(L:qu)(d:Nat->AV):Nat->AV:=
 List.rec (motive:=fun _=>Nat->AV) d (fun p _ Y k=>et (Nat.beq p.1 k) p.2 (Y k)) L
end
end Go.Ab
