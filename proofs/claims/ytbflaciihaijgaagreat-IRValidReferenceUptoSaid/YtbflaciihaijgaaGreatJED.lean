/- Lemmas for the last file. -/
import Derived.Below
import Derived.ChangeSame
import Derived.Orders
import Derived.Test.YtbflaciihaijgaaGreatJEC
set_option linter.all false
set_option maxHeartbeats 32000000
namespace Go.Ab
set_option maxRecDepth 20000
open Go
variable{qf:Prop}
def jf(h:qf:=by simpa using h):=h
def nQ(h:qf:=by rw[e]):=h
def mS(h:qf:=by simp at h):=h
def MD(h:qf:=by rw[L.size];exact(List.getElem?_eq_some_iff.1 O).1):=h
def ME(h:qf:=by rw[hs];have:=(List.getElem?_eq_some_iff.1 O).1;simpa using this):=h
def AH(h:qf:=by rw[List.length_drop];omega):=h
def w7(h:qf:=by rw[O];simp):=h
def AI(h:qf:=by rw[hr];simp):=h
def gE:=@List.mem_cons
def nR:=@List.mem_append
def Ih:=@List.mem_flatMap
def lF:=@List.mem_range
def lX:=@Bool.not_true
def il:=@Bool.false_or
def yI:=@List.mem_filter
def sg:=@Array.getElem?_eq_getElem
def lH:=@Bool.not_eq_true'
def Ii:=@Array.all_eq_true_iff_forall_mem
def rx:=@Bool.or_eq_true
def mT:=@List.mem_map
def AJ:=@Nat.lt_or_ge
def Ij:=@Array.getElem?_eq_none
def uk:=@List.any_eq_false
def Dy:=@Nat.lt_trichotomy
def AK:=@List.eq_nil_iff_forall_not_mem
def gV:=@List.getElem?_eq_none
def MF:=@Array.getElem?_replicate
def Ik:=@List.singleton_append
def mU:=@Bool.true_or
def ei:=@List.mem_cons_self
def ev:=@List.mem_cons_of_mem
def tg:=@List.map_append
def Il:=@List.mem_iff_getElem?
def vm:=@List.map_map
def vn:=@Bool.and_self
def AL:=@Nat.one_mul
def jy:=@true_and
def Dz:=@Nat.le_max_left
def DA:=@Nat.le_max_right
end Go.Ab
namespace Go.Ab
set_option maxRecDepth 20000
open Go Go.RowKit
variable{i f N n m q p k:Nat}{l Y:qA}{j Z y:qJ}{o:Oper}{D:Nat->Prop}{ops:qN}{ih:zd3->Res}{E0 E' E U:ax}{H' H:Hp}{rs:List Rec}{G G0:Gh}{a:Act}{t:zd3}{O:qt}{w w' w0:World}{Q:Exit->Act->World->Prop}{x:AX}{P:Program}{L:qD}{v:AV}{V g r:Res}{vs:qF}{z:Func}{b c:Code}{cfg:Cfg}
theorem Im{i:Nat}:∀{l U:qD},i∈yq U l↔i∈U\/i∈l
 |[],U=>by simp[yq]
 |x::xs,U=>by
  simp only[yq];split
  .rename_i h;have z:x∈U:=jf;rw[Im,gE];exact⟨fun h=>h.elim .inl (fun h=>.inr (.inr h)),fun h=>h.elim .inl (fun h=>h.elim (fun e=>.inl (by subst e;exact z)) .inr)⟩
  .rw[Im,gE,gE];exact⟨fun h=>h.elim (fun h=>h.elim (fun e=>.inr (.inl e)) .inl) (fun h=>.inr (.inr h)),fun h=>h.elim (fun h=>.inl (.inr h)) (fun h=>h.elim (fun e=>.inl (.inl e)) .inr)⟩
def XC{l:qD}:i∈Ak l↔i∈l:=by unfold Ak;rw[Im];simp
theorem In:∀(l:qA) (U:List qD) (i:Nat),i<U.length->(jq l U).getD i []=U.getD i []
 |[],U,i,_=>rfl
 |o::l,U,i,h=>by
  simp only[jq];rw[In l _ i bW];simp[List.getD,je h]
theorem MG:∀(l:qA) (U:List qD) (j:Nat) (o:Oper),l[j]?=some o ->
 ∃I:List qD,I.length=U.length+j/\(∀i,i<I.length->(jq l U).getD i []=I.getD i [])/\(jq l U).getD (U.length+j) []=Ak (preds o++(preds o).flatMap fun i=>I.getD i [])
 |[],_,_,_,h=>by simp at h
 |o::l,U,0,o',h=>by
  simp at h;subst h;refine⟨U,rfl,fun i C=>In _ _ i C,?_⟩;simp only[jq,ve];rw[In l _ U.length au];simp[List.getD]
 |o::l,U,j+1,o',h=>by
  obtain⟨I,Z,g,m⟩:=MG l (U++[Ak (preds o++(preds o).flatMap fun i=>U.getD i [])]) j o' jf;simp only[fB,oF]at Z m;refine⟨I,ac,g,?_⟩;simp only[jq];rw[show U.length+(j+1)=U.length+(0+1)+j by omega];exact m
def XD{j:Nat}(O:l[j]?=some o)(U:∀p∈preds o,p<j):
 i∈(jq l []).getD j []↔i∈preds o\/∃p∈preds o,i∈(jq l []).getD p []:=by
 obtain⟨I,Y,g,m⟩:=MG l [] j o O;simp only[ik,bK]at Y m;rw[m,XC,nR,Ih];constructor
 .rintro(h|⟨p,Z,V⟩)
  .exact .inl h
  .exact .inr ⟨p,Z,by rw[g p (by rw[Y];exact U p Z)];exact V⟩
 .rintro(h|⟨p,Z,V⟩)
  .exact .inl h
  .exact .inr ⟨p,Z,by rw[<-g p (by rw[Y];exact U p Z)];exact V⟩
structure zlh (l:qA):Prop where
 lt:∀j o,l[j]?=some o->∀p∈preds o,p<j
 guard:∀j o g b,l[j]?=some o->o.guard=some (g,b)->g∈(jq l []).getD j []
 clash:∀i j p q,i<j->l[i]?=some p->l[j]?=some q->Ab.clash l p q=true->i∈(jq l []).getD j []
def XE(h:sW l=true):zlh l:=by
 unfold sW at h;simp only[gM,lF]at h;have Y:∀j o,l[j]?=some o->(∀p∈preds o,p<j)/\(∀g b,o.guard=some (g,b)->g∈(jq l []).getD j [])/\∀i p,i<j->l[i]?=some p->Ab.clash l p o=true->i∈(jq l []).getD j []:=fun j o O=>by
  have:=h j (fH.1 O).1;rw[O]at this;simp only[cj,gM,kA,lF]at this;obtain⟨⟨M,V⟩,m⟩:=this;refine⟨M,fun g b hg=>?_,fun i p C hp hc=>?_⟩
  .rw[hg]at V;simpa using V
  .have:=m i C;rw[hp]at this;simp only[hc,lX,il]at this;simpa using this
 exact⟨fun j o O=>(Y j o O).1,fun j o g b O=>(Y j o O).2.1 g b,fun i j p q Z C U=>(Y j q U).2.2 i p Z C⟩
def Io(g:zlh l)(U:∀j,D j->∀o,l[j]?=some o->∀p∈preds o,D p):
 ∀(j:Nat) o,l[j]?=some o->(∀p∈preds o,D p)->∀i∈(jq l []).getD j [],D i:=by
 intro j;induction j using Nat.strongRecOn with
 |_ j ih=>
  intro o O hp i C;rcases(XD O (g.lt j o O)).1 C with h|⟨p,Z,V⟩
  .exact hp i h
  .have Y:=g.lt j o O p Z;have J:=(fH.1 O).1;have I:l[p]?=some (l[p]' ac):=aL ac;exact ih p Y _ I (fun q L=>U p (hp p Z) _ I q L) i V
def ry:i∈kQ l↔∃o,l[i]?=some o/\oA o=true:=by
 unfold kQ;rw[yI,lF];constructor
 .rintro⟨Z,g⟩;rw[aL Z]at g;exact⟨_,aL Z,g⟩
 .rintro⟨o,Z,g⟩;exact⟨(fH.1 Z).1,by rw[Z];exact g⟩
def mV:i∈Region.ready .any ops j↔∃o,ops.toList[i]?=some o/\j.getD i true=false/\∀p∈preds o,j.getD p false=true:=by
 unfold Region.ready preds;rw[yI,lF,wZ];constructor
 .rintro⟨Z,g⟩;rw[sg Z]at g;simp only[cj,lH,rq,bz,Ii,rx]at g;refine⟨_,sg Z,g.1,fun p hp=>?_⟩;simp only[mT,yI]at hp;obtain⟨e,⟨M,J⟩,rfl⟩:=hp;rcases g.2 e (by simpa using M)with h|h
  .rw[J]at h;simp at h
  .exact h
 .rintro⟨o,Z,g,m⟩;have C:i<ops.size:=by
   rcases AJ i ops.size with h|h
   .exact h
   .rw[Ij h]at Z;simp at Z
  refine⟨C,?_⟩;rw[Z];simp only[cj,lH,rq,bz,Ii,rx];refine⟨g,fun e Y=>?_⟩;cases hb:Region.binds .any e with
  |false=>exact .inl rfl
  |true=>exact .inr (m e.on (by simp only[mT,yI];exact⟨e,⟨sX,hb⟩,rfl⟩))
theorem Ip{l:qA}:∀(k s:Nat),s+k=l.length->∃m,s<=m/\m<=l.length/\(m=l.length\/m∈kQ l)/\∀j,s<=j->j<m->j∉kQ l
 |0,s,hs=>⟨s,aH _,ac,.inl ac,fun j Z g=>ac⟩
 |k+1,s,hs=>by
  by_cases h:s∈kQ l
  .exact⟨s,aH _,ac,.inr h,fun j Z g=>ac⟩
  .obtain⟨m,Z,g,Y,U⟩:=Ip (l:=l) k (s+1) ac;refine⟨m,ac,g,Y,fun j V i=>?_⟩;by_cases e:j=s
   .subst e;exact h
   .exact U j ac i
section
variable {P:Program} {B:Bs} {cfg:Cfg}
structure Ctx (P:Program) (cfg:Cfg) (ih:zd3->Res) (f N:Nat) (l:qA) (E0:ax) (bM:Hp) (E':ax) (H':Hp) (rs:List Rec):Prop where
 b3:zlh l
 len:rs.length=l.length
 dj:∀(i:Nat) (r:Rec),rs[i]?=some r->∃o,l[i]?=some o/\AtD P cfg ih f N l o r (iK rs E' i) (iK rs E' (i+1)) (cO rs H' i) (cO rs H' (i+1))
 zeroE:iK rs E' 0=E0
 dQ:cO rs H' 0=bM
 next:∀i,i<l.length->(cO rs H' i).next<=(cO rs H' (i+1)).next
 bR:∀(i:Nat) (r:Rec),rs[i]?=some r->r.did=true->∀m,(m∈kQ l\/m=l.length)->(∀e∈kQ l,e∈(jq l []).getD i []->e<m)->(∀e∈kQ l,i∈(jq l []).getD e []->m<=e) ->
  zeo P cfg r (cO rs H' m)=true
def XF{bM:Hp}(hc:sW l=true)(hr:kO P cfg ih f N l l E0 bM=.done E' H' rs)(I:wO P cfg (rj l) rs H'=true):
 Ctx P cfg ih f N l E0 bM E' H' rs:=by
 have M:=AG hr;obtain⟨z1,z2⟩:=Ie M;have V:=Ic M;unfold wO at I;simp only[cj,gM]at I;refine⟨XE hc,V,fun i r C=>w5 M C,z1,z2,fun i C=>?_,fun i r C hd m hm h1 h2=>?_⟩
 .have hi':i<rs.length:=by omega
  have O:=aL hi';obtain⟨o,_,z⟩:=w5 M O;have h3:=AB (I.1 _ (jM O));rw[z.eH,z.eH']at h3;exact h3
 .obtain⟨o,ho,z⟩:=w5 M C;have Z:C2 (jq l []) (kQ l) i m=true:=by
   unfold C2;simp only[lH,kU,uk,cj,not_and];refine⟨fun e g hA hle=>?_,fun e g hA hlt=>?_⟩
   .have:=h1 e g (by simpa using hA);have:=AB hle;omega
   .have:=h2 e g (by simpa using hA);have:e<m:=by simpa [jK]using hlt
    omega
  have U:∀k,iS o.op=k->(k=.read\/k=.make)->(i,m)∈rj l:=fun k Y hor=>by
   unfold rj;rw[Ih];refine⟨i,lF.2 (fH.1 ho).1,?_⟩;rw[ho];have L:(i,m)∈((kQ l++[l.length]).filter (C2 (jq l []) (kQ l) i)).map fun m=>(i,m):=
    mT.2 ⟨m,yI.2 ⟨by simpa using hm,Z⟩,rfl⟩
   rcases hor with rfl|rfl<;>simp only[Y]<;>exact L
  have j:(i,m)∈rj l->zeo P cfg r (cO rs H' m)=true:=fun h=>by
   have:=I.2 _ h;simp only[C,hd,lX,il]at this;exact this
  have J:r.o=o:=z.eo;cases Y:iS o.op with
  |read=>exact j (U _ Y (.inl rfl))
  |make=>exact j (U _ Y (.inr rfl))
  |b3=>unfold zeo;rw[J,Y]
  |cU=>unfold zeo;rw[J,Y]
section
variable {ih:zd3 -> Res} {f N:Nat} {ops:qN} {E0 E':ax} {bM H':Hp} {rs:List Rec} (cx:Ctx P cfg ih f N ops.toList E0 bM E' H' rs)
include cx
def Ctx.cq(O:ops.toList[i]?=some o):∃r,rs[i]?=some r/\AtD P cfg ih f N ops.toList o r (iK rs E' i) (iK rs E' (i+1)) (cO rs H' i) (cO rs H' (i+1)):=by
 have C:i<rs.length:=by rw[cx.len];exact(fH.1 O).1
 obtain⟨j,Z,g⟩:=cx.dj i _ (aL C);rw[O]at Z;simp only[aI]at Z;subst Z;exact⟨_,aL C,g⟩
theorem Ctx.eG:∀(d s:Nat),s+d<=ops.toList.length->(∀j,s<=j->j<s+d->j∉kQ ops.toList) ->
 (cO rs H' s).next<=(cO rs H' (s+d)).next/\∀r,r<(cO rs H' s).next->(cO rs H' (s+d)).get r=(cO rs H' s).get r
 |0,s,_,_=>⟨aH _,fun _ _=>rfl⟩
 |d+1,s,hs,hn=>by
  obtain⟨J,g⟩:=Ctx.eG d s ac (fun j O i=>hn j O ac);have Y:s+d<ops.toList.length:=ac;obtain⟨r,hr,z⟩:=cx.cq (aL Y);have U:oA (ops.toList[s+d])=false:=by
   cases V:oA (ops.toList[s+d])with
   |false=>rfl
   |true=>exact(hn (s+d) ac ac (ry.2 ⟨_,aL Y,V⟩)).elim
  have L:cO rs H' (s+d+1)=cO rs H' (s+d)\/∃Z,cO rs H' (s+d+1)=(cO rs H' (s+d)).alloc Z:=by
   cases hd:r.did with
   |true=>exact XB U (z.dR hd)
   |false=>exact .inl (z.no hd).2
  rw[show s+(d+1)=s+d+1 by omega];rcases L with e|⟨Z,e⟩
  .rw[e];exact⟨J,g⟩
  .rw[e];refine⟨bW,fun k M=>?_⟩;rw[aD,af ac];exact g k M
theorem Ctx.bB:∀(d s:Nat),s+d<=ops.toList.length->(cO rs H' s).next<=(cO rs H' (s+d)).next
 |0,_,_=>aH _
 |d+1,s,hs=>dz (Ctx.bB d s ac) (by rw[show s+(d+1)=s+d+1 by omega];exact cx.next _ ac)
theorem Ctx.da(t:Nat):∀s,s<=ops.toList.length ->
 (∃(i:Nat) (r:Rec) (o:Oper),i<s/\rs[i]?=some r/\ops.toList[i]?=some o/\o.dst=some t/\(∀(j:Nat) (Z:Oper),j<s->ops.toList[j]?=some Z->Z.dst=some t->j<=i)/\(iK rs E' s).at t=r.val) \/
 ((∀(j:Nat) (Z:Oper),j<s->ops.toList[j]?=some Z->Z.dst≠some t)/\(iK rs E' s).at t=E0.at t)
 |0,_=>.inr ⟨fun j Z J=>ac,by rw[cx.zeroE]⟩
 |s+1,hs=>by
  have L:ops.toList[s]?=some (ops.toList[s]' ac):=aL ac;obtain⟨r,hr,z⟩:=cx.cq L;have m:=z.put;have V:=Ctx.da t s ac;by_cases hd:(ops.toList[s]' ac).dst=some t
  .refine .inl ⟨s,r,_,ac,hr,L,hd,fun j Z J _ _=>ac,?_⟩;rw[hd]at m;simp only[gB]at m;split at m
   .simp only[aI]at m;rw[<-m,yB,ah rfl]
   .simp at m
  .have U:(iK rs E' (s+1)).at t=(iK rs E' s).at t:=by
    cases O:(ops.toList[s]' ac).dst with
    |none=>
     rw[O]at m;simp only[gB,aI]at m;rw[<-m]
    |some d=>
     rw[O]at m hd;simp only[gB]at m;split at m
     .simp only[aI]at m;rw[<-m,yB,af (fun e=>hd nQ)]
     .simp at m
   rw[U];rcases V with⟨i,r',Z,C,g,h3,h4,h5,h6⟩|⟨C,g⟩
   .refine .inl ⟨i,r',Z,ac,g,h3,h4,fun j I J Y M=>?_,h6⟩;by_cases e:j=s
    .subst e;rw[L]at Y;simp only[aI]at Y;subst Y;exact(hd M).elim
    .exact h5 j I ac Y M
   .refine .inr ⟨fun j Z J Y=>?_,g⟩;by_cases e:j=s
    .subst e;rw[L]at Y;simp only[aI]at Y;subst Y;exact hd
    .exact C j Z ac Y
end
def iB(Z:qJ)(j:Nat):Prop:=Z.getD j false=true
def yJ(rs:List Rec)(l:qA)(Y:ax)(D:Nat->Prop)(G:Gh)(a:Act):Prop:=∀t,
 (∃(i:Nat) (r:Rec) (o:Oper),D i/\rs[i]?=some r/\l[i]?=some o/\o.dst=some t/\(∀(j:Nat) (Z:Oper),D j->l[j]?=some Z->Z.dst=some t->j<=i)/\VR G r.val (a.tmps.getD t undef)) \/
 ((∀(j:Nat) (Z:Oper),D j->l[j]?=some Z->Z.dst≠some t)/\VR G (Y.at t) (a.tmps.getD t undef))
def yJ.du{bM:Hp}(cx:Ctx P cfg ih f N ops.toList E0 bM E' H' rs)(hs:yJ rs ops.toList E0 D G a){t s:Nat}
 (J:s<=ops.toList.length) (Z:∀(j:Nat) (o:Oper),ops.toList[j]?=some o->o.dst=some t->(D j↔j<s)):VR G ((iK rs E' s).at t) (a.tmps.getD t undef):=by
 rcases cx.da t s J with⟨i,r,o,M,g,C,z,h5,h6⟩|⟨M,g⟩
 .rw[h6];have m:=(Z i o C z).2 M;rcases hs t with⟨Y,r',U,L,V,O,I,g5,g6⟩|⟨L,_⟩
  .have e1:=h5 Y U ((Z Y U O I).1 L) O I;have e2:=g5 i o m C z;have:Y=i:=ac;subst this;rw[g]at V;simp only[aI]at V;subst V;exact g6
  .exact(L i o m C z).elim
 .rw[g];rcases hs t with⟨Y,r',U,L,V,O,I,g5,g6⟩|⟨_,V⟩
  .exact(M Y U ((Z Y U O I).1 L) O I).elim
  .exact V
structure InvD (rs:List Rec) (l:qA) (N:Nat) (B:Bs) (nx0:Nat) (E0:ax) (H':Hp) (G0:Gh) (w0:World) (listed:qJ) (a:Act) (w:World) (m:Nat) (G:Gh):Prop where
 size:listed.size=l.length
 b2:∀j,iB listed j->∀o,l[j]?=some o->∀p∈preds o,iB listed p
 le:m<=l.length
 cU:m=l.length\/m∈kQ l
 bZ:¬iB listed m
 dx:∀e∈kQ l,e<m->iB listed e
 step:Step B nx0 G0 w0 (cO rs H' m) w G
 bY:∀r p,G.β r=some p->r<nx0\/∃j,iB listed j/\j<l.length/\(cO rs H' j).next<=r/\r<(cO rs H' (j+1)).next
 bG:yJ rs l E0 (iB listed) G a
 frame:a.tmps.size=N
 defers:a.defers=[]
def iB.set(C:i<Z.size)(j:Nat):iB (Z.setIfInBounds i true) j↔j=i\/iB Z j:=by
 unfold iB;rw[kS,kS,yy];by_cases e:i=j
 .subst e;simp[C]
 .rw[af e];constructor
  .exact fun h=>.inr h
  .rintro(h|h)
   .exact(e h.symm).elim
   .exact h
def nT:=@iB.set
theorem yJ.put{rs:List Rec}{l:qA}{E0:ax}{Z:qJ}{G I:Gh}{a:Act}(hs:yJ rs l E0 (iB Z) G a)(he:Ext G I){i:Nat}(C:i<Z.size){o:Oper}(z:l[i]?=some o){r:Rec}(hr:rs[i]?=some r)
 {v:Value} (hv:VR I r.val v) (hd:∀d,o.dst=some d->d<a.tmps.size/\∀(j:Nat) (O:Oper),iB Z j->l[j]?=some O->O.dst=some d->j<=i):yJ rs l E0 (iB (Z.setIfInBounds i true)) I (a.put o.dst v):=by
 intro t;by_cases J:o.dst=some t
 .obtain⟨h1,h2⟩:=hd t J;refine .inl ⟨i,r,o,(nT C i).2 (.inl rfl),hr,z,J,fun j O U Y V=>?_,?_⟩
  .rcases(nT C j).1 U with e|U
   .omega
   .exact h2 j O U Y V
  .rw[J];simp only[Act.put];simpa [Array.getD,h1]using hv
 .have M:(a.put o.dst v).tmps.getD t undef=a.tmps.getD t undef:=by
   cases L:o.dst with
   |none=>rfl
   |some d=>
    rw[L]at J;have hne:d≠t:=fun e=>J nQ;simp only[Act.put,kS,yy];rw[af hne]
  rw[M];rcases hs t with⟨i',r',O,g,g2,g3,g4,g5,g6⟩|⟨g,g2⟩
  .refine .inl ⟨i',r',O,(nT C i').2 (.inr g),g2,g3,g4,fun j m U Y V=>?_,g6.mono he⟩;rcases(nT C j).1 U with e|U
   .subst e;rw[z]at Y;simp only[aI]at Y;subst Y;exact(J V).elim
   .exact g5 j m U Y V
  .refine .inr ⟨fun j O U Y V=>?_,g2.mono he⟩;rcases(nT C j).1 U with e|U
   .subst e;rw[z]at Y;simp only[aI]at Y;subst Y;exact(J V).elim
   .exact g j O U Y V
def Iq{t:Nat}:t∈u7 Y o↔o.dst=some t\/(Operand.tmp t)∈o.op.operands.toList\/∃g b j,o.guard=some (g,b)/\Y[g]?=some j/\j.dst=some t:=by
 unfold u7 L2;simp only[nR,Option.mem_toList,List.mem_filterMap];constructor
 .rintro((h|⟨x,z,h⟩)|h)
  .exact .inl h
  .cases x<;>simp at h;subst h;exact .inr (.inl z)
  .cases hg:o.guard with
   |none=>rw[hg]at h;simp at h
   |some p=>
    obtain⟨g,b⟩:=p;rw[hg]at h;simp only[Option.mem_toList,js]at h;obtain⟨j,i,Z⟩:=h;exact .inr (.inr ⟨g,b,j,rfl,i,Z⟩)
 .rintro(h|h|⟨g,b,j,i,Z,m⟩)
  .exact .inl (.inl h)
  .exact .inl (.inr ⟨_,h,rfl⟩)
  .refine .inr ?_;rw[i];simp[Z,m]
def MH{p q:Oper}{d:Nat}(h:(p.dst=some d/\d∈u7 Y q)\/(q.dst=some d/\d∈u7 Y p)):Ab.clash Y p q=true:=by
 unfold Ab.clash;rcases h with⟨i,g⟩|⟨i,g⟩
 .rw[i];simp[g]
 .rw[i];simp[g]
def Step.cV{O:Nat}{I:Hp}{Y Z:Gh}{j:World}(h:Step B O G w H' w' Y)(k:Step B O Y w' I j Z):Step B O G w I j Z:=
 ⟨k.r,h.ext.trans k.ext,h.fr.trans k.fr h.new,h.new.trans k.new h.fr.size,fun r p hr=>by
  rcases k.bY r p hr with i|i
  .exact h.bY r p i
  .exact .inr i,k.mono,fun b o v V=>by
  rcases k.ch b o v V with i|i
  .exact h.ch b o v i
  .exact .inr i⟩
def Step.co{O z:Nat}{Y:Gh}(h:Step B O G w H' w' Y)(I:z<=O):Step B z G w H' w' Y:=
 ⟨h.r,h.ext,h.fr,h.new,fun r p hr=>(h.bY r p hr).imp id (fun e=>dz I e),dz I h.mono,h.ch⟩
def Snd.aQ(P:Program)(B:Bs):Snd P B 0 (fun _=>.aQ):=
 ⟨fun _ _ _ _ _ h=>mS,fun _ _ _ _ _ _ _ _ h=>mS,fun _ _ _ _ _ _ _ _ h=>mS⟩
def XG(fit:Fit P)(hih:Snd P B n ih){nx0:Nat}{bM:Hp}(cx:Ctx P B.bX ih f N ops.toList E0 bM E' H' rs)(hnx:bM.next=nx0)
 {Y:qJ} (L:InvD rs ops.toList N B nx0 E0 H' G0 w0 Y a w m G)  (hi:i∈Region.ready .any ops Y) {K:Act->World->Prop}
 (hK:∀a' w' m' G',InvD rs ops.toList N B nx0 E0 H' G0 w0 (Y.setIfInBounds i true) a' w' m' G'->K a' w'):wpOp P ops Q i K a w:=by
 obtain⟨o,ho,hun,hpr⟩:=mV.1 hi;obtain⟨r,hr,ha⟩:=cx.cq ho;have hil:i<ops.toList.length:=(fH.1 ho).1;have U:i<Y.size:=by rw[L.size];exact hil
 have hnot:¬iB Y i:=fun hd=>by
  unfold iB at hd;rw[kS,sg U]at hd;rw[kS,sg U]at hun;simp only[bz]at hd hun;rw[hd]at hun;simp at hun
 -- what comes before i is done;what comes behind it is not
 have I:∀j∈(jq ops.toList []).getD i [],iB Y j:=Io cx.b3 L.b2 i o ho hpr;have hbehind:∀j,iB Y j->∀oj,ops.toList[j]?=some oj->i∉(jq ops.toList []).getD j []:=fun j hj oj hoj hm=>
  hnot (Io cx.b3 L.b2 j oj hoj (L.b2 j hj oj hoj) i hm)
 -- the writers of the slots that i names
 have hagree:∀t∈u7 ops.toList o,∀(j:Nat) (oj:Oper),ops.toList[j]?=some oj->oj.dst=some t->(iB Y j↔j<i):=fun t ht j oj hoj hjd=>by
  constructor
  .intro hj;rcases Dy j i with h|h|h
   .exact h
   .subst h;exact(hnot hj).elim
   .exact(hbehind j hj oj hoj (cx.b3.clash i j o oj h ho hoj (MH (.inr ⟨hjd,ht⟩)))).elim
  .intro hj;exact I j (cx.b3.clash j i oj o hj hoj ho (MH (.inl ⟨hjd,ht⟩)))
 have hslot:∀t∈u7 ops.toList o,VR G ((iK rs E' i).at t) (a.tmps.getD t undef):=fun t ht=>L.bG.du cx (Nat.le_of_lt hil) (hagree t ht);have C:w1 G (iK rs E' i) a o.op.operands:=fun x hx c hc=>by
  cases x with
  |tmp t=>simp only[aS,aI]at hc;subst hc;exact hslot t (Iq.2 (.inr (.inl (by simpa using hx))))
  |const v=>exact yC hc
  |global g=>simp[aS]at hc
  |func f=>simp only[aS,aI]at hc;subst hc;exact .bm (vs:=[]) rfl au
 have hwant:=MA (G:=G) (E:=iK rs E' i) (a:=a) (ops:=ops) (o:=o) (fun g b d hg hd=>by
  simp only[js]at hd;obtain⟨o',h1,h2⟩:=hd;exact hslot d (Iq.2 (.inr (.inr ⟨g,b,o',hg,by rw[wZ];exact h1,h2⟩))))
 have hdst:∀d,o.dst=some d->d<a.tmps.size/\∀(j:Nat) (o':Oper),iB Y j->ops.toList[j]?=some o'->o'.dst=some d->j<=i:=fun d hd=>by
  refine⟨?_,fun j o' hj hjo hjd=>Nat.le_of_lt ((hagree d (Iq.2 (.inl hd)) j o' hjo hjd).1 hj)⟩;have hp:=ha.put;rw[hd]at hp;simp only[gB]at hp;split at hp
  .rename_i hb;rw[L.frame];simpa [jK]using hb
  .simp at hp
 have hclosed':∀j,iB (Y.setIfInBounds i true) j->∀oj,ops.toList[j]?=some oj->∀p∈preds oj,iB (Y.setIfInBounds i true) p:=fun j hj oj hoj p hp=>by
  rcases(nT U j).1 hj with rfl|hj
  .rw[ho]at hoj;simp only[aI]at hoj;subst hoj;exact(nT U p).2 (.inr (hpr p hp))
  .exact(nT U p).2 (.inr (L.b2 j hj oj hoj p hp))
 -- an act comes up in its turn
 have hturn:oA o=true->i=m:=fun hact=>by
  have M:i∈kQ ops.toList:=ry.2 ⟨o,ho,hact⟩;rcases Dy i m with h|h|h
  .exact(hnot (L.dx i M h)).elim
  .exact h
  .rcases L.cU with e|e
   .omega
   .obtain⟨om,z,J⟩:=ry.1 e;exact(L.bZ (I m (cx.b3.clash m i om o h z ho (by unfold Ab.clash;simp[hact,J])))).elim
 -- how the invariant goes on
 have hfin:∀(v:Value) (w':World) (G':Gh) (X:Hp),VR G' r.val v->Step B nx0 G w X w' G' ->
  (∀k p,G'.β k=some p->G.β k=some p\/((cO rs H' i).next<=k/\k<(cO rs H' (i+1)).next)) ->
  ((i≠m/\X=cO rs H' m)\/(i=m/\X=cO rs H' (i+1)))->K (a.put o.dst v) w':=fun v w' G' X hv O hlow hX=>by
  have hslots':=L.bG.put O.ext U ho hr hv hdst;have hlow':∀k p,G'.β k=some p->k<nx0\/∃j,iB (Y.setIfInBounds i true) j/\j<ops.toList.length/\(cO rs H' j).next<=k/\k<(cO rs H' (j+1)).next:=fun k p hk=>by
   rcases hlow k p hk with h|h
   .rcases L.bY k p h with h|⟨j,h1,h2⟩
    .exact .inl h
    .exact .inr ⟨j,(nT U j).2 (.inr h1),h2⟩
   .exact .inr ⟨i,(nT U i).2 (.inl rfl),hil,h⟩
  have hframe':(a.put o.dst v).tmps.size=N:=by rw[<-L.frame];cases o.dst<;>simp[Act.put]
  have hdef':(a.put o.dst v).defers=[]:=by have:=L.defers;cases o.dst<;>exact this
  rcases hX with⟨hne,rfl⟩|⟨rfl,rfl⟩
  .refine hK _ _ m G' ⟨by simpa using L.size,hclosed',L.le,L.cU,fun hd=>?_,fun e he hlt=>(nT U e).2 (.inr (L.dx e he hlt)),L.step.cV O,hlow',hslots',hframe',hdef'⟩;rcases(nT U m).1 hd with h|h
   .exact hne h.symm
   .exact L.bZ h
  ·-- the next act
   obtain⟨m',q1,q2,q3,q4⟩:=Ip (l:=ops.toList) (ops.toList.length-(i+1)) (i+1) ac;obtain⟨g1,g2⟩:=cx.eG (m'-(i+1)) (i+1) ac (fun j h1 h2=>q4 j h1 ac);rw[show i+1+(m'-(i+1))=m' by omega]at g1 g2;have hst2:Step B nx0 G0 w0 (cO rs H' m') w' G':=by
    have:=L.step.cV O;exact⟨this.r.more g1 g2,this.ext,this.fr,this.new,this.bY,dz this.mono g1,this.ch⟩
   have hact:∀e∈kQ ops.toList,e<m'->iB (Y.setIfInBounds i true) e:=fun e he hlt=>by
    by_cases h:e<i
    .exact(nT U e).2 (.inr (L.dx e he h))
    .by_cases h2:e=i
     .exact(nT U e).2 (.inl h2)
     .exact(q4 e ac hlt he).elim
   refine hK _ _ m' G' ⟨by simpa using L.size,hclosed',q2,q3,fun hd=>?_,hact,hst2,hlow',hslots',hframe',hdef'⟩;rcases(nT U m').1 hd with h|h
   .omega
   ·-- m' is done though i,an act before it,was not
    have hm'l:m'<ops.toList.length:=by
     rcases AJ m' ops.toList.length with h3|h3
     .exact h3
     .unfold iB at h;rw[kS,Ij (by rw[L.size];exact h3)]at h;simp at h
    rcases q3 with e|e
    .omega
    .obtain⟨om,z,J⟩:=ry.1 e;rcases L.cU with e2|e2
     .omega
     .obtain⟨oi,hoi,hacti⟩:=ry.1 e2;rw[ho]at hoi;simp only[aI]at hoi;subst hoi;exact hbehind m' h om z (cx.b3.clash i m' o om ac ho z (by unfold Ab.clash;simp[hacti,J]))
 -- the range of m for the looks
 have hlo:∀e∈kQ ops.toList,e∈(jq ops.toList []).getD i []->e<m:=fun e he hA=>by
  have hd:=I e hA;rcases AJ e m with h|h
  .exact h
  .exfalso;rcases L.cU with e2|e2
   .have:=(ry.1 he);obtain⟨oe,hoe,_⟩:=this;have:=(fH.1 hoe).1;omega
   .by_cases e3:e=m
    .subst e3;exact L.bZ hd
    .obtain⟨om,z,J⟩:=ry.1 e2;obtain⟨oe,hoe,hacte⟩:=ry.1 he;exact L.bZ (Io cx.b3 L.b2 e oe hoe (L.b2 e hd oe hoe) m (cx.b3.clash m e om oe ac z hoe (by unfold Ab.clash;simp[J,hacte])))
 have hhi:∀e∈kQ ops.toList,i∈(jq ops.toList []).getD e []->m<=e:=fun e he hA=>by
  rcases AJ e m with h|h
  .obtain⟨oe,hoe,_⟩:=ry.1 he;exact(hbehind e (L.dx e he h) oe hoe hA).elim
  .exact h
 unfold wpOp;rw[show ops[i]?=some o by rw[<-wZ];exact ho];simp only[];have hnxm:nx0<=(cO rs H' m).next:=L.step.mono
 have hsame:Step B nx0 G w (cO rs H' m) w G:=(lD L.step.r).co hnxm;have hstill:∀(v:Value) (w':World) (G':Gh),i≠m->VR G' r.val v->Step B (cO rs H' m).next G w (cO rs H' m) w' G'->K (a.put o.dst v) w':=fun v w' G' M hv O=>
  hfin v w' G' _ hv (O.co hnxm) (fun k p hk=>by
   rcases O.bY k p hk with h|h
   .exact .inl h
   .have:=O.r.b9 k p hk;omega) (.inl ⟨M,rfl⟩)
 have hnotact:oA o=false->i≠m:=fun hna e=>by
  rcases L.cU with e2|e2
  .omega
  .obtain⟨om,z,J⟩:=ry.1 e2;rw[<-e,ho]at z;simp only[aI]at z;subst z;rw[hna]at J;simp at J
 cases hd:r.did with
 |false=>
  have hw:Region.wanted o (yielded ops a.tmps)=false:=by rw[<-hwant,ha.er];exact hd
  rw[hw];simp only[dI,dD];obtain⟨hval,hheap⟩:=ha.no hd;by_cases M:i=m
  .subst M;exact hfin undef w G (cO rs H' (i+1)) (by rw[hval];exact Av G) (by rw[hheap];exact hsame) (fun k p hk=>.inl hk) (.inr ⟨rfl,rfl⟩)
  .exact hfin undef w G _ (by rw[hval];exact Av G) hsame (fun k p hk=>.inl hk) (.inl ⟨M,rfl⟩)
 |true=>
  have hw:Region.wanted o (yielded ops a.tmps)=true:=by rw[<-hwant,ha.er];exact hd
  rw[hw];simp only[dh];have hop:=ha.dR hd;refine .inl ?_;cases Z:iS o.op with
  |cU=>
   have M:=hturn (by simp[oA,Z]);subst M;refine Dx fit hih L.step.r C hop fun v w' G' hv O=>?_;refine hfin v w' G' _ hv (O.co hnxm) (fun k p hk=>?_) (.inr ⟨rfl,rfl⟩);rcases O.bY k p hk with h|h
   .exact .inl h
   .exact .inr ⟨h,O.r.b9 k p hk⟩
  |b3=>
   have hnc:∀c,o.op≠.call c:=fun c e=>by
    rw[e]at Z;simp only[iS]at Z;split at Z<;>simp at Z
   have M:=hnotact (by simp[oA,Z]);have hX:=(If (P:=P) (by simp[uj,Z]) ((w6 hnc).1 hop)).2 (cO rs H' m);have hop':eR P B.bX ih f (iK rs E' i) (cO rs H' m) o.op=.val r.val (cO rs H' m):=(w6 hnc).2 hX;exact Dx fit hih L.step.r C hop' fun v w' G' hv O=>hstill v w' G' M hv O
  |read=>
   have M:=hnotact (by simp[oA,Z]);have V:=cx.bR i r hr hd m L.cU.symm hlo hhi;unfold zeo at V;rw[ha.eo,Z,ha.eE]at V;simp only[]at V;split at V
   .rename_i v1 H1 hop';have hv1:=AV.a5 V;subst hv1;have hH1:=Ig (by simp[tf,Z]) hop';subst hH1;exact Dx fit (Snd.aQ P B) L.step.r C hop' fun v w' G' hv O=>hstill v w' G' M hv O
   .simp at V
  |make=>
   have M:=hnotact (by simp[oA,Z]);have hnc:∀c,o.op≠.call c:=fun c e=>by
    rw[e]at Z;simp only[iS]at Z;split at Z<;>simp at Z
   have hopA:=(w6 hnc).1 hop;obtain⟨blk,obj,ext,v,hH1,hrun,hmade,hv⟩:=Xu (P:=P) (w:=w) (by simp[u9,Z]) C hopA;have V:=cx.bR i r hr hd m L.cU.symm hlo hhi;unfold zeo at V;rw[ha.eo,Z,ha.eH,ha.eH']at V;simp only[]at V;have hnext1:(cO rs H' (i+1)).next=(cO rs H' i).next+1:=by rw[hH1];rfl
   have hgetm:(cO rs H' m).get (cO rs H' i).next=some blk:=by
    split at V
    .rename_i b b' h1 h2;rw[HB.a5 V]at h1;rw[hH1,aD,ah rfl]at h2;simp only[aI]at h2;subst h2;exact h1
    .simp at V
   have hlt:i<m:=by
    rcases Dy i m with h|h|h
    .exact h
    .exact(M h).elim
    .exfalso;rcases L.cU with e2|e2
     .omega
     .obtain⟨om,z,J⟩:=ry.1 e2;exact L.bZ (I m (cx.b3.clash m i om o h z ho (by unfold Ab.clash;simp[J,u9,Z])))
   have hr0:(cO rs H' i).next<(cO rs H' m).next:=by
    have:=cx.bB (m-(i+1)) (i+1) (by have:=L.le;omega);rw[show i+1+(m-(i+1))=m by omega]at this;omega
   have hnx0:nx0<=(cO rs H' i).next:=by
    have:=cx.bB i 0 ac;rw[bK,cx.dQ,hnx]at this;exact this
   have hno:∀q,G.β (cO rs H' i).next=some q->False:=fun q hq=>by
    rcases L.bY _ q hq with h|⟨j,h1,h2,h3,h4⟩
    .omega
    .rcases Dy j i with h|h|h
     .have:=cx.bB (i-(j+1)) (j+1) ac;rw[show j+1+(i-(j+1))=i by omega]at this;omega
     .subst h;exact hnot h1
     .have:=cx.bB (j-(i+1)) (i+1) ac;rw[show i+1+(j-(i+1))=j by omega]at this;omega
   have O:=L7 L.step.r hno hr0 hgetm hnx0 hmade;unfold Oper.wp;rw[hrun];refine hfin v _ _ _ (hv _ (ui _ _ _)) O (fun k p hk=>?_) (.inl ⟨M,rfl⟩);simp only[Gh.add]at hk;split at hk
   .rename_i e;exact .inr ⟨ac,ac⟩
   .exact .inl hk
def countP_set(C:i<j.size)(V:j[i]=false):(j.setIfInBounds i true).toList.countP (·=false)+1=j.toList.countP (·=false):=by
 rw[L4,List.countP_set Ap];have Z:j.toList[i]' Ap=false:=yw;have Y:0<j.toList.countP (·=false):=List.countP_pos_iff.2 ⟨false,by rw[<-Z];exact cB _,au⟩;rw[Z];simp only[i4,dh,nO,gD,dI,dD];omega
def XH(fit:Fit P)(hih:Snd P B n ih){g:Nat}{bM:Hp}(cx:Ctx P B.bX ih f N ops.toList E0 bM E' H' rs)(hnx:bM.next=g)
 (hE':iK rs E' ops.toList.length=E') (hH':cO rs H' ops.toList.length=H')  (hQ:∀e a w,mz B N g G0 w0 .normal E' H' e a w->Q e a w) :
 ∀(z:Nat) (Z:qJ) (a:Act) (w:World) (m:Nat) (G:Gh),InvD rs ops.toList N B g E0 H' G0 w0 Z a w m G->Z.toList.countP (·=false)<=z->wpAny P .any ops Q z Z a w:=by
 -- at the end all is done
 have U:∀(Z:qJ) (a:Act) (w:World) (m:Nat) (G:Gh),InvD rs ops.toList N B g E0 H' G0 w0 Z a w m G->Region.ready .any ops Z=[]->Q .normal a w:=fun Z a w m G L C=>by
  have M:∀j,j<ops.toList.length->iB Z j:=fun j=>by
   induction j using Nat.strongRecOn with
   |_ j ihj=>
    intro hj;have O:=aL hj;have J:j<Z.size:=by rw[L.size];exact hj
    cases hl:Z[j]with
    |true=>
     unfold iB;rw[kS,sg J,hl];rfl
    |false=>
     exfalso;have:j∈Region.ready .any ops Z:=mV.2 ⟨_,O,by rw[kS,sg J,hl];rfl,fun p hp=>by
      have hlt:=cx.b3.lt j _ O p hp;exact ihj p hlt ac⟩
     rw[C]at this;simp at this
  have hm:m=ops.toList.length:=by
   rcases L.cU with e|e
   .exact e
   .obtain⟨om,hom,_⟩:=ry.1 e;exact(L.bZ (M m (fH.1 hom).1)).elim
  subst hm;have I:=L.step;rw[hH']at I;refine hQ _ _ _ ⟨rfl,G,⟨L.frame,fun t=>?_⟩,I,L.defers⟩;have:=L.bG.du cx (t:=t) (aH _) (fun j oj hoj _=>⟨fun _=>(fH.1 hoj).1,fun h=>M j h⟩);rw[hE']at this;exact this
 intro z;induction z with
 |zero=>
  intro Z a w m G L hc;have C:Region.ready .any ops Z=[]:=by
   apply AK.2;intro i hi;obtain⟨o,O,Y,_⟩:=mV.1 hi;have V:i<Z.size:=MD;rw[kS,sg V]at Y;have:=countP_set V sX;omega
  exact⟨C,U Z a w m G L C⟩
 |succ z ihf=>
  intro Z a w m G L hc;refine⟨fun C=>U Z a w m G L C,fun i hi=>?_⟩;obtain⟨o,O,Y,_⟩:=mV.1 hi;have V:i<Z.size:=MD;rw[kS,sg V]at Y;have hcs:=countP_set V sX;exact XG fit hih cx hnx L hi (fun a' w' m' G' hI'=>ihf _ a' w' m' G' hI' ac)
def MI(fit:Fit P)(Y:Snd P B n ih){g:ax}(hr:oB P B.bX ih f N ops.toList E H=.done x g H')
 (h:R B H w G) (ht:TR N G E a) (hd:a.defers=[])  (hQ:∀e a' w',mz B N H.next G w x g H' e a' w'->Q e a' w'):wpAny P .any ops Q ops.size (Array.replicate ops.size false) a {w with drawn:=w.drawn+1}:=by
 unfold oB at hr;split at hr
 .rename_i M;split at hr
  .rename_i E1 H1 rs L;split at hr
   .rename_i i;simp only[Res.done.injEq]at hr;obtain⟨rfl,rfl,rfl⟩:=hr;have cx:=XF M L i;have hlen:=cx.len;have I:iK rs E1 ops.toList.length=E1:=by unfold iK;rw[gV ac]
    have C:cO rs H1 ops.toList.length=H1:=by unfold cO;rw[gV ac]
    obtain⟨m,q1,q2,q3,q4⟩:=Ip (l:=ops.toList) ops.toList.length 0 ac;obtain⟨J,g2⟩:=cx.eG m 0 ac (fun j _ Z=>q4 j ac ac);rw[bK,cx.dQ]at J g2;have z:R B H {w with drawn:=w.drawn+1} G:=h.heap rfl;have O:Step B H.next G w (cO rs H1 m) {w with drawn:=w.drawn+1} G:=
     ⟨z.more J g2,yA _,⟨rfl,rfl,rfl,aH _,fun _ _ _=>rfl⟩,wV _ _,fun _ _ h=>.inl h,J,fun _ _ _ h=>.inl h⟩
    have U:∀j,¬iB (Array.replicate ops.size false) j:=fun j Z=>by
     unfold iB at Z;rw[kS,MF]at Z;split at Z<;>simp at Z
    refine XH fit Y cx rfl I C hQ ops.size _ a _ m G
     ⟨au,fun j Z=>(U j Z).elim,q2,q3,U m,fun e he V=>(q4 e (de _) V he).elim,O,fun r p hr=>.inl (h.b9 r p hr),fun t=>.inr ⟨fun j o' Z=>(U j Z).elim,ht.bG t⟩,ht.size,hd⟩ ?_
    exact dz List.countP_le_length au
   .simp at hr
  .simp at hr
 .simp at hr
end
def mW(ops:qN):qD->qJ->Prop
 |[],listed=>Region.ready .any ops listed=[]
 |i::L,listed=>i∈Region.ready .any ops listed/\mW ops L (listed.setIfInBounds i true)
theorem MJ{ops:qN}:∀(z t:Nat) (j:qJ),j.size=ops.size->j.toList.countP (·=false)<=z->mW ops (Region.linearise.go .any ops z t j []) j
 |0,t,j,hs,hc=>by
  show Region.ready .any ops j=[];apply AK.2;intro i Y;obtain⟨o,O,Z,_⟩:=mV.1 Y;have C:i<j.size:=ME;rw[kS,sg C]at Z;have:=countP_set C ub;omega
 |z+1,t,j,hs,hc=>by
  simp only[Region.linearise.go];change mW ops (match (Region.ready .any ops j)[t%(Region.ready .any ops j).length]? with
   |some i=>Region.linearise.go .any ops z (t/(Region.ready .any ops j).length) (j.setIfInBounds i true) [i]
   |none=>[].reverse) j
  cases Y:(Region.ready .any ops j)[t%(Region.ready .any ops j).length]? with
  |none=>
   show Region.ready .any ops j=[];cases hr:Region.ready .any ops j with
   |nil=>rfl
   |cons x M=>
    rw[hr]at Y;have V:t%(x::M).length<(x::M).length:=Nat.mod_lt _ au;simp at Y;simp at V;omega
  |some i=>
   simp only[];rw[linearise_go_acc,List.reverse_singleton,Ik];have U:=jM Y;refine⟨U,MJ z _ _ (by simpa using hs) ?_⟩;obtain⟨o,O,Z,_⟩:=mV.1 U;have C:i<j.size:=ME;rw[kS,sg C]at Z;have:=countP_set C ub;omega
section
variable {P:Program} {Q:Exit -> Act -> World -> Prop}
theorem Ir{ops:qN}:∀(L:qD) (z:Nat) (j:qJ) (a:Act) (w:World),wpAny P .any ops Q z j a w->mW ops L j->wpOps P ops Q L a w
 |[],0,j,a,w,h,_=>h.2
 |[],z+1,j,a,w,h,hv=>h.1 hv
 |i::L,0,j,a,w,h,hv=>by
  have Z:=hv.1;rw[h.1]at Z;simp at Z
 |i::L,z+1,j,a,w,h,hv=>by
  rw[wpOps_cons];exact wpOp_mono (fun a w Y=>Ir L z _ a w Y hv.2) (h.2 i hv.1)
def XI{id:Nat}(O:P.follows .mixedOrders=true)
 (h:∀L,mW ops L (Array.replicate ops.size false)->wpOps P ops Q L a {w with drawn:=w.drawn+1}):(Code.region id ops true).wp P Q a w:=
 wp_region_draw fun t=>by
  simp only[Region.schedule,O,mU,dh];exact h _ (MJ ops.size t _ au (dz List.countP_le_length au))
theorem Is{ops ops':qN}{φ:Nat->Nat}:∀(L:qD) (a:Act) (w:World),
 (∀i∈L,∃o Z,ops[i]?=some o/\ops'[φ i]?=some Z/\(∃C gd,Z={o with after:=C,guard:=gd})/\∀a:Act,Region.wanted Z (yielded ops' a.tmps)=Region.wanted o (yielded ops a.tmps)) ->
 wpOps P ops' Q (L.map φ) a w->wpOps P ops Q L a w
 |[],_,_,_,h=>h
 |i::L,a,w,hr,h=>by
  rw[dZ,wpOps_cons]at h;rw[wpOps_cons];obtain⟨o,Z,U,g,⟨C,gd,m⟩,O⟩:=hr i ei;have V:∀a w,wpOps P ops' Q (L.map φ) a w->wpOps P ops Q L a w:=fun a w=>Is L a w (fun j Y=>hr j (ev _ Y));have M:=wpOp_mono V h;unfold wpOp at M⊢;rw[g]at M;rw[U];simp only[]at M⊢;rw[O a]at M;subst m;exact M
end
def DB(q p:Nat)(l:qA):(kR q p l).length=l.length:=by
 unfold kR;split<;>simp
theorem AM(h:l[i]?=some o):
 ∃Z,(kR q p l)[i]?=some Z/\(∃C,Z={o with after:=C})/\(i≠q->Z=o)/\∀j,j∈preds Z↔j∈preds o\/(i=q/\j=p):=by
 unfold kR;have V:=(fH.1 h).1;by_cases e:i=q
 .subst e;rw[h];refine⟨_,List.getElem?_set_self V,⟨_,rfl⟩,fun I=>(I rfl).elim,fun j=>?_⟩;unfold preds;have:(o.after.push {on:=p,ground:=.data}).toList=o.after.toList++[{on:=p,ground:=.data}]:=au;rw[this,List.filter_append,tg,nR];have g:(List.filter (Region.binds .any) [({on:=p,ground:=.data}:Edge)])=[{on:=p,ground:=.data}]:=rfl;rw[g];simp
 .have z:∀Y,(l.set q Y)[i]?=some o:=fun Y=>by rw[List.getElem?_set_ne (fun h=>e h.symm)];exact h
  split
  .exact⟨o,z _,⟨o.after,rfl⟩,fun _=>rfl,fun j=>⟨.inl,fun h=>h.elim id (fun h=>(e h.1).elim)⟩⟩
  .exact⟨o,h,⟨o.after,rfl⟩,fun _=>rfl,fun j=>⟨.inl,fun h=>h.elim id (fun h=>(e h.1).elim)⟩⟩
def MK{j:Oper}(h:(kR q p l)[i]?=some j):∃o,l[i]?=some o:=by
 have:=(fH.1 h).1;rw[DB]at this;exact⟨_,aL this⟩
theorem XJ(j:Nat):((kR q p l)[j]?).bind (·.dst)=(l[j]?).bind (·.dst):=by
 cases h:l[j]? with
 |none=>
  rw[gV (by rw[DB];exact List.getElem?_eq_none_iff.1 h)]
 |some o=>
  obtain⟨Z,i,⟨C,rfl⟩,_⟩:=AM (q:=q) (p:=p) h;rw[i];rfl
def ML(h:i∈Region.ready .any (kR q p l).toArray Z):i∈Region.ready .any l.toArray Z:=by
 obtain⟨U,Y,g,m⟩:=mV.1 h;simp only[]at Y;obtain⟨o,O⟩:=MK Y;obtain⟨M,L,_,_,I⟩:=AM (q:=q) (p:=p) O;rw[Y]at L;simp only[aI]at L;subst L;exact mV.2 ⟨o,O,g,fun j V=>m j ((I j).2 (.inl V))⟩
def AN(h:i∈Region.ready .any l.toArray Z)(V:i=q->Z.getD p false=true):i∈Region.ready .any (kR q p l).toArray Z:=by
 obtain⟨o,Y,g,m⟩:=mV.1 h;simp only[]at Y;obtain⟨O,L,_,_,I⟩:=AM (q:=q) (p:=p) Y;refine mV.2 ⟨O,L,g,fun j U=>?_⟩;rcases(I j).1 U with h|⟨M,rfl⟩
 .exact m j h
 .exact V M
def XK(h:j.getD p false=true):(j.setIfInBounds i true).getD p false=true:=by
 simp only[kS,yy]at *;split
 .split
  .rfl
  .rename_i Z g;subst Z;rw[Ij ac]at h;simp at h
 .exact h
theorem It{q p:Nat}{l:qA}:∀{L:qD}{j:qJ},j.getD p false=true->mW l.toArray L j->mW (kR q p l).toArray L j
 |[],j,_,hv=>by
  show Region.ready .any (kR q p l).toArray j=[];apply AK.2;intro i C;have:=ML C;rw[show Region.ready .any l.toArray j=[]from hv]at this;simp at this
 |i::L,j,hd,hv=>⟨AN hv.1 (fun _=>hd),It (XK hd) hv.2⟩
theorem MM{p q:Nat}(O:p≠q){l:qA}:∀{L:qD}{j:qJ},j.size=l.length->mW l.toArray L j->mW (kR q p l).toArray L j\/mW (kR p q l).toArray L j
 |[],j,_,hv=>.inl <|by
  show Region.ready .any (kR q p l).toArray j=[];apply AK.2;intro i Z;have:=ML Z;rw[show Region.ready .any l.toArray j=[]from hv]at this;simp at this
 |i::L,j,hs,hv=>by
  have C:i<j.size:=by
   obtain⟨o,V,_⟩:=mV.1 hv.1;rw[hs];exact(fH.1 V).1
  have g:(j.setIfInBounds i true).getD i false=true:=by
   simp[kS,C]
  by_cases Y:i=q
  .subst Y;exact .inr ⟨AN hv.1 (fun e=>(O e.symm).elim),It g hv.2⟩
  .by_cases m:i=p
   .subst m;exact .inl ⟨AN hv.1 (fun e=>(Y e).elim),It g hv.2⟩
   .rcases MM O (by simpa using hs) hv.2 with h|h
    .exact .inl ⟨AN hv.1 (fun e=>(Y e).elim),h⟩
    .exact .inr ⟨AN hv.1 (fun e=>(m e).elim),h⟩
theorem Iu{ops:qN}:∀{L:qD}{Z:qJ},mW ops L Z->∀i∈L,∃o,ops.toList[i]?=some o
 |[],_,_,i,C=>by simp at C
 |j::L,Z,hv,i,C=>by
  rcases gE.1 C with rfl|C
  .obtain⟨o,O,_⟩:=mV.1 hv.1;exact⟨o,O⟩
  .exact Iu hv.2 i C
theorem MN(V:mW l.toArray L Z)
 (h:wpOps P (kR q p l).toArray Q L a w):wpOps P l.toArray Q L a w:=by
 refine Is (ops':=(kR q p l).toArray) (φ:=id) L a w (fun i C=>?_) jf;obtain⟨o,O⟩:=Iu V i C;simp only[]at O;obtain⟨J,Y,⟨U,rfl⟩,_⟩:=AM (q:=q) (p:=p) O;refine⟨o,_,by simpa using O,sX,⟨U,o.guard,rfl⟩,fun a=>?_⟩;have M:yielded (kR q p l).toArray a.tmps=yielded l.toArray a.tmps:=funext fun j=>by
  unfold yielded;have:=XJ (q:=q) (p:=p) (l:=l) j;simp only[List.getElem?_toArray,this]
 rw[M];rfl
structure zf3 (ord:qD) (l:qA):Prop where
 len:ord.length=l.length
 bk:∀k:Nat,k<l.length->∃i,ord[k]?=some i/\i<l.length/\jJ ord i=k
 lt:∀i:Nat,i<l.length->jJ ord i<l.length/\ord[jJ ord i]?=some i
 cP:∀(i:Nat) o,l[i]?=some o->(∀p∈preds o,p<l.length)/\∀j b,o.guard=some (j,b)->j<l.length
def XL{ord:qD}(h:Al ord l=true):zf3 ord l:=by
 unfold Al at h;simp only[cj,gM,lF]at h;obtain⟨⟨Y,g⟩,m⟩:=h;refine⟨kh Y,fun k Z=>?_,fun i C=>?_,fun i o O=>?_⟩
 .have:=(g k Z).1.1;split at this
  .rename_i i C;simp only[cj]at this;exact⟨i,C,by simpa [jK]using this.1,kh this.2⟩
  .simp at this
 .have V:=(g i C).1.2;have M:=(g i C).2;refine⟨by simpa [jK]using V,?_⟩;split at M
  .rename_i k Z;rw[Z,kh M]
  .simp at M
 .have:=m o (jM O);refine⟨fun p hp=>by simpa [jK]using this.1 p hp,fun j b hg=>?_⟩;have U:=this.2;rw[hg]at U;simpa [jK]using U
theorem MO{I β:Type}{f:I->Option β}:∀{C:List I},(∀x∈C,(f x).isSome=true)->∀k:Nat,(C.filterMap f)[k]?=(C[k]?).bind f
 |[],_,k=>by simp
 |x::C,h,k=>by
  obtain⟨y,Y⟩:=Option.isSome_iff_exists.1 (h x ei);rw[List.filterMap_cons_some Y];cases k with
  |zero=>simp[Y]
  |succ k=>simp[MO (fun x z=>h x (ev _ z)) k]
section
variable {ord:qD} {l:qA} (hp:zf3 ord l)
include hp
theorem zf3.dj(h:l[i]?=some o):(jr ord l)[jJ ord i]?=some (va ord o):=by
 have C:=(fH.1 h).1;unfold jr;rw[MO (fun x z=>?_)]
 .rw[(hp.lt i C).2];simp[h]
 .obtain⟨k,j⟩:=Il.1 z;have I:k<l.length:=by rw[<-hp.len];exact(fH.1 j).1
  obtain⟨Y,Z,g,_⟩:=hp.bk k I;rw[j]at Z;simp only[aI]at Z;subst Z;rw[aL g];rfl
def zf3.length:(jr ord l).length=l.length:=by
 have:∀k,k<l.length->((jr ord l)[k]?).isSome=true:=fun k j=>by
  obtain⟨i,Z,g,m⟩:=hp.bk k j;have:=hp.dj (aL g);rw[m]at this;rw[this];rfl
 refine Nat.le_antisymm (dz (List.length_filterMap_le _ _) (by rw[hp.len];exact aH _)) ?_;rcases AJ (jr ord l).length l.length with h|h
 .have:=this _ h;rw[gV (aH _)]at this;simp at this
 .exact h
def zf3.of{j:Oper}(h:(jr ord l)[k]?=some j):∃i o,l[i]?=some o/\jJ ord i=k/\j=va ord o:=by
 have Z:k<l.length:=by rw[<-hp.length];exact(fH.1 h).1
 obtain⟨i,Y,g,m⟩:=hp.bk k Z;have:=hp.dj (aL g);rw[m,h]at this;simp only[aI]at this;exact⟨i,_,aL g,m,this⟩
def zf3.inj{j:Nat}(C:i<l.length)(Y:j<l.length)(h:jJ ord i=jJ ord j):i=j:=by
 have Z:=(hp.lt i C).2;rw[h,(hp.lt j Y).2]at Z;simpa using Z.symm
theorem zf3.preds:Ab.preds (va ord o)=(Ab.preds o).map (jJ ord):=by
 unfold Ab.preds va;simp only[vm];rw[List.filter_map];have:(Region.binds .any ∘ fun e:Edge=>{e with on:=jJ ord e.on})=Region.binds .any:=rfl;rw[this,List.filter_filter];simp only[vn,vm];rfl
def AO(ord:qD)(l:qA)(x y:qJ):Prop:=x.size=l.length/\y.size=l.length/\∀i,i<l.length->y[jJ ord i]?=x[i]?
def AO.set{x:qJ}(h:AO ord l x y)(C:i<l.length):AO ord l (x.setIfInBounds i true) (y.setIfInBounds (jJ ord i) true):=by
 refine⟨by simpa using h.1,by simpa using h.2.1,fun j Z=>?_⟩;simp only[yy];by_cases e:i=j
 .subst e;rw[ah rfl,ah rfl,ah (by rw[h.2.1];exact(hp.lt i C).1),ah (by rw[h.1];exact C)]
 .rw[af e,af (fun Y=>e (hp.inj C Z Y))];exact h.2.2 j Z
def MP{x:qJ}(h:AO ord l x y)(C:i<l.length):jJ ord i∈Region.ready .any (jr ord l).toArray y↔i∈Region.ready .any l.toArray x:=by
 have O:=aL C;have U:=hp.dj O;rw[mV,mV];simp only[];have hd:∀(j:Nat) (b:Bool),j<l.length->y.getD (jJ ord j) b=x.getD j b:=fun j b I=>by
  simp only[kS,h.2.2 j I]
 constructor
 .rintro⟨z,L,V,M⟩;rw[U]at L;simp only[aI]at L;subst L;refine⟨_,O,by rw[<-hd i true C];exact V,fun p Y=>?_⟩;rw[<-hd p false ((hp.cP i _ O).1 p Y)];exact M _ (by rw[hp.preds];exact List.mem_map_of_mem Y)
 .rintro⟨z,L,V,M⟩;rw[O]at L;simp only[aI]at L;subst L;refine⟨_,U,by rw[hd i true C];exact V,fun p Y=>?_⟩;rw[hp.preds]at Y;obtain⟨J,Z,rfl⟩:=mT.1 Y;rw[hd J false ((hp.cP i _ O).1 J Z)];exact M J Z
theorem MQ:∀{L:qD}{x y:qJ},AO ord l x y->mW l.toArray L x->mW (jr ord l).toArray (L.map (jJ ord)) y
 |[],x,y,hs,hv=>by
  show Region.ready .any (jr ord l).toArray y=[];apply AK.2;intro k j;obtain⟨V,Z,_⟩:=mV.1 j;simp only[]at Z;obtain⟨i,o,Y,g,_⟩:=hp.of Z;have C:=(fH.1 Y).1;rw[<-g]at j;have:=(MP hp hs C).1 j;rw[show Region.ready .any l.toArray x=[]from hv]at this;simp at this
 |i::L,x,y,hs,hv=>by
  obtain⟨o,O,_⟩:=mV.1 hv.1;have C:i<l.length:=(fH.1 O).1;exact⟨(MP hp hs C).2 hv.1,MQ (hs.set hp C) hv.2⟩
theorem XM(M:mW l.toArray L Z)
 (h:wpOps P (jr ord l).toArray Q (L.map (jJ ord)) a w):wpOps P l.toArray Q L a w:=by
 refine Is (ops':=(jr ord l).toArray) (φ:=jJ ord) L a w (fun i C=>?_) h;obtain⟨o,O⟩:=Iu M i C;simp only[]at O;have U:=hp.dj O;refine⟨o,va ord o,by simpa using O,by simpa using U,⟨_,_,rfl⟩,fun a=>?_⟩;unfold Region.wanted va;cases hg:o.guard with
 |none=>rfl
 |some J=>
  obtain⟨j,b⟩:=J;have V:=(hp.cP i o O).2 j b hg;have Y:=hp.dj (aL V);simp only[];unfold yielded;simp only[List.getElem?_toArray,Y,aL V];rfl
end
theorem T.a5{I:Type}{g:I->I->Bool}(J:∀a b,g a b=true->a=b):∀{x y:T I},T.beq g x y=true->x=y
 | .e,.e,_=>rfl
 | .e,.n _ _ _,h=>by simp[T.beq]at h
 | .n _ _ _,.e,h=>by simp[T.beq]at h
 | .n v l r,.n O C V,h=>by
   simp only[T.beq,cj]at h;rw[T.a5 J h.1.2,T.a5 J h.2];have i:=h.1.1;cases v<;>cases O <;>simp only[dI]at i
   .rfl
   .rw[J _ _ i]
def XN{ops:qA}{Z j:ax}{Y i:Hp}(h:HA ops Z j Y i=true):(∀o∈ops,∀d,o.dst=some d->Z.at d=j.at d)/\Y=i:=by
 unfold HA at h;simp only[cj,gM]at h;refine⟨fun o O d hd=>?_,?_⟩
 .have:=h.1.1 o O;rw[hd]at this;exact AV.a5 this
 .have V:=kh h.1.2;have g:=T.a5 (fun a b=>HB.a5) h.2;cases Y;cases i;simp only[]at V g;rw[V,g]
section
variable {P:Program} {B:Bs} {cfg:Cfg}
def XO{t:Nat}{Y:ax}{M:Option Tmp}(h:gB N E M v=some Y)(J:M≠some t):Y.at t=E.at t:=by
 unfold gB at h;split at h
 .rename_i d;split at h
  .simp only[aI]at h;rw[<-h,yB,af (fun e=>J nQ)]
  .simp at h
 .simp only[aI]at h;rw[<-h]
theorem MR{ih:zd3->Res}{f N t:Nat}{Y:qA}:∀{rs:List Rec}{l:qA}{E E':ax}{H H':Hp},pn P cfg ih f N Y rs l E H E' H'->(∀o∈l,o.dst≠some t)->E'.at t=E.at t
 |[],[],_,_,_,_,h,_=>by rw[h.1]
 |[],_::_,_,_,_,_,h,_=>by simp[pn]at h
 |_::_,[],_,_,_,_,h,_=>by simp[pn]at h
 |r::rs,o::l,E,E',H,H',h,ht=>by
  obtain⟨_,_,_,_,_,_,E1,hp,Z⟩:=h;rw[MR Z (fun o O=>ht o (ev _ O)),XO hp (ht o ei)]
def MS{t:Nat}{ops:qA}(h:oB P cfg ih f N ops E H=.done x U H')(J:∀o∈ops,o.dst≠some t):x=.normal/\U.at t=E.at t:=by
 unfold oB at h;split at h
 .split at h
  .rename_i E1 H1 rs L;split at h
   .simp only[Res.done.injEq]at h;obtain⟨rfl,rfl,rfl⟩:=h;exact⟨rfl,MR (AG L) J⟩
   .simp at h
  .simp at h
 .simp at h
def XP{ord:qD}(h:o∈jr ord l):∃j∈l,o.dst=j.dst:=by
 unfold jr at h;rw[List.mem_filterMap]at h;obtain⟨i,_,g⟩:=h;split at g
 .rename_i j O;simp only[aI]at g;subst g;exact⟨j,jM O,rfl⟩
 .simp at g
def MT(h:o∈kR q p l):∃j∈l,o.dst=j.dst:=by
 obtain⟨i,C⟩:=Il.1 h;obtain⟨z,Z⟩:=MK C;obtain⟨V,L,⟨U,Y⟩,_⟩:=AM (q:=q) (p:=p) Z;rw[C]at L;simp only[aI]at L;exact⟨z,jM Z,by rw[L,Y]⟩
def MU{ops:qA}(h:wP ops V g=.done x U H'):
 x=.normal/\V=.done .normal U H'/\∃j,g=.done .normal j H'/\∀o∈ops,∀d,o.dst=some d->U.at d=j.at d:=by
 unfold wP at h;split at h
 .split at h
  .rename_i M;simp only[Res.done.injEq]at h;obtain⟨rfl,rfl,rfl⟩:=h;obtain⟨i,Z⟩:=XN M;subst Z;exact⟨rfl,rfl,_,rfl,i⟩
  .simp at h
 .simp at h
theorem Iv{ih:zd3->Res}{f N t:Nat}{E U:ax}{H H':Hp}{x:AX}:∀{I:zf0}{ops:qA},lA P cfg ih f N E H I ops=.done x U H'->(∀o∈ops,o.dst≠some t)->U.at t=E.at t
 | .text,ops,h,ht=>(MS h ht).2
 | .bA ord,ops,h,ht=>by
   simp only[lA]at h;split at h
   .exact(MS h (fun o O=>by obtain⟨j,i,g⟩:=XP O;rw[g];exact ht j i)).2
   .simp at h
 | .split p q a b,ops,h,ht=>by
   simp only[lA]at h;split at h
   .simp at h
   .obtain⟨_,i,_⟩:=MU h;exact Iv i (fun o O=>by obtain⟨j,i,g⟩:=MT O;rw[g];exact ht j i)
def mz.same{O:Nat}{Y j:ax}(U:∀t,Y.at t=j.at t){e:Exit}(h:mz B N O G w x j H' e a w'):mz B N O G w x Y H' e a w':=by
 obtain⟨i,Z,g,m,V⟩:=h;exact⟨i,Z,⟨g.size,fun t=>by rw[U];exact g.bG t⟩,m,V⟩
theorem Iw(fit:Fit P){n:Nat}{ih:zd3->Res}(j:Snd P B n ih){f N:Nat}{E:ax}{H:Hp}{G:Gh}{w:World}{a:Act}(h:R B H w G)(J:TR N G E a)(hd:a.defers=[]){Q:Exit->Act->World->Prop}:
 ∀(pl:zf0) (l:qA) {E':ax}{H':Hp}{x:AX},lA P B.bX ih f N E H pl l=.done x E' H'->(∀e Z M,mz B N H.next G w x E' H' e Z M->Q e Z M)->∀L,mW l.toArray L (Array.replicate l.length false) ->
  wpOps P l.toArray Q L a {w with drawn:=w.drawn+1}
 | .text,l,E',H',x,hr,hQ,L,hv=>Ir L _ _ a _ (by
  have:=MI (ops:=l.toArray) fit j hr h J hd hQ;simpa using this) hv
 | .bA ord,l,E',H',x,hr,hQ,L,hv=>by
   simp only[lA]at hr;split at hr
   .rename_i hp;have hp:=XL hp;refine XM hp hv (Ir _ _ _ a _ (MI (ops:=(jr ord l).toArray) fit j hr h J hd hQ) ?_);refine MQ hp ⟨au,by simp[hp.length],fun i z=>?_⟩ hv;have:=(hp.lt i z).1;simp[hp.length,z,this]
   .simp at hr
 | .split p q pa pb,l,E',H',x,hr,hQ,L,hv=>by
   simp only[lA]at hr;split at hr
   .simp at hr
   .rename_i Y;have m:p≠q:=HG Y;obtain⟨rfl,h1,E2,h2,h3⟩:=MU hr;rcases MM m au hv with V|U
    .exact MN hv (Iw fit j h J hd pa _ h1 hQ L (by rw[DB];exact V))
    .have I:∀t,E'.at t=E2.at t:=fun t=>by
      by_cases J:∃o∈l,o.dst=some t
      .obtain⟨o,O,hd⟩:=J;exact h3 o O t hd
      .have C:∀o∈l,o.dst≠some t:=fun o O hd=>J ⟨o,O,hd⟩;have g:∀q p,∀o∈kR q p l,o.dst≠some t:=fun q p o O=>by obtain⟨o',g1,g2⟩:=MT O;rw[g2];exact C o' g1
       rw[Iv h1 (g _ _),Iv h2 (g _ _)]
     exact MN hv (Iw fit j h J hd pb _ h2 (fun e Z M hp=>hQ _ _ _ (mz.same I hp)) L (by rw[DB];exact U))
def XQ(fit:Fit P)(j:Snd P B n ih){id:Nat}{I:zf0}(hr:lA P B.bX ih f N E H I ops.toList=.done x U H')
 (h:R B H w G) (J:TR N G E a) (hd:a.defers=[]):Code.wp P (.region id ops true) (mz B N H.next G w x U H') a w:=by
 refine XI fit.mixed fun L M=>?_;have:=Iw fit j h J hd I ops.toList hr (fun _ _ _ hp=>hp) L (by simpa using M);simpa using this
end
structure Grow (w:World) (F:Nat->Nat->qS) (w':World) (F':Nat->Nat->qS):Prop where
 below:Below w.heap.size w w'
 more:∀b o v,F b o=some v->F' b o=some v
 ch:∀b o v,F' b o=some v->F b o=some v\/w.heap.size<=b
 ci:∀b o v,F' b o=some v->w'.cell? ⟨b,o,none⟩=some v
def bF(P:Program)(ρ:Nat->Int)(f:FuncId)(O:qt)(r:AV):Prop:=
 (∃z,P.funcs[f]?=some z/\z.body.isSome=true)/\∀(G:Gh) (w:World) (vs:qF),G.ρ=ρ->(∀b o v,G.F b o=some v->w.cell? ⟨b,o,none⟩=some v)->cc G O vs ->
   Calls P f vs.toArray w (fun e M=>∃v J,e=.returned v/\VR {G with F:=J} r v/\Grow w G.F M J)
def XR(P:Program)(B:Bs):Prop:=∀f O r,B.bX.call f O=some r->bF P B.ρ f O r
def Ix(h:Below w.heap.size w w'){b o:Nat}(hb:b<w.heap.size):w'.cell? ⟨b,o,none⟩=w.cell? ⟨b,o,none⟩/\w'.frozen? ⟨b,o,none⟩=w.frozen? ⟨b,o,none⟩:=
 ⟨by simp only[World.cell?,h.block b hb],h.frozen (p:=⟨b,o,none⟩) hb⟩
theorem R.eD{B:Bs}{U:Nat->Nat->qS}(h:R B H w G)(g:Grow w G.F w' U):Step B H.next G w H w' {G with F:=U}:=by
 have J:Ext G {G with F:=U}:=⟨fun _ _ h=>h,g.more,rfl⟩;have V:∀{b o:Nat}{v:Value},w.cell? ⟨b,o,none⟩=some v->w'.cell? ⟨b,o,none⟩=some v:=fun hc=>by rw[(Ix g.below (rv hc)).1];exact hc
 refine⟨?_,J,⟨g.below.os,g.below.tape,g.below.output,g.below.size,fun k m _=>g.below.block k m⟩,fun r b o x hr=>.inl hr,fun _ _ h=>.inl h,aH _,fun b o v C=>(g.ch b o v C).imp id fun hb=>dz h.bO hb⟩;exact{
  bO:=dz h.bO g.below.size
  b9:=h.b9
  lt:=fun r b o x hr=>⟨(h.lt r b o x hr).1,oD (h.lt r b o x hr).2 g.below.size⟩
  cells:=fun r b o x O imm Z hr hc j c M=>by
   obtain⟨v,L,I⟩:=h.cells r b o x O imm Z hr hc j c M;exact⟨v,V L,I.mono J⟩
  aF:=fun r b o x O imm Z hr hc j M Y=>let ⟨v,C⟩:=h.aF r b o x O imm Z hr hc j M Y;⟨v,g.more _ _ _ C⟩
  ext:=h.ext
  bD:=h.bD
  bz:=fun r b o x O imm Z hr hc j M Y=>by
   obtain⟨⟨v,L⟩,I,h3⟩:=h.bz r b o x O imm Z hr hc j M Y;have hb:=(h.lt r b o x hr).2;refine⟨⟨v,V L⟩,by rw[(Ix g.below hb).2];exact I,?_⟩;show U b (o+j)=none;cases hF:U b (o+j)with
   |none=>rfl
   |some u=>rcases g.ch _ _ _ hF with z|z
            ·rw[h3]at z;simp at z
            .omega
  apart:=h.apart
  map:=fun r b o x es hr hc=>by
   obtain⟨ms,i,L,I⟩:=h.map r b o x es hr hc;exact⟨ms,i,by rw[g.below.block b (h.lt r b o x hr).2];exact L,I.mono J⟩
  aV:=h.aV
  ci:=g.ci
  val:=h.val
  cr:=h.cr}
theorem Iy(z:Nat):∀(n:Nat) (l:qt),(fP z n l).length=n
 |0,_=>rfl
 |n+1,l=>by simp[fP,Iy z n]
theorem AP(z:Nat):∀(n:Nat) (l:qt) (i:Nat) (L:qt),l.length=n*z->(fP z n l)[i]?=some L->L.length=z/\∀(j:Nat) c,L[j]?=some c->l[i*z+j]?=some c
 |0,_,i,L,_,h=>by simp[fP]at h
 |n+1,l,i,L,hl,h=>by
  rw[rr,AL]at hl;simp only[fP]at h;cases i with
  |zero=>
   simp at h;subst h;refine⟨td,fun j c Z=>?_⟩;rw[sY]at Z;split at Z
   .rw[te,bK];exact Z
   .simp at Z
  |succ i=>
   obtain⟨Y,g⟩:=AP z n (l.drop z) i L AH jf;refine⟨Y,fun j c Z=>?_⟩;have:=g j c Z;rw[vd]at this;rw[rr,AL,show i*z+z+j=z+(i*z+j) by omega];exact this
theorem DC{B:Bs}{w:World}{g:AV->Hp->Option (AV×Hp)}
 (hg:∀(v:AV) (H:Hp) (q:AV) (H':Hp) (G:Gh) (x:Value),R B H w G->VR G v x->g v H=some (q,H')->∃Y,Step B H.next G w H' w Y/\VR Y q x) :
 ∀(Z:qt) (vs:qF) (H:Hp) (V:qt) (H':Hp) (G:Gh),R B H w G->cc G Z vs->iA g Z H=some (V,H')->∃Y,Step B H.next G w H' w Y/\cc Y V vs
 |[],vs,H,V,H',G,h,hv,hi=>by
  simp only[iA,cT]at hi;obtain⟨rfl,rfl⟩:=hi;exact⟨G,lD h,hv⟩
 |c::Z,[],H,V,H',G,h,hv,hi=>by have:=hv.1;simp at this
 |c::Z,v::vs,H,V,H',G,h,hv,hi=>by
  simp only[iA]at hi;split at hi
  .rename_i d H1 i;split at hi
   .rename_i j O M;simp only[cT]at hi;obtain⟨rfl,rfl⟩:=hi;obtain⟨L,J⟩:=hv.a7;obtain⟨I,U,C⟩:=hg c H d H1 G v h L i;obtain⟨z,m,r2⟩:=DC hg Z vs H1 j O I U.r (J.mono U.ext) M;exact⟨z,U.trans m,kq (C.mono m.ext) r2⟩
   .simp at hi
  .simp at hi
theorem DD{B:Bs}{w:World}:∀(n:Nat) (v:AV) (H:Hp) (q:AV) (H':Hp) (G:Gh) (x:Value),R B H w G->VR G v x->fF n v H=some (q,H')->∃G',Step B H.next G w H' w G'/\VR G' q x
 |0,_,_,_,_,_,_,_,_,h=>by simp[fF]at h
 |n+1,v,H,q,H',G,x,h,hv,C=>by
  unfold fF at C;split at C
  .rename_i r I V z;split at C
   .rename_i cs g tip M;split at C
    .rename_i hle;simp only[cj]at hle;have hle1:=AB hle.1;have hle2:=AB hle.2;split at C
     .rename_i l H1 hil;simp only[cT]at C;obtain⟨rfl,rfl⟩:=C;cases hv with
      |sl hr hl hcx=>
       rename_i b o xx cap;have U:=h.cells r b o xx cs g tip hr M;have s1:=Ax h hr M (n:=max g (I+V*z)) ac ac tip id;obtain⟨Z,ho1,ho2⟩:=U.list;have hlen:((cs.drop I).take (V*z)).length=V*z:=by rw[mP,kT];omega
       obtain⟨G2,s2,r2⟩:=DC (DD n) _ ((Z.drop I).take (V*z)) _ l H1 _ s1.r (((ho1.drop I).take (V*z)).mono s1.ext) hil;refine⟨G2,s1.trans s2,?_⟩;have hll:l.length=V*z:=by
        have e1:=r2.1;have e2:=((ho1.drop I).take (V*z)).1;rw[hlen]at e2;omega
       have hlc:=Iy z V l;have hovl:Z.length=cs.length:=ho1.1.symm;have hat:∀m,m<V*z->∃v,Z[I+m]?=some v/\G2.F b (o+I+m)=some v/\∀c,l[m]?=some c->VR G2 c v:=fun m hm=>by
        have O:I+m<Z.length:=ac;refine⟨Z[I+m],aL O,?_,fun c hc=>?_⟩
        .refine s2.ext.F _ _ _ ?_;have L:=ho2 (I+m) Z[I+m] (aL O);show(G.aG w b o (max g (I+V*z))).F b (o+I+m)=some Z[I+m];simp only[Gh.aG];rw[<-ki]at L;split
         .rename_i v' hv';have:=h.ci _ _ _ hv';rw[L]at this;exact this.symm
         .rw[ah ⟨by trivial,ac,ac⟩];exact L
        .refine r2.2 m c _ hc ?_;rw[sY,ah hm,vd];exact aL O
       have hin:∀i j,i<V->j<z->i*z+j<V*z:=fun i j C hj=>by
        calc i*z+j<i*z+z:=by omega
         _=(i+1)*z:=by rw[rr,AL]
         _<=V*z:=yz _ C
       have key:VR G2 (.aE (fP z V l)) (.slice (some ⟨b,o+I,none⟩) (fP z V l).length cap):=by
        refine .aE (fun i j=>(Z[I+(i*z+j)]?).getD undef) (z:=z) (fun i J Y=>(AP z V l i J hll Y).1) (fun i j C hj=>?_) (fun i j J c Y hcj=>?_) (by rw[hlc];exact hl)
        .rw[hlc]at C;obtain⟨v,e1,e2,_⟩:=hat _ (hin i j C hj);rw[e1,ki (o+I)];exact e2
        .have hm:=(AP z V l i J hll Y).2 j c hcj;have O:=(fH.1 hm).1;obtain⟨v,e1,_,e3⟩:=hat (i*z+j) ac;rw[e1];exact e3 c hm
       rw[hlc]at key;exact key
     .simp at C
    .simp at C
   .simp at C
  .rename_i cs;split at C
   .rename_i ds H1 hil;simp only[cT]at C;obtain⟨rfl,rfl⟩:=C;cases hv with
    |agg hl hvs=>
     obtain⟨G',s,r⟩:=DC (DD n) cs _ H ds H1 G h ⟨hl,hvs⟩ hil;exact⟨G',s,.agg r.1 r.2⟩
   .simp at C
  .simp at C
  .simp at C
  .simp only[cT]at C;obtain⟨rfl,rfl⟩:=C;exact⟨G,lD h,hv⟩
section
variable {P:Program} {B:Bs} {G:Gh} {H H':Hp} {w:World}
theorem MV:∀(O:qt) (i:Nat) (E:ax) (t:Nat),(aW i O E).at t=if i<=t/\t<i+O.length then O.getD (t-i) dK else E.at t
 |[],i,E,t=>by
  simp only[aW,ik,ve];rw[af ac]
 |v::vs,i,E,t=>by
  simp only[aW,MV vs (i+1),eF];by_cases Z:i+1<=t/\t<i+1+vs.length
  .rw[ah Z,ah ac,show t-i=(t-(i+1))+1 by omega];rfl
  .rw[af Z,yB];by_cases g:t=i
   .subst g;rw[ah rfl,ah ac];simp
   .rw[af g,af ac]
theorem Iz:∀(d t:Nat),ax.at (Am d) t=dK
 |0,_=>rfl
 |d+1,t=>by
  unfold ax.at Am;rw[wW];cases h:Nat.beq t 0 with
  |true=>rfl
  |false=>
   rw[oG];cases g:Nat.beq (Nat.mod t 2) 1 with
   |true=>exact Iz d _
   |false=>exact Iz d _
def XS(N t:Nat):ax.at (wQ N) t=dK:=Iz _ _
def TR.start(h:cc G O vs)(I:Nat):
 TR (max I O.length) G (aW 0 O (wQ (max I O.length))) {tmps:=vs.toArray++Array.replicate (I-vs.toArray.size) undef,defers:=[] }:=by
 have Z:=h.1;refine⟨bW,fun t=>?_⟩;rw[MV];simp only[de,jy,bK,Az];by_cases J:t<O.length
 .rw[ah J];have Y:O.getD t dK=O[t]:=by simp[List.getD,J]
  rw[Y];have:(vs.toArray++Array.replicate (I-vs.toArray.size) undef).getD t undef=vs[t]' ac:=by
   rw[kS,Array.getElem?_append_left bW];simp[show t<vs.length by omega]
  rw[this];exact h.2 t _ _ (aL J) (aL ac)
 .rw[af J,XS];have:(vs.toArray++Array.replicate (I-vs.toArray.size) undef).getD t undef=undef:=by
   rw[kS,Array.getElem?_append_right bW];simp only[MF];split<;>rfl
  rw[this];exact Av G
def XT(h:R B H w G)(J:TR N G E a){r:ResultVar}{c:AV}(hr:cY P E H r=some c):
 ∃v,(match r with
  | .tmp t=>pure (a.tmps.getD t undef)
  | .cell x t=>do loadVar t (<-asAddr (a.tmps.getD x undef)):Sem Value).run P w=.ok v w/\VR G c v:=by
 cases r with
 |tmp t=>
  simp only[cY,aI]at hr;subst hr;exact⟨_,rfl,J.bG t⟩
 |cell x t=>
  simp only[cY]at hr;have z:=J.bG x;obtain⟨v,i,g⟩:=Mg (P:=P) h z hr;refine⟨v,?_,g⟩;show(do loadVar t (<-asAddr (a.tmps.getD x undef)):Sem Value).run P w=.ok v w;generalize a.tmps.getD x undef=L at z i⊢;generalize E.at x=C at z hr;cases z<;>simp[gL]at hr<;>simpa [Instr.loadAt,Instr.sureAddr,asAddr]using i
theorem MW(h:R B H w G){N:Nat}{E:ax}{a:Act}(J:TR N G E a):∀{rs:List ResultVar}{g:qt},cL P E H rs=some g ->
 ∃vs,(rs.mapM (fun
  | .tmp t=>pure (a.tmps.getD t undef)
  | .cell x t=>do loadVar t (<-asAddr (a.tmps.getD x undef)):ResultVar->Sem Value)).run P w=.ok vs w/\cc G g vs
 |[],g,hr=>by
  simp only[cL,aI]at hr;subst hr;exact⟨[],au,mQ G⟩
 |r::rs,g,hr=>by
  simp only[cL]at hr;split at hr
  .rename_i c I i Z;simp only[aI]at hr;subst hr;obtain⟨v,L,Y⟩:=XT (P:=P) h J i;obtain⟨vs,V,U⟩:=MW h J Z;refine⟨v::vs,?_,kq Y U⟩;rw[List.mapM_cons];simp only[fT,L,fV,V,lV]
  .simp at hr
def MX(h:R B H w G)(J:TR N G E a){r:AV}(hr:yr P z.results.toList E H=.val r H'):
 H'=H/\∃v,(results z a.tmps).run P w=.ok v w/\VR G r v:=by
 unfold yr at hr;split at hr
 .rename_i Y Z;simp only[Res.val.injEq]at hr;obtain⟨rfl,rfl⟩:=hr;obtain⟨vs,i,g⟩:=MW (P:=P) h J Z;refine⟨rfl,?_⟩;have L:(results z a.tmps).run P w=.ok (if h:vs.toArray.size=1 then vs.toArray[0]else .tuple vs.toArray) w:=by
   unfold results;rw[Array.mapM_eq_mapM_toList];simp only[fT,Sem.run_map];exact kV (fun r:Result qF=>(r.andThen fun a M=>Result.ok a.toArray M).andThen fun a M=>Sem.run P (pure (if h:a.size=1 then a[0]else Value.tuple a)) M) i
  refine⟨_,L,?_⟩
  match Y,vs,g with
  |[],[],g=>exact .aX (vs:=[]) rfl au
  |[c],[v],g=>exact g.a7.1
  |c::c'::Y,v::v'::vs,g=>
   have:¬(v::v'::vs).toArray.size=1:=au;rw[dif_neg this];exact .aX g.1 g.2
  |[],_::_,g=>have:=g.1;simp at this
  |[_],[],g=>have:=g.1;simp at this
  |[_],_::_::_,g=>have:=g.1;simp at this
  |_::_::_,[],g=>have:=g.1;simp at this
  |_::_::_,[_],g=>have:=g.1;simp at this
 .simp at hr
def IA(C:Fit P)(j:Snd P B n ih){f:FuncId}{r:AV}(M:rm P ih f O H=.val r H')(h:R B H w G)(hv:cc G O vs):
 (∃V,P.funcs[f]?=some V/\V.body.isSome=true)/\Calls P f vs.toArray w (fun e L=>∃v Y,e=.returned v/\VR Y r v/\Step B H.next G w H' L Y):=by
 unfold rm at M;split at M
 .rename_i V U;split at M
  .rename_i c hc;refine⟨⟨V,U,by rw[hc];rfl⟩,calls_of_wp U hc ?_⟩;have m:=TR.start hv V.ntmps;split at M
   .rename_i E1 H1 J;refine vk (fun e a' L I=>?_) (j.aP _ _ _ _ _ _ _ _ J G w _ h m rfl);obtain⟨rfl,Y,Z,z,hd⟩:=I;obtain⟨rfl,v,i,g⟩:=MX (P:=P) z.r Z M;exact⟨hd,v,i,v,Y,rfl,g,z⟩
   .rename_i E1 H1 J;refine vk (fun e a' L I=>?_) (j.aP _ _ _ _ _ _ _ _ J G w _ h m rfl);obtain⟨rfl,Y,Z,z,hd⟩:=I;obtain⟨rfl,v,i,g⟩:=MX (P:=P) z.r Z M;exact⟨hd,v,i,v,Y,rfl,g,z⟩
   .simp at M
  .simp at M
 .simp at M
def IB(L:Snd P B n ih)(M:ro ih f N b r=.done x U H'):
 ∃j E1 H1,r=.done j E1 H1/\((j=.normal/\ih (.aP f N b E1 H1)=.done x U H')\/(j≠.normal/\x=j/\U=E1/\H'=H1)):=by
 unfold ro at M;split at M
 .rename_i E1 H1;exact⟨.normal,E1,H1,rfl,.inl ⟨rfl,M⟩⟩
 .rename_i m;subst M;exact⟨x,U,H',rfl,.inr ⟨fun e=>by subst e;exact m _ _ rfl,rfl,rfl,rfl⟩⟩
def XU(fit:Fit P)(j:Snd P B n ih)(M:step P B.bX ih (.aP f N c E H)=.done x E' H')
  (h:R B H w G) (J:TR N G E a) (hd:a.defers=[]):Code.wp P c (mz B N H.next G w x E' H') a w:=by
 cases c with
 |skip=>
  simp only[step,Res.done.injEq]at M;obtain⟨rfl,rfl,rfl⟩:=M;exact wp_skip ⟨rfl,G,J,lD h,hd⟩
 |region id ops draw=>
  cases draw with
  |false=>
   exact wp_region_list (Ib fit j ops.toList M h J hd (fun _ _ _ hp=>hp))
  |true=>exact XQ fit j M h J hd
 |seq p q=>
  obtain⟨I,E1,H1,i,g⟩:=IB j M;refine wp_seq (vk (fun e V U Z=>?_) (j.aP _ _ _ _ _ _ _ _ i G w a h J hd));obtain⟨rfl,Y,O,z,C⟩:=Z;rcases g with⟨rfl,g⟩|⟨m,rfl,rfl,rfl⟩
  .exact vk (fun e a w Z=>Dw z Z) (j.aP _ _ _ _ _ _ _ _ g Y U V z.r O C)
  .cases x with
   |normal=>exact(m rfl).elim
   |exit id=>exact⟨rfl,Y,O,z,C⟩
   |ret=>exact⟨rfl,Y,O,z,C⟩
 |cond y p q=>
  simp only[step,wR]at M;split at M
  .rename_i L;have hb:=Ia J L;have:a.eval y=.bool true:=by generalize a.eval y=v at hb;cases hb;rfl
   exact wp_cond_true this (j.aP _ _ _ _ _ _ _ _ M G w a h J hd)
  .rename_i L;have hb:=Ia J L;have:a.eval y=.bool false:=by generalize a.eval y=v at hb;cases hb;rfl
   exact wp_cond_false this (j.aP _ _ _ _ _ _ _ _ M G w a h J hd)
  .simp at M
 |block id p=>
  simp only[step]at M;cases i:ih (.aP f N p E H)with
  |done I E1 H1=>
   rw[i]at M;refine wp_block (vk (fun e V U Z=>?_) (j.aP _ _ _ _ _ _ _ _ i G w a h J hd));obtain⟨rfl,Y,O,z,C⟩:=Z;cases I with
   |normal=>
    simp only[pi,Res.done.injEq]at M;obtain⟨rfl,rfl,rfl⟩:=M;exact⟨rfl,Y,O,z,C⟩
   |ret=>
    simp only[pi,Res.done.injEq]at M;obtain⟨rfl,rfl,rfl⟩:=M;exact⟨rfl,Y,O,z,C⟩
   |exit id'=>
    simp only[pi]at M;cases hb:Nat.beq id' id with
    |true=>
     rw[hb]at M;simp only[Res.done.injEq]at M;obtain⟨rfl,rfl,rfl⟩:=M;have:=kh hb;subst this;simp only[HZ,Exit.inBlock,dh];exact⟨rfl,Y,O,z,C⟩
    |false=>
     rw[hb]at M;simp only[Res.done.injEq]at M;obtain⟨rfl,rfl,rfl⟩:=M;have:=HG hb;simp only[HZ,Exit.inBlock];rw[af this];exact⟨rfl,Y,O,z,C⟩
  |val v H1=>rw[i]at M;simp[pi]at M
  |aQ=>rw[i]at M;simp[pi]at M
 |loop p=>
  refine wp_loop_rounds (n+1) ?_;rw[rounds_succ];obtain⟨I,E1,H1,i,g⟩:=IB j M;refine vk (fun e V U Z=>?_) (j.aP _ _ _ _ _ _ _ _ i G w a h J hd);obtain⟨rfl,Y,O,z,C⟩:=Z;rcases g with⟨rfl,g⟩|⟨m,rfl,rfl,rfl⟩
  .exact H0 (fun e a w Z=>Dw z Z) (j.loop _ _ _ _ _ _ _ _ g Y U V z.r O C)
  .cases x with
   |normal=>exact(m rfl).elim
   |exit id=>exact⟨rfl,Y,O,z,C⟩
   |ret=>exact⟨rfl,Y,O,z,C⟩
 |exit id=>
  simp only[step,Res.done.injEq]at M;obtain⟨rfl,rfl,rfl⟩:=M;exact wp_exit ⟨rfl,G,J,lD h,hd⟩
 |ret=>
  simp only[step,Res.done.injEq]at M;obtain⟨rfl,rfl,rfl⟩:=M;exact wp_ret ⟨rfl,G,J,lD h,hd⟩
 |rangeFunc _ _ _ _=>simp[step]at M
 |scope _=>simp[step]at M
 |label _=>simp[step]at M
 |goto _=>simp[step]at M
 |refuse _=>simp[step]at M
def XV(Z:Fit P)(j:Snd P B n ih)(M:step P B.bX ih (.aP f N (.loop c) E H)=.done x U H')
  (h:R B H w G) (V:TR N G E a) (hd:a.defers=[]):Code.rounds P c (mz B N H.next G w x U H') (n+1) a w:=by
 rw[rounds_succ];obtain⟨x1,E1,H1,i,g⟩:=IB j M;refine vk (fun e L I J=>?_) (j.aP _ _ _ _ _ _ _ _ i G w a h V hd);obtain⟨rfl,Y,O,z,C⟩:=J;rcases g with⟨rfl,g⟩|⟨m,rfl,rfl,rfl⟩
 .exact H0 (fun e a w J=>Dw z J) (j.loop _ _ _ _ _ _ _ _ g Y I L z.r O C)
 .cases x with
  |normal=>exact(m rfl).elim
  |exit id=>exact⟨rfl,Y,O,z,C⟩
  |ret=>exact⟨rfl,Y,O,z,C⟩
theorem MY(fit:Fit P)(hc:XR P B):∀n,Snd P B n (ek P B.bX n)
 |0=>⟨fun _ _ _ _ _ h=>by simp[ek]at h,fun _ _ _ _ _ _ _ _ h=>by simp[ek]at h,fun _ _ _ _ _ _ _ _ h=>by simp[ek]at h⟩
 |n+1=>by
  have j:=MY fit hc n;have he:ek P B.bX (n+1)=step P B.bX (ek P B.bX n):=rfl;rw[he];refine⟨fun f O H r H' M G w vs h V=>?_,fun f N c E H x E' H' M G w a h i hd=>XU fit j M h i hd,fun f N c E H x E' H' M G w a h i hd=>XV fit j M h i hd⟩;have Z:∀{G:Gh}{O:qt}{vs:qF}{H:Hp}{J:AV},B.bX.call f O=some J->R B H w G->cc G O vs ->
   (∃C,P.funcs[f]?=some C/\C.body.isSome=true)/\Calls P f vs.toArray w (fun e L=>∃v Y,e=.returned v/\VR Y J v/\Step B H.next G w H L Y):=fun{G O vs H J} hr h V=>by
   obtain⟨h1,h2⟩:=hc f O J hr;refine⟨h1,(h2 G w vs h.val h.ci V).mono fun e L I=>?_⟩;obtain⟨v,F',rfl,g,hg⟩:=I;exact⟨v,_,rfl,g,h.eD hg⟩
  have U:∀{G:Gh}{O:qt}{vs:qF}{H H':Hp}{r:AV},rp P B.bX (ek P B.bX n) f O H=.val r H'->R B H w G->cc G O vs ->
   (∃C,P.funcs[f]?=some C/\C.body.isSome=true)/\Calls P f vs.toArray w (fun e L=>∃v Y,e=.returned v/\VR Y r v/\Step B H.next G w H' L Y):=fun{G O vs H H' r} M h V=>by
   unfold rp at M;split at M
   .unfold An at M;split at M
    .rename_i asx H1 m;split at M
     .rename_i J hr;simp only[Res.val.injEq]at M;obtain⟨rfl,rfl⟩:=M;obtain⟨G1,s1,r1⟩:=DC (DD 100) O vs H asx H1 G h V m;obtain⟨h1,h2⟩:=Z hr s1.r r1;refine⟨h1,h2.mono fun e L I=>?_⟩;obtain⟨v,Y,rfl,g,z⟩:=I;exact⟨v,Y,rfl,g,s1.trans z⟩
     .exact IA fit j M h V
    .exact IA fit j M h V
   .exact IA fit j M h V
  simp only[step]at M;split at M
  .rename_i J hr;simp only[Res.val.injEq]at M;obtain⟨rfl,rfl⟩:=M;exact Z hr h V
  .unfold yu at M;split at M
   .rename_i v1 H1 hz hv1;obtain⟨g1,g2⟩:=U hv1 h V;refine⟨g1,g2.mono fun e L I=>?_⟩;obtain⟨v,Y,rfl,g,z⟩:=I;cases hi:fF 100 v1 H1 with
    |none=>rw[hi]at M;simp[iY]at M
    |some p=>
     obtain⟨q,H2⟩:=p;rw[hi]at M;simp only[iY,Res.val.injEq]at M;obtain⟨rfl,rfl⟩:=M;obtain⟨G2,s2,r2⟩:=DD 100 v1 H1 _ _ Y v z.r g hi;exact⟨v,G2,rfl,r2,z.trans s2⟩
   .exact U M h V
end
open Go Go.RowKit Go.WideShapes Go.ChangeShapes
theorem XW(r:Nat):bM.get r=none:=rfl
theorem R.start(C:∀b o v,G.F b o=some v->w.cell? ⟨b,o,none⟩=some v)(hb:∀r,G.β r=none)(Z:ru cfg.cl G.ρ):R ⟨w.heap.size,G.ρ,cfg⟩ bM w G:=by
 refine⟨aH _,?_,?_,?_,?_,?_,?_,?_,?_,?_,C,rfl,Z,?_⟩<;>intros<;>simp_all
theorem yK{g:AV->qC}:∀{Z V:qt},iceL g Z=some V->V.length=Z.length/\∀(i:Nat) d,V[i]?=some d->∃c,Z[i]?=some c/\g c=some d
 |[],V,h=>by
  simp only[iceL,aI]at h;subst h;exact⟨rfl,au⟩
 |c::Z,V,h=>by
  simp only[iceL]at h;split at h
  .rename_i d j Y U;simp only[aI]at h;subst h;obtain⟨m,O⟩:=yK U;refine⟨by simp[m],fun i e J=>?_⟩;cases i with
   |zero=>simp at J;subst J;exact⟨c,rfl,Y⟩
   |succ i=>exact O i e (by simpa using J)
  .simp at h
theorem MZ{g:AV->qC}:∀{Z V:List qt},vb g Z=some V->V.length=Z.length/\∀(i:Nat) d,V[i]?=some d->∃c,Z[i]?=some c/\iceL g c=some d
 |[],V,h=>by
  simp only[vb,aI]at h;subst h;exact⟨rfl,au⟩
 |c::Z,V,h=>by
  simp only[vb]at h;split at h
  .rename_i d j Y U;simp only[aI]at h;subst h;obtain⟨m,O⟩:=MZ U;refine⟨by simp[m],fun i e J=>?_⟩;cases i with
   |zero=>simp at J;subst J;exact⟨c,rfl,Y⟩
   |succ i=>exact O i e (by simpa using J)
  .simp at h
theorem AQ{H:Hp}{G G2:Gh}{w:World}(hρ:G2.ρ=G.ρ)(hF:∀b o v,G.F b o=some v->G2.F b o=some v)
 (L:∀r b o x cs imm tip,G.β r=some (b,o,x)->H.get r=some (.cells cs imm tip)->ky G w b o cs/\∀j v,w.cell? ⟨b,o+j,none⟩=some v->G2.F b (o+j)=some v) :
 ∀(n:Nat) (v:AV) (x:Value) (q:AV),VR G v x->iceV H n v=some q->VR G2 q x
 |0,_,_,_,_,h=>by simp[iceV]at h
 |n+1,v,x,q,hv,h=>by
  have hlist:∀{cs ds:qt}{vs:qF},cc G cs vs->iceL (iceV H n) cs=some ds->cc G2 ds vs:=fun{cs ds vs} U hi=>by
   obtain⟨h1,h2⟩:=yK hi;refine⟨by rw[h1];exact U.1,fun i d u hd hu=>?_⟩;obtain⟨c,hc,hcd⟩:=h2 i d hd;exact AQ hρ hF L n c u d (U.2 i c u hc hu) hcd
  cases hv with
  |int k a=>simp only[iceV,aI]at h;subst h;exact .int _ _
  |sx k e=>simp only[iceV,aI]at h;subst h;rw[<-hρ];exact .sx _ _
  |bool b=>simp only[iceV,aI]at h;subst h;exact .bool _
  |aq s l hs=>simp only[iceV,aI]at h;subst h;exact .aq _ _ hs
  |bC=>simp only[iceV,aI]at h;subst h;exact .bC
  |bi=>simp only[iceV,aI]at h;subst h;exact .bi
  |bL=>simp only[iceV,aI]at h;subst h;exact .bL
  |ak=>simp only[iceV,aI]at h;subst h;exact .ak
  |ptr _=>simp[iceV]at h
  |bj _ _ _=>simp[iceV]at h
  |map _=>simp[iceV]at h
  |bm _ _=>simp[iceV]at h
  |agg hl U=>
   simp only[iceV]at h;split at h
   .rename_i ds hds;simp only[aI]at h;subst h;have:=hlist ⟨hl,U⟩ hds;exact .agg this.1 this.2
   .simp at h
  |aX hl U=>
   simp only[iceV]at h;split at h
   .rename_i ds hds;simp only[aI]at h;subst h;have:=hlist ⟨hl,U⟩ hds;exact .aX this.1 this.2
   .simp at h
  |bQ a cap=>
   simp only[iceV,vb,aI]at h;subst h;exact .bQ _ _
  |aE vs hz hFx hvx hc=>
   rename_i xs b o cap z;simp only[iceV]at h;split at h
   .rename_i ys hys;simp only[aI]at h;subst h;obtain⟨h1,h2⟩:=MZ hys;rw[<-h1];refine .aE vs (z:=z) (fun i Y hr=>?_) (fun i j hi hj=>hF _ _ _ (hFx i j (by rw[<-h1];exact hi) hj)) (fun i j Y c hr hcj=>?_) (by rw[h1];exact hc)
    .obtain⟨c,J,hc2⟩:=h2 i Y hr;rw[(yK hc2).1];exact hz i c J
    .obtain⟨c0,J,hc2⟩:=h2 i Y hr;obtain⟨c1,hc3,hc4⟩:=(yK hc2).2 j c hcj;exact AQ hρ hF L n c1 (vs i j) c (hvx i j c0 c1 J hc3) hc4
   .simp at h
  |sl hr hl hcx=>
   rename_i r I V z b o xx cap;simp only[iceV]at h;split at h
   .rename_i cs imm tip hg;split at h
    .rename_i l hil;split at h
     .rename_i C;simp only[aI]at h;subst h;obtain⟨hh,hnew⟩:=L r b o xx cs imm tip hr hg;obtain⟨h1,h2⟩:=yK hil;have Z:∀(m:Nat) c,l[m]?=some c->∃v,w.cell? ⟨b,o+I+m,none⟩=some v/\VR G2 c v:=fun m c hm=>by
       obtain⟨c0,g,J⟩:=h2 m c hm;rw[sY]at g;split at g
       .rw[vd]at g;obtain⟨v,O,hv2⟩:=hh _ _ g;exact⟨v,by rw[ki];exact O,AQ hρ hF L n c0 v c hv2 J⟩
       .simp at g
      have hlc:=Iy z V l;have hin:∀i j,i<V->j<z->i*z+j<l.length:=fun i j hi hj=>by
       rw[C]
       calc i*z+j<i*z+z:=by omega
        _=(i+1)*z:=by rw[rr,AL]
        _<=V*z:=yz _ hi
      have key:VR G2 (.aE (fP z V l)) (.slice (some ⟨b,o+I,none⟩) (fP z V l).length cap):=by
       refine .aE (fun i j=>(w.cell? ⟨b,o+I+(i*z+j),none⟩).getD undef) (z:=z) (fun i Y M=>(AP z V l i Y C M).1) (fun i j hi hj=>?_) (fun i j Y c M hcj=>?_) (by rw[hlc];exact hl)
       .rw[hlc]at hi;have hm:=hin i j hi hj;obtain⟨v,O,_⟩:=Z (i*z+j) _ (aL hm);rw[O];have:=hnew (I+(i*z+j)) v (by rw[<-ki];exact O);rw[show o+I+i*z+j=o+(I+(i*z+j)) by omega];exact this
       .have hm:=(AP z V l i Y C M).2 j c hcj;obtain⟨v,O,hv2⟩:=Z (i*z+j) c hm;rw[O];exact hv2
      rw[hlc]at key;exact key
     .simp at h
    .simp at h
   .simp at h
def XX(w:World){G2:Gh}(C:G2.ρ=G.ρ)(U:∀b o v,G.F b o=some v->G2.F b o=some v)(h:vc m O=true)(V:cc G O vs):cc G2 O vs:=by
 unfold vc at h;split at h
 .rename_i J g;have:=sf h;subst this;obtain⟨h1,I⟩:=yK g;refine⟨V.1,fun i c v hc Y=>?_⟩;obtain⟨c0,Z,z⟩:=I i c hc;rw[hc]at Z;simp only[aI]at Z;subst Z;exact AQ (H:=bM) (w:=w) C U (fun r b o x j M L _ hg=>by simp[XW]at hg) m c v c (V.2 i c v hc Y) z
 .simp at h
def IC{f:FuncId}{r:AV}(h:rm P ih f O H=.val r H'):∃z,P.funcs[f]?=some z/\z.body.isSome=true:=by
 unfold rm at h;split at h
 .rename_i z M;split at h
  .rename_i c hb;exact⟨z,M,by simp[hb]⟩
  .simp at h
 .simp at h
theorem XY{ρ:Nat->Int}(g:∀f O r,cfg.call f O=some r->bF P ρ f O r){f:FuncId}{O:qt}{r:AV}(h:ek P cfg n (.call f O H)=.val r H'):
 ∃Z,P.funcs[f]?=some Z/\Z.body.isSome=true:=by
 cases n with
 |zero=>simp[ek]at h
 |succ n=>
  have J:ek P cfg (n+1)=step P cfg (ek P cfg n):=rfl;rw[J]at h;simp only[step]at h;split at h
  .rename_i V hr;exact(g f O V hr).1
  .have z:∀{r:AV}{H':Hp},rp P cfg (ek P cfg n) f O H=.val r H'->∃Z,P.funcs[f]?=some Z/\Z.body.isSome=true:=fun{r H'} h=>by
    unfold rp at h;split at h
    .unfold An at h;split at h
     .split at h
      .rename_i hr;exact(g _ _ _ hr).1
      .exact IC h
     .exact IC h
    .exact IC h
   unfold yu at h;split at h
   .rename_i Y;exact z Y
   .exact z h
def M0(fit:Fit P){ρ:Nat->Int}(hD:ru cfg.cl ρ)(hc:∀f O r,cfg.call f O=some r->bF P ρ f O r){f:FuncId}{O:qt}{r:AV}
 (hp:vc k O=true) (h:C3 P cfg n m f O=some r):bF P ρ f O r:=by
 unfold C3 at h;split at h
 .rename_i v0 H' i;refine⟨XY hc i,fun G w vs L C V=>?_⟩;subst L;have z:cc {G with β:=fun _=>none} O vs:=XX w (G:=G) (G2:={G with β:=fun _=>none}) rfl (fun _ _ _ h=>h) hp V;have g:R ⟨w.heap.size,G.ρ,cfg⟩ bM w {G with β:=fun _=>none}:=R.start (G:={G with β:=fun _=>none}) C (fun _=>rfl) hD;refine((MY (B:=⟨w.heap.size,G.ρ,cfg⟩) fit hc n).call f O bM _ H' i _ w vs g z).2.mono fun e Y hh=>?_;obtain⟨x,G',rfl,hx,M⟩:=hh;have Z:Below w.heap.size w Y:=⟨M.fr.os,M.fr.tape,M.fr.output,M.fr.size,fun k hk=>M.fr.block k hk (fun r b o x hr=>by simp at hr)⟩;refine⟨x,fun b o=>if b<w.heap.size then G.F b o else Y.cell? ⟨b,o,none⟩,rfl,?_,Z,fun b o v V=>?_,fun b o v V=>?_,fun b o v V=>?_⟩
  .refine AQ (G:=G') (w:=Y) (H:=H') ?_ (fun b o v V=>?_) (fun r b o x cs J I hr hg=>?_) m v0 x r hx h
   .exact M.ext.ρ.symm
   .rcases M.ch b o v V with U|U
    .show(if b<w.heap.size then G.F b o else Y.cell? ⟨b,o,none⟩)=some v;rw[ah (rv (C b o v U))];exact U
    .show(if b<w.heap.size then G.F b o else Y.cell? ⟨b,o,none⟩)=some v;rw[af (by have:w.heap.size<=b:=U;omega)];exact M.r.ci b o v V
   .refine⟨M.r.cells r b o x cs J I hr hg,fun j v hj=>?_⟩;have U:w.heap.size<=b:=(M.r.lt r b o x hr).1;show(if b<w.heap.size then G.F b (o+j)else Y.cell? ⟨b,o+j,none⟩)=some v;rw[af ac];exact hj
  .rw[ah (rv (C b o v V))];exact V
  .split at V
   .exact .inl V
   .exact .inr ac
  .split at V
   .rename_i hb;rw[(Ix Z hb).1];exact C b o v V
   .exact V
 .simp at h
def XZ{ρ:Nat->Int}{f:FuncId}{b:Bool}(h:bF P ρ f O (.bool b)){F:Nat->Nat->qS}
 (Z:∀b o v,F b o=some v->w.cell? ⟨b,o,none⟩=some v) (V:cc ⟨fun _=>none,F,ρ⟩ O vs) :
 Calls P f vs.toArray w (fun e M=>e=.returned (.bool b)/\Below w.heap.size w M):=by
 refine(h.2 ⟨fun _=>none,F,ρ⟩ w vs rfl Z V).mono fun e M U=>?_;obtain⟨v,J,rfl,hr,hg⟩:=U;cases hr;exact⟨rfl,hg.below⟩
def X0(fit:Fit P){ρ:Nat->Int}(Z:ru cfg.cl ρ)(g:∀f O r,cfg.call f O=some r->bF P ρ f O r){f:FuncId}{O:qt}{r:AV}
 (i:vc k O=true) (h:HC P cfg n m f O r=true):bF P ρ f O r:=by
 unfold HC at h;split at h
 .rename_i q L;rw[<-AV.a5 h];exact M0 fit Z g i L
 .simp at h
def nU(ρ:Nat->Int):ru (fun _ _ _=>none) ρ:=fun _ _ _ _ _ h=>mS
def AR(P:Program)(ρ:Nat->Int):List (FuncId×qt×AV)->Prop
 |[]=>True
 |p::l=>bF P ρ p.1 p.2.1 p.2.2/\AR P ρ l
theorem DE{P:Program}{ρ:Nat->Int}:∀{l:List (FuncId×qt×AV)},AR P ρ l->∀f O r,wS l f O=some r->bF P ρ f O r
 |[],_,_,_,_,h=>by simp[wS]at h
 |p::l,hk,f,O,r,h=>by
  simp only[wS]at h;split at h
  .rename_i C;split at h
   .rename_i z;simp only[aI]at h;subst h;rw[<-kh C,<-sf z];exact hk.1
   .exact DE hk.2 f O r h
  .exact DE hk.2 f O r h
def AS:List (Nat×Nat×zf0)->FuncId->Nat->zf0
 |[],_,_=>.text
 |p::l,f,id=>match Nat.beq p.1 f with
  |true=>match Nat.beq p.2.1 id with
   |true=>p.2.2
   |false=>AS l f id
  |false=>AS l f id
def X1(pls:List (Nat×Nat×zf0))(l:List (FuncId×qt×AV)):Cfg:={keep:=fun _=>false,call:=wS l,aG:=fun f=>l.any fun p=>Nat.beq p.1 f,bU:=AS pls}
def X2(fit:Fit P){ρ:Nat->Int}{pls:List (Nat×Nat×zf0)}{l:List (FuncId×qt×AV)}(J:AR P ρ l){f:FuncId}{r:AV}
 (i:vc k O=true) (h:HC P (X1 pls l) n m f O r=true):bF P ρ f O r:=X0 fit (nU ρ) (DE J) i h
def M1(P:Program):Bool:=P.funcs.all (fun z=>!(z.body.isSome&&z.name == "runtime.NumGoroutine"))&&P.follows .mixedOrders
def Fit.of(h:M1 P=true):Fit P:=by
 simp only[M1,cj]at h;refine⟨fun f z C hb=>?_,h.2⟩;have i:=h.1;rw[Ii]at i;have:=i z (by exact Array.mem_of_getElem? C);simpa [hb]using this
section
variable {H:Type} {enc:TypeId × Value -> H} {P:Program}
def X3{f:Func}{s:ChangeSpec}{apart m z C:Bool}{W M:World}{O:Array Value}{v:Value}{L g:List (DataW H)}{I pa pv:List MemPlace}
 (hW:DataW.Whole enc P f.params.toList s.vars apart W O.toList L g I)
 (Y:∀(b:Nat) (U:Nat->Bool) (hd:Bool),DataW.TrodAll enc P M b U hd f.resultTypes.toList (v.resultList f.resultTypes.size) (s.fn H (L++g)).results [])
 (J:∀U:Nat->Bool,(∀p∈I,U p.block=true)->DataW.TrodAll enc P M 0 U true f.params.toList O.toList (s.fn H (L++g)).args pa)
 (Z:∀U:Nat->Bool,(∀p∈I,U p.block=true)->DataW.TrodVars enc P M U s.vars (s.fn H (L++g)).vars pv)
 (i:I=pa++pv) (hb:Below W.heap.size W M)
 (hok:∀(j:Nat) (t:TypeId) (r:Value),f.resultTypes[j]?=some t->(v.resultList f.resultTypes.size)[j]?=some r->Value.okWide P M .any 0 t r) :
 s.post enc P f apart m z C W O v M:=by
 have hlt:∀p∈I,p.block<W.heap.size:=fun p hp=>hW.lt p hp;have V:∀p∈I,(fun b=>decide (b<W.heap.size)) p.block=true:=fun p hp=>by simpa using hlt p hp
 refine⟨L,g,I,[],pa,pv,hW,Y _ _ _,J _ V,Z _ V,World.keptBut_mono (fun p hp=>⟨hp,?_⟩) (hb.frame (·∈ I)),fun _=>?_⟩
 .rw[i,nR]at hp;exact Or.inr hp
 .obtain⟨_,_,_,_,_,hz,hn⟩:=hW;refine⟨hok,_,_,([]++pa)++pv,⟨[]++pa,pv,trodAll_append (J _ (fun _ _=>rfl)) (Y _ _ _),Z _ (fun _ _=>rfl),rfl,?_,?_⟩,?_⟩
  .intro b off hp;have hin:MemPlace.cell b off∈I:=by rw[i];simpa using hp
   rw[hb.frozen (hlt _ hin)];exact hz b off hin
  .intro ha;have:=hn ha;rw[i]at this;simpa using this
  .intro p hp _;rw[i];simpa using hp
end
open Go
def ey(ih ih':zd3->Res):Prop:=∀t,ih t≠.aQ->ih' t=ih t
section
variable {P:Program} {cfg:Cfg} {ih ih':zd3 -> Res}
def DF(h:ey ih ih'){f:FuncId}{op:Op}(I:eR P cfg ih f E H op≠.aQ):eR P cfg ih' f E H op=eR P cfg ih f E H op:=by
 unfold eR at *;split
 .rename_i c;unfold u5 at *;split
  .rename_i g hg;simp only[hg]at I;split
   .rename_i k J vs i Z;simp only[i,Z]at I;exact h _ I
   .rfl
  .rfl
  .rfl
 .rfl
theorem AT:lB P cfg ih f N Y (o::l) E H=match kN Y E o with
 |true=>match eR P cfg ih f E H o.op with
  | .val v H=>lS (lB P cfg ih f N Y l) H (gB N E o.dst v)
  |_=>.aQ
 |false=>lS (lB P cfg ih f N Y l) H (gB N E o.dst dK):=rfl
theorem DG(h:ey ih ih'){f N:Nat}{Y:qA}:∀{l:qA}{E:ax}{H:Hp},lB P cfg ih f N Y l E H≠.aQ->lB P cfg ih' f N Y l E H=lB P cfg ih f N Y l E H
 |[],_,_,_=>rfl
 |o::l,E,H,hn=>by
  rw[AT]at hn⊢;rw[AT];cases L:kN Y E o with
  |true=>
   simp only[L]at hn⊢;cases O:eR P cfg ih f E H o.op with
   |aQ=>simp[O]at hn
   |done x E1 H1=>simp[O]at hn
   |val v H1=>
    rw[DF h w7,O];simp only[O]at hn⊢;cases hp:gB N E o.dst v with
    |none=>rfl
    |some E1=>
     rw[hp]at hn;exact DG h hn
  |false=>
   simp only[L]at hn⊢;cases hp:gB N E o.dst dK with
   |none=>rfl
   |some E1=>
    rw[hp]at hn;exact DG h hn
theorem DH(h:ey ih ih'){f N:Nat}{Y:qA}:∀{l:qA}{E:ax}{H:Hp},kO P cfg ih f N Y l E H≠.aQ->kO P cfg ih' f N Y l E H=kO P cfg ih f N Y l E H
 |[],_,_,_=>rfl
 |o::l,E,H,hn=>by
  have J:∀{r:Rec}{x:zf7},rh r x≠.aQ->x≠.aQ:=fun{r x} z e=>z (by rw[e];rfl);simp only[kO]at hn⊢;cases L:kN Y E o with
  |true=>
   simp only[L]at hn⊢;cases O:eR P cfg ih f E H o.op with
   |aQ=>simp[O]at hn
   |done x E1 H1=>simp[O]at hn
   |val v H1=>
    rw[DF h w7,O];simp only[O]at hn⊢;cases hp:gB N E o.dst v with
    |none=>rfl
    |some E1=>
     rw[hp]at hn;have:=DH h (J hn);simp only[ri,this]
  |false=>
   simp only[L]at hn⊢;cases hp:gB N E o.dst dK with
   |none=>rfl
   |some E1=>
    rw[hp]at hn;have:=DH h (J hn);simp only[ri,this]
def M2(h:ey ih ih'){ops:qA}(I:oB P cfg ih f N ops E H≠.aQ):oB P cfg ih' f N ops E H=oB P cfg ih f N ops E H:=by
 unfold oB at *;split
 .rename_i hc;simp only[hc]at I;cases hr:kO P cfg ih f N ops ops E H with
  |aQ=>simp[hr]at I
  |done E1 H1 rs=>rw[DH h AI,hr]
 .rfl
theorem X4{ops:qA}{L M:Res}(h1:V≠.aQ->L=V)(h2:g≠.aQ->M=g)(I:wP ops V g≠.aQ):wP ops L M=wP ops V g:=by
 have Z:V≠.aQ:=fun e=>I (by rw[e];rfl);have i:g≠.aQ:=fun e=>I (by rw[e];unfold wP;split<;>simp_all);rw[h1 Z,h2 i]
theorem ID(h:ey ih ih'){f N:Nat}{E:ax}{H:Hp}:∀{I:zf0}{ops:qA},lA P cfg ih f N E H I ops≠.aQ->lA P cfg ih' f N E H I ops=lA P cfg ih f N E H I ops
 | .text,ops,hn=>M2 h hn
 | .bA ord,ops,hn=>by
   simp only[lA]at *;split
   .rename_i hp;simp only[hp]at hn;exact M2 h hn
   .rfl
 | .split p q a b,ops,hn=>by
   simp only[lA]at *;split
   .rfl
   .rename_i hp;simp only[hp]at hn;exact X4 (fun i=>ID h i) (fun g=>ID h g) hn
def IE(h:ey ih ih'){f:FuncId}(I:rm P ih f O H≠.aQ):rm P ih' f O H=rm P ih f O H:=by
 unfold rm at *;split
 .rename_i z C;simp only[C]at I;split
  .rename_i c hb;simp only[hb]at I;cases hr:ih (.aP f (max z.ntmps O.length) c (aW 0 O (wQ (max z.ntmps O.length))) H)with
   |aQ=>simp[hr]at I
   |val v H1=>rw[h _ AI,hr]
   |done x E1 H1=>rw[h _ AI,hr]
  .rfl
 .rfl
def X5(h:ey ih ih'){f:FuncId}(I:rp P cfg ih f O H≠.aQ):rp P cfg ih' f O H=rp P cfg ih f O H:=by
 unfold rp at *;split
 .rename_i C;simp only[C]at I;unfold An at *;split
  .rename_i Z H' M;simp only[M]at I;split
   .rfl
   .rename_i i;simp only[i]at I;exact IE h I
  .rename_i M;simp only[M]at I;exact IE h I
 .rename_i C;simp only[C]at I;exact IE h I
theorem M3(h:ey ih ih')(hr:r≠.aQ->V=r)(I:ro ih f N b r≠.aQ):ro ih' f N b V=ro ih f N b r:=by
 cases r with
 |aQ=>simp[ro]at I
 |val v H1=>rw[hr au];rfl
 |done x E1 H1=>
  rw[hr au];cases x with
  |normal=>exact h _ I
  |exit id=>rfl
  |ret=>rfl
theorem X6(h:ey ih ih')(I:step P cfg ih t≠.aQ):step P cfg ih' t=step P cfg ih t:=by
 cases t with
 |call f O H=>
  simp only[step]at *;split
  .rfl
  .rename_i hc;simp only[hc]at I;have z:rp P cfg ih f O H≠.aQ:=fun e=>I (by rw[e];unfold yu;split<;>simp_all);rw[X5 h z]
 |aP f N c E H=>
  cases c with
  |region id ops draw=>cases draw with
   |false=>exact DG h I
   |true=>exact ID h I
  |seq a b=>exact M3 h (h _) I
  |loop a=>exact M3 h (h _) I
  |cond x a b=>
   simp only[step]at *;unfold wR at *;split
   .rename_i hc;simp only[hc]at I;exact h _ I
   .rename_i hc;simp only[hc]at I;exact h _ I
   .rfl
  |block id a=>
   simp only[step]at *;cases hr:ih (.aP f N a E H)with
   |aQ=>simp[hr,pi]at I
   |val v H1=>rw[h _ AI,hr]
   |done x E1 H1=>rw[h _ AI,hr]
  |_=>rfl
theorem M4:∀n,ey (ek P cfg n) (ek P cfg (n+1))
 |0=>fun _ I=>(I rfl).elim
 |n+1=>fun _ I=>X6 (M4 n) I
def IF(O:n<=m)(I:ek P cfg n t≠.aQ):ek P cfg m t=ek P cfg n t:=by
 induction m with
 |zero=>rw[show n=0 by omega]
 |succ m ih=>
  by_cases h:n=m+1
  .rw[h]
  .have:=ih ac;rw[M4 m t (by rw[this];exact I),this]
def DI(O:n<=m)(h:ek P cfg n t=r)(hr:r≠.aQ):ek P cfg m t=r:=by
 rw[IF O (by rw[h];exact hr),h]
def dO(P:Program)(cfg:Cfg)(t:zd3)(r:Res):Prop:=r≠.aQ/\∃n,ek P cfg n t=r
def dO.step(hr:r≠.aQ)(h:Ab.step P cfg (ek P cfg n) t=r):dO P cfg t r:=⟨hr,n+1,h⟩
def lY:=@dO.step
section
variable {f N id:Nat} {a b:Code} {x:Operand} {E E1:ax} {H H1:Hp} {r:Res} {ex:AX}
def dO.seq(h1:dO P cfg (.aP f N a E H) (.done .normal E1 H1))(h2:dO P cfg (.aP f N b E1 H1) r):dO P cfg (.aP f N (.seq a b) E H) r:=by
 obtain⟨_,n,h1⟩:=h1;obtain⟨hr,m,h2⟩:=h2;refine lY hr (n:=max n m) ?_;show ro (ek P cfg (max n m)) f N b (ek P cfg (max n m) (.aP f N a E H))=r;rw[DI (Dz n m) h1 au];exact DI (DA n m) h2 hr
theorem M5(h1:dO P cfg (.aP f N a E H) (.done ex E1 H1))(z:ex≠.normal):dO P cfg (.aP f N (.seq a b) E H) (.done ex E1 H1):=by
 obtain⟨hr,n,h1⟩:=h1;refine lY hr (n:=n) ?_;show ro (ek P cfg n) f N b (ek P cfg n (.aP f N a E H))=_;rw[h1];cases ex with
 |normal=>exact(z rfl).elim
 |exit id=>rfl
 |ret=>rfl
def dO.loop(h1:dO P cfg (.aP f N a E H) (.done .normal E1 H1))(h2:dO P cfg (.aP f N (.loop a) E1 H1) r):dO P cfg (.aP f N (.loop a) E H) r:=by
 obtain⟨_,n,h1⟩:=h1;obtain⟨hr,m,h2⟩:=h2;refine lY hr (n:=max n m) ?_;show ro (ek P cfg (max n m)) f N (.loop a) (ek P cfg (max n m) (.aP f N a E H))=r;rw[DI (Dz n m) h1 au];exact DI (DA n m) h2 hr
theorem M6(h1:dO P cfg (.aP f N a E H) (.done ex E1 H1))(z:ex≠.normal):dO P cfg (.aP f N (.loop a) E H) (.done ex E1 H1):=by
 obtain⟨hr,n,h1⟩:=h1;refine lY hr (n:=n) ?_;show ro (ek P cfg n) f N (.loop a) (ek P cfg n (.aP f N a E H))=_;rw[h1];cases ex with
 |normal=>exact(z rfl).elim
 |exit id=>rfl
 |ret=>rfl
def X7(z:aS E x=some (.bool true))(h:dO P cfg (.aP f N a E H) r):dO P cfg (.aP f N (.cond x a b) E H) r:=by
 obtain⟨hr,n,h⟩:=h;refine lY hr (n:=n) ?_;show wR (ek P cfg n) f N x a b E H=r;unfold wR;rw[z];exact h
def X8(z:aS E x=some (.bool false))(h:dO P cfg (.aP f N b E H) r):dO P cfg (.aP f N (.cond x a b) E H) r:=by
 obtain⟨hr,n,h⟩:=h;refine lY hr (n:=n) ?_;show wR (ek P cfg n) f N x a b E H=r;unfold wR;rw[z];exact h
def dO.block(h:dO P cfg (.aP f N a E H) (.done (.exit id) E1 H1)):dO P cfg (.aP f N (.block id a) E H) (.done .normal E1 H1):=by
 obtain⟨hr,n,h⟩:=h;refine lY au (n:=n) ?_;show pi id (ek P cfg n (.aP f N a E H))=_;rw[h];simp[pi]
theorem X9(h:dO P cfg (.aP f N a E H) (.done .normal E1 H1)):dO P cfg (.aP f N (.block id a) E H) (.done .normal E1 H1):=by
 obtain⟨hr,n,h⟩:=h;refine lY au (n:=n) ?_;show pi id (ek P cfg n (.aP f N a E H))=_;rw[h];rfl
theorem Ya(h:dO P cfg (.aP f N a E H) (.done .ret E1 H1)):dO P cfg (.aP f N (.block id a) E H) (.done .ret E1 H1):=by
 obtain⟨hr,n,h⟩:=h;refine lY au (n:=n) ?_;show pi id (ek P cfg n (.aP f N a E H))=_;rw[h];rfl
def Yb{Y:Nat}(m:Nat.beq Y id=false)(h:dO P cfg (.aP f N a E H) (.done (.exit Y) E1 H1)):dO P cfg (.aP f N (.block id a) E H) (.done (.exit Y) E1 H1):=by
 obtain⟨hr,n,h⟩:=h;refine lY au (n:=n) ?_;show pi id (ek P cfg n (.aP f N a E H))=_;rw[h];simp only[pi,m]
theorem dO.skip:dO P cfg (.aP f N .skip E H) (.done .normal E H):=lY au (n:=0) rfl
theorem dO.exit:dO P cfg (.aP f N (.exit id) E H) (.done (.exit id) E H):=lY au (n:=0) rfl
theorem dO.ret:dO P cfg (.aP f N .ret E H) (.done .ret E H):=lY au (n:=0) rfl
def dO.region(h:lB P cfg (ek P cfg n) f N ops.toList ops.toList E H=r)(hr:r≠.aQ):dO P cfg (.aP f N (.region id ops false) E H) r:=lY hr (n:=n) h
def dO.bT(h:lA P cfg (ek P cfg n) f N E H (cfg.bU f id) ops.toList=r)(hr:r≠.aQ):dO P cfg (.aP f N (.region id ops true) E H) r:=lY hr (n:=n) h
def dO.call(j:cfg.call f O=none)(C:cfg.aG f=false)(I:cfg.az f=false)(Z:P.funcs[f]?=some z)(hb:z.body=some c)
 (h:dO P cfg (.aP f (max z.ntmps O.length) c (aW 0 O (wQ (max z.ntmps O.length))) H) (.done ex E1 H1)) (Y:ex=.normal\/ex=.ret) (J:yr P z.results.toList E1 H1=.val v H1):dO P cfg (.call f O H) (.val v H1):=by
 obtain⟨_,n,h⟩:=h;refine lY au (n:=n) ?_;simp only[Ab.step,j,C,I,rp,yu];unfold rm;simp only[Z,hb,h];rcases Y with rfl|rfl<;>exact J
end
end
end Go.Ab
