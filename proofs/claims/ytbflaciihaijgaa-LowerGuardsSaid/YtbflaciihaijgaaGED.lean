/- Lemmas for the last file. -/
import Derived.Below
import Derived.ChangeSame
import Derived.Orders
import Derived.Test.YtbflaciihaijgaaGEC
set_option linter.all false
set_option maxHeartbeats 32000000
namespace Go.Ab
set_option maxRecDepth 20000
open Go
variable{qd:Prop}
def fQ(h:qd:=by simpa using h):=h
def xl(h:qd:=by simpa using z):=h
def mC(h:qd:=by rw[e]):=h
def jk(h:qd:=by simp at h):=h
def DN(h:qd:=by rw[I.size];exact(List.getElem?_eq_some_iff.1 O).1):=h
def DO(h:qd:=by rw[hs];have:=(List.getElem?_eq_some_iff.1 I).1;simpa using this):=h
def AH(h:qd:=by rw[List.length_drop];omega):=h
def DP(h:qd:=by rw[List.length_take,List.length_drop];omega):=h
def vc(h:qd:=by rw[hr];simp):=h
def eK:=@List.mem_cons
def ow:=@List.mem_append
def AI:=@List.mem_flatMap
def lI:=@List.mem_range
def nh:=@Bool.not_true
def jC:=@Bool.false_or
def pC:=@List.mem_filter
def nr:=@Array.getElem?_eq_getElem
def pD:=@Bool.not_eq_true'
def AJ:=@Array.all_eq_true_iff_forall_mem
def jl:=@Bool.or_eq_true
def lJ:=@List.mem_map
def ve:=@Nat.lt_or_ge
def AK:=@Array.getElem?_eq_none
def xm:=@List.any_eq_false
def xn:=@Nat.lt_trichotomy
def vh:=@List.eq_nil_iff_forall_not_mem
def jm:=@List.getElem?_eq_none
def DQ:=@Array.getElem?_replicate
def tt:=@Bool.true_or
def eL:=@List.mem_cons_self
def fR:=@List.mem_cons_of_mem
def mD:=@List.map_append
def DR:=@Option.isSome_iff_exists
def AL:=@List.mem_iff_getElem?
def ox:=@Bool.and_self
def xo:=@Nat.one_mul
def kI:=@true_and
def xp:=@Nat.le_max_left
def xq:=@Nat.le_max_right
end Go.Ab
namespace Go.Ab
set_option maxRecDepth 20000
open Go Go.RowKit
variable{i j f N W m n q p k:Nat}{l I:qo}{o J:Oper}{D:Nat->Prop}{ops:qG}{V y:qB}{ih:zac->Res}{E0 E' O E:ax}{H' H:Hp}{rs:List Rec}{G G0:Gh}{a:Act}{t:zac}{Y:Res}{w w' w0:World}{Q:Exit->Act->World->Prop}{x:AX}{P:Program}{L:qu}{M:Func}{C:ql}{v:Value}{r:AV}{vs:qt}{b c:Code}{cfg:Cfg}
theorem AM{i:Nat}:∀{l O:qu},i∈tc O l↔i∈O\/i∈l
 |[],O=>by simp[tc]
 |x::xs,O=>by
  simp only[tc];split
  .rename_i h;have Z:x∈O:=fQ;rw[AM,eK];exact⟨fun h=>h.elim .inl (fun h=>.inr (.inr h)),fun h=>h.elim .inl (fun h=>h.elim (fun e=>.inl (by subst e;exact Z)) .inr)⟩
  .rw[AM,eK,eK];exact⟨fun h=>h.elim (fun h=>h.elim (fun e=>.inr (.inl e)) .inl) (fun h=>.inr (.inr h)),fun h=>h.elim (fun h=>.inl (.inr h)) (fun h=>h.elim (fun e=>.inl (.inl e)) .inr)⟩
def LV{l:qu}:i∈uO l↔i∈l:=by unfold uO;rw[AM];simp
theorem AN:∀(l:qo) (O:List qu) (i:Nat),i<O.length->(fh l O).getD i []=O.getD i []
 |[],O,i,_=>rfl
 |o::l,O,i,h=>by
  simp only[fh];rw[AN l _ i co];simp[List.getD,kC h]
theorem DS:∀(l:qo) (O:List qu) (j:Nat) (o:Oper),l[j]?=some o ->
 ∃M:List qu,M.length=O.length+j/\(∀i,i<M.length->(fh l O).getD i []=M.getD i [])/\(fh l O).getD (O.length+j) []=uO (preds o++(preds o).flatMap fun i=>M.getD i [])
 |[],_,_,_,h=>by simp at h
 |o::l,O,0,o',h=>by
  simp at h;subst h;refine⟨O,rfl,fun i J=>AN _ _ i J,?_⟩;simp only[fh,kE];rw[AN l _ O.length aE];simp[List.getD]
 |o::l,O,j+1,o',h=>by
  obtain⟨M,Z,m,I⟩:=DS l (O++[uO (preds o++(preds o).flatMap fun i=>O.getD i [])]) j o' fQ;simp only[em,cy,fP]at Z I;refine⟨M,ac,m,?_⟩;simp only[fh];rw[show O.length+(j+1)=O.length+(0+1)+j by omega];exact I
def LW(Y:l[j]?=some o)(V:∀p∈preds o,p<j):
 i∈(fh l []).getD j []↔i∈preds o\/∃p∈preds o,i∈(fh l []).getD p []:=by
 obtain⟨M,Z,m,I⟩:=DS l [] j o Y;simp only[fP,bX]at Z I;rw[I,LV,ow,AI];constructor
 .rintro(h|⟨p,J,O⟩)
  .exact .inl h
  .exact .inr ⟨p,J,by rw[m p (by rw[Z];exact V p J)];exact O⟩
 .rintro(h|⟨p,J,O⟩)
  .exact .inl h
  .exact .inr ⟨p,J,by rw[<-m p (by rw[Z];exact V p J)];exact O⟩
structure zas (l:qo):Prop where
 lt:∀j o,l[j]?=some o->∀p∈preds o,p<j
 guard:∀j o g b,l[j]?=some o->o.guard=some (g,b)->g∈(fh l []).getD j []
 clash:∀i j p q,i<j->l[i]?=some p->l[j]?=some q->Ab.clash l p q=true->i∈(fh l []).getD j []
def LX(h:mX l=true):zas l:=by
 unfold mX at h;simp only[gk,lI]at h;have C:∀j o,l[j]?=some o->(∀p∈preds o,p<j)/\(∀g b,o.guard=some (g,b)->g∈(fh l []).getD j [])/\∀i p,i<j->l[i]?=some p->Ab.clash l p o=true->i∈(fh l []).getD j []:=fun j o I=>by
  have:=h j (dx.1 I).1;rw[I]at this;simp only[ca,gk,ji,lI]at this;obtain⟨⟨Y,m⟩,W⟩:=this;refine⟨Y,fun g b L=>?_,fun i p J hp hc=>?_⟩
  .rw[L]at m;simpa using m
  .have:=W i J;rw[hp]at this;simp only[hc,nh,jC]at this;simpa using this
 exact⟨fun j o I=>(C j o I).1,fun j o g b I=>(C j o I).2.1 g b,fun i j p q U J Z=>(C j q Z).2.2 i p U J⟩
def AO(L:zas l)(Y:∀j,D j->∀o,l[j]?=some o->∀p∈preds o,D p):
 ∀(j:Nat) o,l[j]?=some o->(∀p∈preds o,D p)->∀i∈(fh l []).getD j [],D i:=by
 intro j;induction j using Nat.strongRecOn with
 |_ j ih=>
  intro o I hp i V;rcases(LW I (L.lt j o I)).1 V with h|⟨p,J,O⟩
  .exact hp i h
  .have Z:=L.lt j o I p J;have M:=(dx.1 I).1;have U:l[p]?=some (l[p]' ac):=bc ac;exact ih p Z _ U (fun q W=>Y p (hp p J) _ U q W) i O
def lK:i∈gJ l↔∃o,l[i]?=some o/\jT o=true:=by
 unfold gJ;rw[pC,lI];constructor
 .rintro⟨Z,m⟩;rw[bc Z]at m;exact⟨_,bc Z,m⟩
 .rintro⟨o,Z,m⟩;exact⟨(dx.1 Z).1,by rw[Z];exact m⟩
def jn:i∈Region.ready .any ops V↔∃o,ops.toList[i]?=some o/\V.getD i true=false/\∀p∈preds o,V.getD p false=true:=by
 unfold Region.ready preds;rw[pC,lI,u6];constructor
 .rintro⟨Z,m⟩;rw[nr Z]at m;simp only[ca,pD,iG,bK,AJ,jl]at m;refine⟨_,nr Z,m.1,fun p hp=>?_⟩;simp only[lJ,pC]at hp;obtain⟨e,⟨Y,M⟩,rfl⟩:=hp;rcases m.2 e pr with h|h
  .rw[M]at h;simp at h
  .exact h
 .rintro⟨o,Z,m,I⟩;have J:i<ops.size:=by
   rcases ve i ops.size with h|h
   .exact h
   .rw[AK h]at Z;simp at Z
  refine⟨J,?_⟩;rw[Z];simp only[ca,pD,iG,bK,AJ,jl];refine⟨m,fun e z=>?_⟩;cases C:Region.binds .any e with
  |false=>exact .inl rfl
  |true=>exact .inr (I e.on (by simp only[lJ,pC];exact⟨e,⟨xl,C⟩,rfl⟩))
theorem AP{l:qo}:∀(k s:Nat),s+k=l.length->∃m,s<=m/\m<=l.length/\(m=l.length\/m∈gJ l)/\∀j,s<=j->j<m->j∉gJ l
 |0,s,hs=>⟨s,az _,ac,.inl ac,fun j o Z=>ac⟩
 |k+1,s,hs=>by
  by_cases h:s∈gJ l
  .exact⟨s,az _,ac,.inr h,fun j o Z=>ac⟩
  .obtain⟨m,o,Z,I,Y⟩:=AP (l:=l) k (s+1) ac;refine⟨m,ac,Z,I,fun j W M=>?_⟩;by_cases e:j=s
   .subst e;exact h
   .exact Y j ac M
section
variable {P:Program} {B:Bs} {cfg:Cfg}
structure Ctx (P:Program) (cfg:Cfg) (ih:zac->Res) (f N:Nat) (l:qo) (E0:ax) (bE:Hp) (E':ax) (H':Hp) (rs:List Rec):Prop where
 calm:zas l
 len:rs.length=l.length
 dm:∀(i:Nat) (r:Rec),rs[i]?=some r->∃o,l[i]?=some o/\AtD P cfg ih f N l o r (ep rs E' i) (ep rs E' (i+1)) (bY rs H' i) (bY rs H' (i+1))
 zeroE:ep rs E' 0=E0
 dD:bY rs H' 0=bE
 next:∀i,i<l.length->(bY rs H' i).next<=(bY rs H' (i+1)).next
 cn:∀(i:Nat) (r:Rec),rs[i]?=some r->r.did=true->∀m,(m∈gJ l\/m=l.length)->(∀e∈gJ l,e∈(fh l []).getD i []->e<m)->(∀e∈gJ l,i∈(fh l []).getD e []->m<=e) ->
  zcm P cfg r (bY rs H' m)=true
def LY{bE:Hp}(hc:mX l=true)(hr:gI P cfg ih f N l l E0 bE=.done E' H' rs)(I:rD P cfg (lx l) rs H'=true):
 Ctx P cfg ih f N l E0 bE E' H' rs:=by
 have W:=vb hr;obtain⟨z1,z2⟩:=AE W;have Y:=AD W;unfold rD at I;simp only[ca,gk]at I;refine⟨LX hc,Y,fun i r J=>rR W J,z1,z2,fun i J=>?_,fun i r J hd m hm h1 h2=>?_⟩
 .have hi':i<rs.length:=by omega
  have V:=bc hi';obtain⟨o,_,C⟩:=rR W V;have h3:=u4 (I.1 _ (pA V));rw[C.eH,C.eH']at h3;exact h3
 .obtain⟨o,ho,C⟩:=rR W J;have U:wU (fh l []) (gJ l) i m=true:=by
   unfold wU;simp only[pD,ig,xm,ca,not_and];refine⟨fun e he hA hle=>?_,fun e he hA hlt=>?_⟩
   .have:=h1 e he (by simpa using hA);have:=u4 hle;omega
   .have:=h2 e he (by simpa using hA);have:e<m:=by simpa [hZ]using hlt
    omega
  have O:∀k,eB o.op=k->(k=.read\/k=.make)->(i,m)∈lx l:=fun k z hor=>by
   unfold lx;rw[AI];refine⟨i,lI.2 (dx.1 ho).1,?_⟩;rw[ho];have M:(i,m)∈((gJ l++[l.length]).filter (wU (fh l []) (gJ l) i)).map fun m=>(i,m):=
    lJ.2 ⟨m,pC.2 ⟨by simpa using hm,U⟩,rfl⟩
   rcases hor with rfl|rfl<;>simp only[z]<;>exact M
  have Z:(i,m)∈lx l->zcm P cfg r (bY rs H' m)=true:=fun h=>by
   have:=I.2 _ h;simp only[J,hd,nh,jC]at this;exact this
  have L:r.o=o:=C.eo;cases z:eB o.op with
  |read=>exact Z (O _ z (.inl rfl))
  |make=>exact Z (O _ z (.inr rfl))
  |calm=>unfold zcm;rw[L,z]
  |cO=>unfold zcm;rw[L,z]
section
variable {ih:zac -> Res} {f N:Nat} {ops:qG} {E0 E':ax} {bE H':Hp} {rs:List Rec} (cx:Ctx P cfg ih f N ops.toList E0 bE E' H' rs)
include cx
def Ctx.cl(I:ops.toList[i]?=some o):∃r,rs[i]?=some r/\AtD P cfg ih f N ops.toList o r (ep rs E' i) (ep rs E' (i+1)) (bY rs H' i) (bY rs H' (i+1)):=by
 have J:i<rs.length:=by rw[cx.len];exact(dx.1 I).1
 obtain⟨Y,Z,m⟩:=cx.dm i _ (bc J);rw[I]at Z;simp only[aC]at Z;subst Z;exact⟨_,bc J,m⟩
theorem Ctx.d8:∀(d s:Nat),s+d<=ops.toList.length->(∀j,s<=j->j<s+d->j∉gJ ops.toList) ->
 (bY rs H' s).next<=(bY rs H' (s+d)).next/\∀r,r<(bY rs H' s).next->(bY rs H' (s+d)).get r=(bY rs H' s).get r
 |0,s,_,_=>⟨az _,fun _ _=>rfl⟩
 |d+1,s,hs,hn=>by
  obtain⟨o,m⟩:=Ctx.d8 d s ac (fun j I M=>hn j I ac);have O:s+d<ops.toList.length:=ac;obtain⟨r,hr,J⟩:=cx.cl (bc O);have Y:jT (ops.toList[s+d])=false:=by
   cases Z:jT (ops.toList[s+d])with
   |false=>rfl
   |true=>exact(hn (s+d) ac ac (lK.2 ⟨_,bc O,Z⟩)).elim
  have L:bY rs H' (s+d+1)=bY rs H' (s+d)\/∃W,bY rs H' (s+d+1)=(bY rs H' (s+d)).alloc W:=by
   cases hd:r.did with
   |true=>exact LU Y (J.dE hd)
   |false=>exact .inl (J.no hd).2
  rw[show s+(d+1)=s+d+1 by omega];rcases L with e|⟨W,e⟩
  .rw[e];exact⟨o,m⟩
  .rw[e];refine⟨co,fun k z=>?_⟩;rw[aJ,ao ac];exact m k z
theorem Ctx.bh:∀(d s:Nat),s+d<=ops.toList.length->(bY rs H' s).next<=(bY rs H' (s+d)).next
 |0,_,_=>az _
 |d+1,s,hs=>dq (Ctx.bh d s ac) (by rw[show s+(d+1)=s+d+1 by omega];exact cx.next _ ac)
theorem Ctx.cR(t:Nat):∀s,s<=ops.toList.length ->
 (∃(i:Nat) (r:Rec) (o:Oper),i<s/\rs[i]?=some r/\ops.toList[i]?=some o/\o.dst=some t/\(∀(j:Nat) (J:Oper),j<s->ops.toList[j]?=some J->J.dst=some t->j<=i)/\(ep rs E' s).at t=r.val) \/
 ((∀(j:Nat) (J:Oper),j<s->ops.toList[j]?=some J->J.dst≠some t)/\(ep rs E' s).at t=E0.at t)
 |0,_=>.inr ⟨fun j J Y=>ac,by rw[cx.zeroE]⟩
 |s+1,hs=>by
  have I:ops.toList[s]?=some (ops.toList[s]' ac):=bc ac;obtain⟨r,hr,z⟩:=cx.cl I;have M:=z.put;have W:=Ctx.cR t s ac;by_cases hd:(ops.toList[s]' ac).dst=some t
  .refine .inl ⟨s,r,_,ac,hr,I,hd,fun j J Y _ _=>ac,?_⟩;rw[hd]at M;simp only[dH]at M;split at M
   .simp only[aC]at M;rw[<-M,tj,aB rfl]
   .simp at M
  .have Z:(ep rs E' (s+1)).at t=(ep rs E' s).at t:=by
    cases O:(ops.toList[s]' ac).dst with
    |none=>
     rw[O]at M;simp only[dH,aC]at M;rw[<-M]
    |some d=>
     rw[O]at M hd;simp only[dH]at M;split at M
     .simp only[aC]at M;rw[<-M,tj,ao (fun e=>hd mC)]
     .simp at M
   rw[Z];rcases W with⟨i,r',J,C,U,h3,h4,h5,h6⟩|⟨C,U⟩
   .refine .inl ⟨i,r',J,ac,U,h3,h4,fun j m Y V L=>?_,h6⟩;by_cases e:j=s
    .subst e;rw[I]at V;simp only[aC]at V;subst V;exact(hd L).elim
    .exact h5 j m ac V L
   .refine .inr ⟨fun j J Y V=>?_,U⟩;by_cases e:j=s
    .subst e;rw[I]at V;simp only[aC]at V;subst V;exact hd
    .exact C j J ac V
end
def ed(V:qB)(j:Nat):Prop:=V.getD j false=true
def tu(rs:List Rec)(l:qo)(W:ax)(D:Nat->Prop)(G:Gh)(a:Act):Prop:=∀t,
 (∃(i:Nat) (r:Rec) (o:Oper),D i/\rs[i]?=some r/\l[i]?=some o/\o.dst=some t/\(∀(j:Nat) (J:Oper),D j->l[j]?=some J->J.dst=some t->j<=i)/\VR G r.val (a.tmps.getD t undef)) \/
 ((∀(j:Nat) (J:Oper),D j->l[j]?=some J->J.dst≠some t)/\VR G (W.at t) (a.tmps.getD t undef))
def tu.dt{bE:Hp}(cx:Ctx P cfg ih f N ops.toList E0 bE E' H' rs)(hs:tu rs ops.toList E0 D G a){t s:Nat}
 (V:s<=ops.toList.length) (Y:∀(j:Nat) (o:Oper),ops.toList[j]?=some o->o.dst=some t->(D j↔j<s)):VR G ((ep rs E' s).at t) (a.tmps.getD t undef):=by
 rcases cx.cR t s V with⟨i,r,o,O,L,C,z,h5,h6⟩|⟨O,L⟩
 .rw[h6];have W:=(Y i o C z).2 O;rcases hs t with⟨m,r',J,U,M,I,Z,g5,g6⟩|⟨U,_⟩
  .have e1:=h5 m J ((Y m J I Z).1 U) I Z;have e2:=g5 i o W C z;have:m=i:=ac;subst this;rw[L]at M;simp only[aC]at M;subst M;exact g6
  .exact(U i o W C z).elim
 .rw[L];rcases hs t with⟨m,r',J,U,M,I,Z,g5,g6⟩|⟨_,M⟩
  .exact(O m J ((Y m J I Z).1 U) I Z).elim
  .exact M
structure InvD (rs:List Rec) (l:qo) (N:Nat) (B:Bs) (nx0:Nat) (E0:ax) (H':Hp) (G0:Gh) (w0:World) (listed:qB) (a:Act) (w:World) (m:Nat) (G:Gh):Prop where
 size:listed.size=l.length
 bQ:∀j,ed listed j->∀o,l[j]?=some o->∀p∈preds o,ed listed p
 le:m<=l.length
 cO:m=l.length\/m∈gJ l
 bO:¬ed listed m
 dz:∀e∈gJ l,e<m->ed listed e
 step:Step B nx0 G0 w0 (bY rs H' m) w G
 bS:∀r p,G.β r=some p->r<nx0\/∃j,ed listed j/\j<l.length/\(bY rs H' j).next<=r/\r<(bY rs H' (j+1)).next
 bp:tu rs l E0 (ed listed) G a
 frame:a.tmps.size=N
 defers:a.defers=[]
def ed.set(J:i<V.size)(j:Nat):ed (V.setIfInBounds i true) j↔j=i\/ed V j:=by
 unfold ed;rw[gN,gN,rI];by_cases e:i=j
 .subst e;simp[J]
 .rw[ao e];constructor
  .exact fun h=>.inr h
  .rintro(h|h)
   .exact(e h.symm).elim
   .exact h
def jD:=@ed.set
theorem tu.put{rs:List Rec}{l:qo}{E0:ax}{V:qB}{G M:Gh}{a:Act}(hs:tu rs l E0 (ed V) G a)(he:Ext G M){i:Nat}(U:i<V.size){o:Oper}(C:l[i]?=some o){r:Rec}(hr:rs[i]?=some r)
 {v:Value} (hv:VR M r.val v) (hd:∀d,o.dst=some d->d<a.tmps.size/\∀(j:Nat) (J:Oper),ed V j->l[j]?=some J->J.dst=some d->j<=i):tu rs l E0 (ed (V.setIfInBounds i true)) M (a.put o.dst v):=by
 intro t;by_cases Y:o.dst=some t
 .obtain⟨h1,h2⟩:=hd t Y;refine .inl ⟨i,r,o,(jD U i).2 (.inl rfl),hr,C,Y,fun j J I Z L=>?_,?_⟩
  .rcases(jD U j).1 I with e|I
   .omega
   .exact h2 j J I Z L
  .rw[Y];simp only[Act.put];simpa [Array.getD,h1]using hv
 .have W:(a.put o.dst v).tmps.getD t undef=a.tmps.getD t undef:=by
   cases O:o.dst with
   |none=>rfl
   |some d=>
    rw[O]at Y;have hne:d≠t:=fun e=>Y mC;simp only[Act.put,gN,rI];rw[ao hne]
  rw[W];rcases hs t with⟨i',r',J,z,g2,g3,g4,g5,g6⟩|⟨z,g2⟩
  .refine .inl ⟨i',r',J,(jD U i').2 (.inr z),g2,g3,g4,fun j m I Z L=>?_,g6.mono he⟩;rcases(jD U j).1 I with e|I
   .subst e;rw[C]at Z;simp only[aC]at Z;subst Z;exact(Y L).elim
   .exact g5 j m I Z L
  .refine .inr ⟨fun j J I Z L=>?_,g2.mono he⟩;rcases(jD U j).1 I with e|I
   .subst e;rw[C]at Z;simp only[aC]at Z;subst Z;exact(Y L).elim
   .exact z j J I Z L
def AQ{t:Nat}:t∈pm I o↔o.dst=some t\/(Operand.tmp t)∈o.op.operands.toList\/∃g b J,o.guard=some (g,b)/\I[g]?=some J/\J.dst=some t:=by
 unfold pm Db;simp only[ow,Option.mem_toList,List.mem_filterMap];constructor
 .rintro((h|⟨x,O,h⟩)|h)
  .exact .inl h
  .cases x<;>simp at h;subst h;exact .inr (.inl O)
  .cases L:o.guard with
   |none=>rw[L]at h;simp at h
   |some p=>
    obtain⟨g,b⟩:=p;rw[L]at h;simp only[Option.mem_toList,bT]at h;obtain⟨J,Z,m⟩:=h;exact .inr (.inr ⟨g,b,J,rfl,Z,m⟩)
 .rintro(h|h|⟨g,b,J,Z,m,Y⟩)
  .exact .inl (.inl h)
  .exact .inl (.inr ⟨_,h,rfl⟩)
  .refine .inr ?_;rw[Z];simp[m,Y]
def DT{p q:Oper}{d:Nat}(h:(p.dst=some d/\d∈pm I q)\/(q.dst=some d/\d∈pm I p)):Ab.clash I p q=true:=by
 unfold Ab.clash;rcases h with⟨o,m⟩|⟨o,m⟩
 .rw[o];simp[m]
 .rw[o];simp[m]
def Step.cQ{Y:Hp}{V M:Gh}{O:World}(h:Step B W G w H' w' V)(k:Step B W V w' Y O M):Step B W G w Y O M:=
 ⟨k.r,h.ext.trans k.ext,h.fr.trans k.fr h.new,h.new.trans k.new h.fr.size,fun r p hr=>by
  rcases k.bS r p hr with Z|Z
  .exact h.bS r p Z
  .exact .inr Z,k.mono,fun b o v U=>by
  rcases k.dj b o v U with Z|Z
  .exact h.dj b o v Z
  .exact .inr Z⟩
def Step.ci{O:Gh}(h:Step B W G w H' w' O)(M:m<=W):Step B m G w H' w' O:=
 ⟨h.r,h.ext,h.fr,h.new,fun r p hr=>(h.bS r p hr).imp id (fun e=>dq M e),dq M h.mono,h.dj⟩
def Snd.aM(P:Program)(B:Bs):Snd P B 0 (fun _=>.aM):=
 ⟨fun _ _ _ _ _ h=>jk,fun _ _ _ _ _ _ _ _ h=>jk,fun _ _ _ _ _ _ _ _ h=>jk⟩
def LZ(fit:Fit P)(hih:Snd P B n ih){nx0:Nat}{bE:Hp}(cx:Ctx P B.bN ih f N ops.toList E0 bE E' H' rs)(hnx:bE.next=nx0)
  (I:InvD rs ops.toList N B nx0 E0 H' G0 w0 V a w m G)  (hi:i∈Region.ready .any ops V) {K:Act->World->Prop}
 (hK:∀a' w' m' G',InvD rs ops.toList N B nx0 E0 H' G0 w0 (V.setIfInBounds i true) a' w' m' G'->K a' w'):wpOp P ops Q i K a w:=by
 obtain⟨o,ho,hun,hpr⟩:=jn.1 hi;obtain⟨r,hr,ha⟩:=cx.cl ho;have hil:i<ops.toList.length:=(dx.1 ho).1;have U:i<V.size:=by rw[I.size];exact hil
 have hnot:¬ed V i:=fun hd=>by
  unfold ed at hd;rw[gN,nr U]at hd;rw[gN,nr U]at hun;simp only[bK]at hd hun;rw[hd]at hun;simp at hun
 -- what comes before i is done;what comes behind it is not
 have M:∀j∈(fh ops.toList []).getD i [],ed V j:=AO cx.calm I.bQ i o ho hpr;have hbehind:∀j,ed V j->∀oj,ops.toList[j]?=some oj->i∉(fh ops.toList []).getD j []:=fun j hj oj z hm=>
  hnot (AO cx.calm I.bQ j oj z (I.bQ j hj oj z) i hm)
 -- the writers of the slots that i names
 have hagree:∀t∈pm ops.toList o,∀(j:Nat) (oj:Oper),ops.toList[j]?=some oj->oj.dst=some t->(ed V j↔j<i):=fun t ht j oj z hjd=>by
  constructor
  .intro hj;rcases xn j i with h|h|h
   .exact h
   .subst h;exact(hnot hj).elim
   .exact(hbehind j hj oj z (cx.calm.clash i j o oj h ho z (DT (.inr ⟨hjd,ht⟩)))).elim
  .intro hj;exact M j (cx.calm.clash j i oj o hj z ho (DT (.inl ⟨hjd,ht⟩)))
 have hslot:∀t∈pm ops.toList o,VR G ((ep rs E' i).at t) (a.tmps.getD t undef):=fun t ht=>I.bp.dt cx (Nat.le_of_lt hil) (hagree t ht);have J:rQ G (ep rs E' i) a o.op.operands:=fun x hx c hc=>by
  cases x with
  |tmp t=>simp only[aH,aC]at hc;subst hc;exact hslot t (AQ.2 (.inr (.inl (by simpa using hx))))
  |const v=>exact tk hc
  |global g=>simp[aH]at hc
  |func f=>simp only[aH,aC]at hc;subst hc;exact .a9 (vs:=[]) rfl aE
 have hwant:=DK (G:=G) (E:=ep rs E' i) (a:=a) (ops:=ops) (o:=o) (fun g b d hg hd=>by
  simp only[bT]at hd;obtain⟨o',h1,h2⟩:=hd;exact hslot d (AQ.2 (.inr (.inr ⟨g,b,o',hg,by rw[u6];exact h1,h2⟩))))
 have hdst:∀d,o.dst=some d->d<a.tmps.size/\∀(j:Nat) (o':Oper),ed V j->ops.toList[j]?=some o'->o'.dst=some d->j<=i:=fun d hd=>by
  refine⟨?_,fun j o' hj hjo hjd=>Nat.le_of_lt ((hagree d (AQ.2 (.inl hd)) j o' hjo hjd).1 hj)⟩;have hp:=ha.put;rw[hd]at hp;simp only[dH]at hp;split at hp
  .rename_i hb;rw[I.frame];simpa [hZ]using hb
  .simp at hp
 have hclosed':∀j,ed (V.setIfInBounds i true) j->∀oj,ops.toList[j]?=some oj->∀p∈preds oj,ed (V.setIfInBounds i true) p:=fun j hj oj z p hp=>by
  rcases(jD U j).1 hj with rfl|hj
  .rw[ho]at z;simp only[aC]at z;subst z;exact(jD U p).2 (.inr (hpr p hp))
  .exact(jD U p).2 (.inr (I.bQ j hj oj z p hp))
 -- an act comes up in its turn
 have hturn:jT o=true->i=m:=fun hact=>by
  have O:i∈gJ ops.toList:=lK.2 ⟨o,ho,hact⟩;rcases xn i m with h|h|h
  .exact(hnot (I.dz i O h)).elim
  .exact h
  .rcases I.cO with e|e
   .omega
   .obtain⟨om,L,C⟩:=lK.1 e;exact(I.bO (M m (cx.calm.clash m i om o h L ho (by unfold Ab.clash;simp[hact,C])))).elim
 -- how the invariant goes on
 have hfin:∀(v:Value) (w':World) (G':Gh) (X:Hp),VR G' r.val v->Step B nx0 G w X w' G' ->
  (∀k p,G'.β k=some p->G.β k=some p\/((bY rs H' i).next<=k/\k<(bY rs H' (i+1)).next)) ->
  ((i≠m/\X=bY rs H' m)\/(i=m/\X=bY rs H' (i+1)))->K (a.put o.dst v) w':=fun v w' G' X hv W hlow hX=>by
  have hslots':=I.bp.put W.ext U ho hr hv hdst;have hlow':∀k p,G'.β k=some p->k<nx0\/∃j,ed (V.setIfInBounds i true) j/\j<ops.toList.length/\(bY rs H' j).next<=k/\k<(bY rs H' (j+1)).next:=fun k p hk=>by
   rcases hlow k p hk with h|h
   .rcases I.bS k p h with h|⟨j,h1,h2⟩
    .exact .inl h
    .exact .inr ⟨j,(jD U j).2 (.inr h1),h2⟩
   .exact .inr ⟨i,(jD U i).2 (.inl rfl),hil,h⟩
  have hframe':(a.put o.dst v).tmps.size=N:=by rw[<-I.frame];cases o.dst<;>simp[Act.put]
  have hdef':(a.put o.dst v).defers=[]:=by have:=I.defers;cases o.dst<;>exact this
  rcases hX with⟨hne,rfl⟩|⟨rfl,rfl⟩
  .refine hK _ _ m G' ⟨by simpa using I.size,hclosed',I.le,I.cO,fun hd=>?_,fun e he hlt=>(jD U e).2 (.inr (I.dz e he hlt)),I.step.cQ W,hlow',hslots',hframe',hdef'⟩;rcases(jD U m).1 hd with h|h
   .exact hne h.symm
   .exact I.bO h
  ·-- the next act
   obtain⟨m',q1,q2,q3,q4⟩:=AP (l:=ops.toList) (ops.toList.length-(i+1)) (i+1) ac;obtain⟨g1,g2⟩:=cx.d8 (m'-(i+1)) (i+1) ac (fun j h1 h2=>q4 j h1 ac);rw[show i+1+(m'-(i+1))=m' by omega]at g1 g2;have hst2:Step B nx0 G0 w0 (bY rs H' m') w' G':=by
    have:=I.step.cQ W;exact⟨this.r.more g1 g2,this.ext,this.fr,this.new,this.bS,dq this.mono g1,this.dj⟩
   have hact:∀e∈gJ ops.toList,e<m'->ed (V.setIfInBounds i true) e:=fun e he hlt=>by
    by_cases h:e<i
    .exact(jD U e).2 (.inr (I.dz e he h))
    .by_cases h2:e=i
     .exact(jD U e).2 (.inl h2)
     .exact(q4 e ac hlt he).elim
   refine hK _ _ m' G' ⟨by simpa using I.size,hclosed',q2,q3,fun hd=>?_,hact,hst2,hlow',hslots',hframe',hdef'⟩;rcases(jD U m').1 hd with h|h
   .omega
   ·-- m' is done though i,an act before it,was not
    have hm'l:m'<ops.toList.length:=by
     rcases ve m' ops.toList.length with h3|h3
     .exact h3
     .unfold ed at h;rw[gN,AK (by rw[I.size];exact h3)]at h;simp at h
    rcases q3 with e|e
    .omega
    .obtain⟨om,L,C⟩:=lK.1 e;rcases I.cO with e2|e2
     .omega
     .obtain⟨oi,hoi,hacti⟩:=lK.1 e2;rw[ho]at hoi;simp only[aC]at hoi;subst hoi;exact hbehind m' h om L (cx.calm.clash i m' o om ac ho L (by unfold Ab.clash;simp[hacti,C]))
 -- the range of m for the looks
 have hlo:∀e∈gJ ops.toList,e∈(fh ops.toList []).getD i []->e<m:=fun e he hA=>by
  have hd:=M e hA;rcases ve e m with h|h
  .exact h
  .exfalso;rcases I.cO with e2|e2
   .have:=(lK.1 he);obtain⟨oe,hoe,_⟩:=this;have:=(dx.1 hoe).1;omega
   .by_cases e3:e=m
    .subst e3;exact I.bO hd
    .obtain⟨om,L,C⟩:=lK.1 e2;obtain⟨oe,hoe,hacte⟩:=lK.1 he;exact I.bO (AO cx.calm I.bQ e oe hoe (I.bQ e hd oe hoe) m (cx.calm.clash m e om oe ac L hoe (by unfold Ab.clash;simp[C,hacte])))
 have hhi:∀e∈gJ ops.toList,i∈(fh ops.toList []).getD e []->m<=e:=fun e he hA=>by
  rcases ve e m with h|h
  .obtain⟨oe,hoe,_⟩:=lK.1 he;exact(hbehind e (I.dz e he h) oe hoe hA).elim
  .exact h
 unfold wpOp;rw[show ops[i]?=some o by rw[<-u6];exact ho];simp only[];have hnxm:nx0<=(bY rs H' m).next:=I.step.mono
 have hsame:Step B nx0 G w (bY rs H' m) w G:=(ik I.step.r).ci hnxm;have hstill:∀(v:Value) (w':World) (G':Gh),i≠m->VR G' r.val v->Step B (bY rs H' m).next G w (bY rs H' m) w' G'->K (a.put o.dst v) w':=fun v w' G' O hv W=>
  hfin v w' G' _ hv (W.ci hnxm) (fun k p hk=>by
   rcases W.bS k p hk with h|h
   .exact .inl h
   .have:=W.r.b8 k p hk;omega) (.inl ⟨O,rfl⟩)
 have hnotact:jT o=false->i≠m:=fun hna e=>by
  rcases I.cO with e2|e2
  .omega
  .obtain⟨om,L,C⟩:=lK.1 e2;rw[<-e,ho]at L;simp only[aC]at L;subst L;rw[hna]at C;simp at C
 cases hd:r.did with
 |false=>
  have hw:Region.wanted o (yielded ops a.tmps)=false:=by rw[<-hwant,ha.d4];exact hd
  rw[hw];simp only[cE,cm];obtain⟨hval,hheap⟩:=ha.no hd;by_cases O:i=m
  .subst O;exact hfin undef w G (bY rs H' (i+1)) (by rw[hval];exact uX G) (by rw[hheap];exact hsame) (fun k p hk=>.inl hk) (.inr ⟨rfl,rfl⟩)
  .exact hfin undef w G _ (by rw[hval];exact uX G) hsame (fun k p hk=>.inl hk) (.inl ⟨O,rfl⟩)
 |true=>
  have hw:Region.wanted o (yielded ops a.tmps)=true:=by rw[<-hwant,ha.d4];exact hd
  rw[hw];simp only[cg];have hop:=ha.dE hd;refine .inl ?_;cases Z:eB o.op with
  |cO=>
   have O:=hturn (by simp[jT,Z]);subst O;refine xj fit hih I.step.r J hop fun v w' G' hv W=>?_;refine hfin v w' G' _ hv (W.ci hnxm) (fun k p hk=>?_) (.inr ⟨rfl,rfl⟩);rcases W.bS k p hk with h|h
   .exact .inl h
   .exact .inr ⟨h,W.r.b8 k p hk⟩
  |calm=>
   have hnc:∀c,o.op≠.call c:=fun c e=>by
    rw[e]at Z;simp only[eB]at Z;split at Z<;>simp at Z
   have O:=hnotact (by simp[jT,Z]);have hX:=(AF (P:=P) (by simp[ou,Z]) ((rS hnc).1 hop)).2 (bY rs H' m);have hop':cZ P B.bN ih f (ep rs E' i) (bY rs H' m) o.op=.val r.val (bY rs H' m):=(rS hnc).2 hX;exact xj fit hih I.step.r J hop' fun v w' G' hv W=>hstill v w' G' O hv W
  |read=>
   have O:=hnotact (by simp[jT,Z]);have Y:=cx.cn i r hr hd m I.cO.symm hlo hhi;unfold zcm at Y;rw[ha.eo,Z,ha.eE]at Y;simp only[]at Y;split at Y
   .rename_i v1 H1 hop';have hv1:=AV.beq_eq Y;subst hv1;have hH1:=AG (by simp[ng,Z]) hop';subst hH1;exact xj fit (Snd.aM P B) I.step.r J hop' fun v w' G' hv W=>hstill v w' G' O hv W
   .simp at Y
  |make=>
   have O:=hnotact (by simp[jT,Z]);have hnc:∀c,o.op≠.call c:=fun c e=>by
    rw[e]at Z;simp only[eB]at Z;split at Z<;>simp at Z
   have hopA:=(rS hnc).1 hop;obtain⟨blk,obj,ext,v,hH1,hrun,hmade,hv⟩:=LM (P:=P) (w:=w) (by simp[pn,Z]) J hopA;have Y:=cx.cn i r hr hd m I.cO.symm hlo hhi;unfold zcm at Y;rw[ha.eo,Z,ha.eH,ha.eH']at Y;simp only[]at Y;have hnext1:(bY rs H' (i+1)).next=(bY rs H' i).next+1:=by rw[hH1];rfl
   have hgetm:(bY rs H' m).get (bY rs H' i).next=some blk:=by
    split at Y
    .rename_i b b' h1 h2;rw[HB.beq_eq Y]at h1;rw[hH1,aJ,aB rfl]at h2;simp only[aC]at h2;subst h2;exact h1
    .simp at Y
   have hlt:i<m:=by
    rcases xn i m with h|h|h
    .exact h
    .exact(O h).elim
    .exfalso;rcases I.cO with e2|e2
     .omega
     .obtain⟨om,L,C⟩:=lK.1 e2;exact I.bO (M m (cx.calm.clash m i om o h L ho (by unfold Ab.clash;simp[C,pn,Z])))
   have hr0:(bY rs H' i).next<(bY rs H' m).next:=by
    have:=cx.bh (m-(i+1)) (i+1) (by have:=I.le;omega);rw[show i+1+(m-(i+1))=m by omega]at this;omega
   have hnx0:nx0<=(bY rs H' i).next:=by
    have:=cx.bh i 0 ac;rw[bX,cx.dD,hnx]at this;exact this
   have hno:∀q,G.β (bY rs H' i).next=some q->False:=fun q hq=>by
    rcases I.bS _ q hq with h|⟨j,h1,h2,h3,h4⟩
    .omega
    .rcases xn j i with h|h|h
     .have:=cx.bh (i-(j+1)) (j+1) ac;rw[show j+1+(i-(j+1))=i by omega]at this;omega
     .subst h;exact hnot h1
     .have:=cx.bh (j-(i+1)) (i+1) ac;rw[show i+1+(j-(i+1))=j by omega]at this;omega
   have W:=Dg I.step.r hno hr0 hgetm hnx0 hmade;unfold Oper.wp;rw[hrun];refine hfin v _ _ _ (hv _ (oq _ _ _)) W (fun k p hk=>?_) (.inl ⟨O,rfl⟩);simp only[Gh.add]at hk;split at hk
   .rename_i e;exact .inr ⟨ac,ac⟩
   .exact .inl hk
def countP_set(J:i<V.size)(Z:V[i]=false):(V.setIfInBounds i true).toList.countP (·=false)+1=V.toList.countP (·=false):=by
 rw[Dd,List.countP_set tn];have o:V.toList[i]' tn=false:=kB;have I:0<V.toList.countP (·=false):=List.countP_pos_iff.2 ⟨false,by rw[<-o];exact dU _,aE⟩;rw[o];simp only[my,cg,py,iC,cE,cm];omega
def L0(fit:Fit P)(hih:Snd P B n ih){bE:Hp}(cx:Ctx P B.bN ih f N ops.toList E0 bE E' H' rs)(hnx:bE.next=W)
 (hE':ep rs E' ops.toList.length=E') (hH':bY rs H' ops.toList.length=H')  (hQ:∀e a w,iY B N W G0 w0 .normal E' H' e a w->Q e a w) :
 ∀(z:Nat) (V:qB) (a:Act) (w:World) (m:Nat) (G:Gh),InvD rs ops.toList N B W E0 H' G0 w0 V a w m G->V.toList.countP (·=false)<=z->wpAny P .any ops Q z V a w:=by
 -- at the end all is done
 have U:∀(V:qB) (a:Act) (w:World) (m:Nat) (G:Gh),InvD rs ops.toList N B W E0 H' G0 w0 V a w m G->Region.ready .any ops V=[]->Q .normal a w:=fun V a w m G I C=>by
  have J:∀j,j<ops.toList.length->ed V j:=fun j=>by
   induction j using Nat.strongRecOn with
   |_ j ihj=>
    intro hj;have O:=bc hj;have M:j<V.size:=by rw[I.size];exact hj
    cases hl:V[j]with
    |true=>
     unfold ed;rw[gN,nr M,hl];rfl
    |false=>
     exfalso;have:j∈Region.ready .any ops V:=jn.2 ⟨_,O,by rw[gN,nr M,hl];rfl,fun p hp=>by
      have hlt:=cx.calm.lt j _ O p hp;exact ihj p hlt ac⟩
     rw[C]at this;simp at this
  have hm:m=ops.toList.length:=by
   rcases I.cO with e|e
   .exact e
   .obtain⟨om,hom,_⟩:=lK.1 e;exact(I.bO (J m (dx.1 hom).1)).elim
  subst hm;have L:=I.step;rw[hH']at L;refine hQ _ _ _ ⟨rfl,G,⟨I.frame,fun t=>?_⟩,L,I.defers⟩;have:=I.bp.dt cx (t:=t) (az _) (fun j oj hoj _=>⟨fun _=>(dx.1 hoj).1,fun h=>J j h⟩);rw[hE']at this;exact this
 intro z;induction z with
 |zero=>
  intro V a w m G I hc;have C:Region.ready .any ops V=[]:=by
   apply vh.2;intro i hi;obtain⟨o,O,Z,_⟩:=jn.1 hi;have Y:i<V.size:=DN;rw[gN,nr Y]at Z;have:=countP_set Y kB;omega
  exact⟨C,U V a w m G I C⟩
 |succ z ihf=>
  intro V a w m G I hc;refine⟨fun C=>U V a w m G I C,fun i hi=>?_⟩;obtain⟨o,O,Z,_⟩:=jn.1 hi;have Y:i<V.size:=DN;rw[gN,nr Y]at Z;have hcs:=countP_set Y kB;exact LZ fit hih cx hnx I hi (fun a' w' m' G' hI'=>ihf _ a' w' m' G' hI' ac)
def DU(fit:Fit P)(C:Snd P B n ih){o:ax}(hr:jU P B.bN ih f N ops.toList E H=.done x o H')
 (h:R B H w G) (ht:TR N G E a) (hd:a.defers=[])  (hQ:∀e a' w',iY B N H.next G w x o H' e a' w'->Q e a' w'):wpAny P .any ops Q ops.size (Array.replicate ops.size false) a {w with drawn:=w.drawn+1}:=by
 unfold jU at hr;split at hr
 .rename_i W;split at hr
  .rename_i E1 H1 rs Y;split at hr
   .rename_i Z;simp only[Res.done.injEq]at hr;obtain⟨rfl,rfl,rfl⟩:=hr;have cx:=LY W Y Z;have hlen:=cx.len;have z:ep rs E1 ops.toList.length=E1:=by unfold ep;rw[jm ac]
    have L:bY rs H1 ops.toList.length=H1:=by unfold bY;rw[jm ac]
    obtain⟨m,q1,q2,q3,q4⟩:=AP (l:=ops.toList) ops.toList.length 0 ac;obtain⟨M,g2⟩:=cx.d8 m 0 ac (fun j _ I=>q4 j ac ac);rw[bX,cx.dD]at M g2;have J:R B H {w with drawn:=w.drawn+1} G:=h.heap rfl;have O:Step B H.next G w (bY rs H1 m) {w with drawn:=w.drawn+1} G:=
     ⟨J.more M g2,ti _,⟨rfl,rfl,rfl,az _,fun _ _ _=>rfl⟩,rL _ _,fun _ _ h=>.inl h,M,fun _ _ _ h=>.inl h⟩
    have U:∀j,¬ed (Array.replicate ops.size false) j:=fun j I=>by
     unfold ed at I;rw[gN,DQ]at I;split at I<;>simp at I
    refine L0 fit C cx rfl z L hQ ops.size _ a _ m G
     ⟨aE,fun j I=>(U j I).elim,q2,q3,U m,fun e he V=>(q4 e (db _) V he).elim,O,fun r p hr=>.inl (h.b8 r p hr),fun t=>.inr ⟨fun j o' I=>(U j I).elim,ht.bp t⟩,ht.size,hd⟩ ?_
    exact dq List.countP_le_length aE
   .simp at hr
  .simp at hr
 .simp at hr
end
def jo(ops:qG):qu->qB->Prop
 |[],listed=>Region.ready .any ops listed=[]
 |i::L,listed=>i∈Region.ready .any ops listed/\jo ops L (listed.setIfInBounds i true)
theorem DV{ops:qG}:∀(z t:Nat) (V:qB),V.size=ops.size->V.toList.countP (·=false)<=z->jo ops (Region.linearise.go .any ops z t V []) V
 |0,t,V,hs,hc=>by
  show Region.ready .any ops V=[];apply vh.2;intro i J;obtain⟨o,I,m,_⟩:=jn.1 J;have Z:i<V.size:=DO;rw[gN,nr Z]at m;have:=countP_set Z uT;omega
 |z+1,t,V,hs,hc=>by
  simp only[Region.linearise.go];change jo ops (match (Region.ready .any ops V)[t%(Region.ready .any ops V).length]? with
   |some i=>Region.linearise.go .any ops z (t/(Region.ready .any ops V).length) (V.setIfInBounds i true) [i]
   |none=>[].reverse) V
  cases J:(Region.ready .any ops V)[t%(Region.ready .any ops V).length]? with
  |none=>
   show Region.ready .any ops V=[];cases hr:Region.ready .any ops V with
   |nil=>rfl
   |cons x W=>
    rw[hr]at J;have O:t%(x::W).length<(x::W).length:=Nat.mod_lt _ aE;simp at J;simp at O;omega
  |some i=>
   simp only[];rw[linearise_go_acc,List.reverse_singleton,List.singleton_append];have Y:=pA J;refine⟨Y,DV z _ _ (by simpa using hs) ?_⟩;obtain⟨o,I,m,_⟩:=jn.1 Y;have Z:i<V.size:=DO;rw[gN,nr Z]at m;have:=countP_set Z uT;omega
section
variable {P:Program} {Q:Exit -> Act -> World -> Prop}
theorem AR{ops:qG}:∀(L:qu) (z:Nat) (V:qB) (a:Act) (w:World),wpAny P .any ops Q z V a w->jo ops L V->wpOps P ops Q L a w
 |[],0,V,a,w,h,_=>h.2
 |[],z+1,V,a,w,h,hv=>h.1 hv
 |i::L,0,V,a,w,h,hv=>by
  have o:=hv.1;rw[h.1]at o;simp at o
 |i::L,z+1,V,a,w,h,hv=>by
  rw[wpOps_cons];exact wpOp_mono (fun a w J=>AR L z _ a w J hv.2) (h.2 i hv.1)
def L1{id:Nat}(m:P.follows .mixedOrders=true)
 (h:∀L,jo ops L (Array.replicate ops.size false)->wpOps P ops Q L a {w with drawn:=w.drawn+1}):(Code.region id ops true).wp P Q a w:=
 wp_region_draw fun t=>by
  simp only[Region.schedule,m,tt,cg];exact h _ (DV ops.size t _ aE (dq List.countP_le_length aE))
theorem AS{ops ops':qG}{φ:Nat->Nat}:∀(L:qu) (a:Act) (w:World),
 (∀i∈L,∃o J,ops[i]?=some o/\ops'[φ i]?=some J/\(∃Y Z,J={o with after:=Y,guard:=Z})/\∀a:Act,Region.wanted J (yielded ops' a.tmps)=Region.wanted o (yielded ops a.tmps)) ->
 wpOps P ops' Q (L.map φ) a w->wpOps P ops Q L a w
 |[],_,_,_,h=>h
 |i::L,a,w,hr,h=>by
  rw[eJ,wpOps_cons]at h;rw[wpOps_cons];obtain⟨o,J,U,m,⟨Y,Z,O⟩,M⟩:=hr i eL;have V:∀a w,wpOps P ops' Q (L.map φ) a w->wpOps P ops Q L a w:=fun a w=>AS L a w (fun j I=>hr j (fR _ I));have W:=wpOp_mono V h;unfold wpOp at W⊢;rw[m]at W;rw[U];simp only[]at W⊢;rw[M a]at W;subst O;exact W
end
def xr(q p:Nat)(l:qo):(gK q p l).length=l.length:=by
 unfold gK;split<;>simp
theorem vi(h:l[i]?=some o):
 ∃J,(gK q p l)[i]?=some J/\(∃Y,J={o with after:=Y})/\(i≠q->J=o)/\∀j,j∈preds J↔j∈preds o\/(i=q/\j=p):=by
 unfold gK;have W:=(dx.1 h).1;by_cases e:i=q
 .subst e;rw[h];refine⟨_,List.getElem?_set_self W,⟨_,rfl⟩,fun M=>(M rfl).elim,fun j=>?_⟩;unfold preds;have:(o.after.push {on:=p,ground:=.data}).toList=o.after.toList++[{on:=p,ground:=.data}]:=aE;rw[this,List.filter_append,mD,ow];have m:(List.filter (Region.binds .any) [({on:=p,ground:=.data}:Edge)])=[{on:=p,ground:=.data}]:=rfl;rw[m];simp
 .have O:∀Z,(l.set q Z)[i]?=some o:=fun Z=>by rw[List.getElem?_set_ne (fun h=>e h.symm)];exact h
  split
  .exact⟨o,O _,⟨o.after,rfl⟩,fun _=>rfl,fun j=>⟨.inl,fun h=>h.elim id (fun h=>(e h.1).elim)⟩⟩
  .exact⟨o,h,⟨o.after,rfl⟩,fun _=>rfl,fun j=>⟨.inl,fun h=>h.elim id (fun h=>(e h.1).elim)⟩⟩
def DW(h:(gK q p l)[i]?=some J):∃o,l[i]?=some o:=by
 have:=(dx.1 h).1;rw[xr]at this;exact⟨_,bc this⟩
theorem L2(j:Nat):((gK q p l)[j]?).bind (·.dst)=(l[j]?).bind (·.dst):=by
 cases h:l[j]? with
 |none=>
  rw[jm (by rw[xr];exact List.getElem?_eq_none_iff.1 h)]
 |some o=>
  obtain⟨J,Z,⟨Y,rfl⟩,_⟩:=vi (q:=q) (p:=p) h;rw[Z];rfl
def DX(h:i∈Region.ready .any (gK q p l).toArray V):i∈Region.ready .any l.toArray V:=by
 obtain⟨J,Z,m,W⟩:=jn.1 h;simp only[]at Z;obtain⟨o,I⟩:=DW Z;obtain⟨M,U,_,_,O⟩:=vi (q:=q) (p:=p) I;rw[Z]at U;simp only[aC]at U;subst U;exact jn.2 ⟨o,I,m,fun j Y=>W j ((O j).2 (.inl Y))⟩
def vj(h:i∈Region.ready .any l.toArray V)(Y:i=q->V.getD p false=true):i∈Region.ready .any (gK q p l).toArray V:=by
 obtain⟨o,Z,m,W⟩:=jn.1 h;simp only[]at Z;obtain⟨J,U,_,_,O⟩:=vi (q:=q) (p:=p) Z;refine jn.2 ⟨J,U,m,fun j I=>?_⟩;rcases(O j).1 I with h|⟨M,rfl⟩
 .exact W j h
 .exact Y M
def L3(h:V.getD p false=true):(V.setIfInBounds i true).getD p false=true:=by
 simp only[gN,rI]at *;split
 .split
  .rfl
  .rename_i o m;subst o;rw[AK ac]at h;simp at h
 .exact h
theorem AT{q p:Nat}{l:qo}:∀{L:qu}{V:qB},V.getD p false=true->jo l.toArray L V->jo (gK q p l).toArray L V
 |[],V,_,hv=>by
  show Region.ready .any (gK q p l).toArray V=[];apply vh.2;intro i J;have:=DX J;rw[show Region.ready .any l.toArray V=[]from hv]at this;simp at this
 |i::L,V,hd,hv=>⟨vj hv.1 (fun _=>hd),AT (L3 hd) hv.2⟩
theorem DY{p q:Nat}(Z:p≠q){l:qo}:∀{L:qu}{V:qB},V.size=l.length->jo l.toArray L V->jo (gK q p l).toArray L V\/jo (gK p q l).toArray L V
 |[],V,_,hv=>.inl <|by
  show Region.ready .any (gK q p l).toArray V=[];apply vh.2;intro i J;have:=DX J;rw[show Region.ready .any l.toArray V=[]from hv]at this;simp at this
 |i::L,V,hs,hv=>by
  have Y:i<V.size:=by
   obtain⟨o,I,_⟩:=jn.1 hv.1;rw[hs];exact(dx.1 I).1
  have m:(V.setIfInBounds i true).getD i false=true:=by
   simp[gN,rI,Y]
  by_cases M:i=q
  .subst M;exact .inr ⟨vj hv.1 (fun e=>(Z e.symm).elim),AT m hv.2⟩
  .by_cases W:i=p
   .subst W;exact .inl ⟨vj hv.1 (fun e=>(M e).elim),AT m hv.2⟩
   .rcases DY Z (by simpa using hs) hv.2 with h|h
    .exact .inl ⟨vj hv.1 (fun e=>(M e).elim),h⟩
    .exact .inr ⟨vj hv.1 (fun e=>(W e).elim),h⟩
theorem AU{ops:qG}:∀{L:qu}{V:qB},jo ops L V->∀i∈L,∃o,ops.toList[i]?=some o
 |[],_,_,i,J=>by simp at J
 |j::L,V,hv,i,J=>by
  rcases eK.1 J with rfl|J
  .obtain⟨o,I,_⟩:=jn.1 hv.1;exact⟨o,I⟩
  .exact AU hv.2 i J
theorem DZ(Y:jo l.toArray L V)
 (h:wpOps P (gK q p l).toArray Q L a w):wpOps P l.toArray Q L a w:=by
 refine AS (ops':=(gK q p l).toArray) (φ:=id) L a w (fun i J=>?_) fQ;obtain⟨o,I⟩:=AU Y i J;simp only[]at I;obtain⟨O,U,⟨Z,rfl⟩,_⟩:=vi (q:=q) (p:=p) I;refine⟨o,_,pw,by simpa using U,⟨Z,o.guard,rfl⟩,fun a=>?_⟩;have W:yielded (gK q p l).toArray a.tmps=yielded l.toArray a.tmps:=funext fun j=>by
  unfold yielded;have:=L2 (q:=q) (p:=p) (l:=l) j;simp only[List.getElem?_toArray,this]
 rw[W];rfl
structure zaj (ord:qu) (l:qo):Prop where
 len:ord.length=l.length
 bk:∀k:Nat,k<l.length->∃i,ord[k]?=some i/\i<l.length/\fO ord i=k
 lt:∀i:Nat,i<l.length->fO ord i<l.length/\ord[fO ord i]?=some i
 da:∀(i:Nat) o,l[i]?=some o->(∀p∈preds o,p<l.length)/\∀j b,o.guard=some (j,b)->j<l.length
def L4{M:qu}(h:uP M l=true):zaj M l:=by
 unfold uP at h;simp only[ca,gk,lI]at h;obtain⟨⟨Z,m⟩,Y⟩:=h;refine⟨gM Z,fun k z=>?_,fun i J=>?_,fun i o I=>?_⟩
 .have:=(m k z).1.1;split at this
  .rename_i i J;simp only[ca]at this;exact⟨i,J,by simpa [hZ]using this.1,gM this.2⟩
  .simp at this
 .have V:=(m i J).1.2;have W:=(m i J).2;refine⟨by simpa [hZ]using V,?_⟩;split at W
  .rename_i k z;rw[z,gM W]
  .simp at W
 .have:=Y o (pA I);refine⟨fun p hp=>by simpa [hZ]using this.1 p hp,fun j b L=>?_⟩;have C:=this.2;rw[L]at C;simpa [hZ]using C
theorem D0{o β:Type}{f:o->Option β}:∀{Y:List o},(∀x∈Y,(f x).isSome=true)->∀k:Nat,(Y.filterMap f)[k]?=(Y[k]?).bind f
 |[],_,k=>by simp
 |x::Y,h,k=>by
  obtain⟨y,W⟩:=DR.1 (h x eL);rw[List.filterMap_cons_some W];cases k with
  |zero=>simp[W]
  |succ k=>simp[D0 (fun x O=>h x (fR _ O)) k]
section
variable {ord:qu} {l:qo} (hp:zaj ord l)
include hp
theorem zaj.dm(h:l[i]?=some o):(fj ord l)[fO ord i]?=some (po ord o):=by
 have J:=(dx.1 h).1;unfold fj;rw[D0 (fun x O=>?_)]
 .rw[(hp.lt i J).2];simp[h]
 .obtain⟨k,z⟩:=AL.1 O;have Y:k<l.length:=by rw[<-hp.len];exact(dx.1 z).1
  obtain⟨W,Z,m,_⟩:=hp.bk k Y;rw[z]at Z;simp only[aC]at Z;subst Z;rw[bc m];rfl
def zaj.length:(fj ord l).length=l.length:=by
 have:∀k,k<l.length->((fj ord l)[k]?).isSome=true:=fun k z=>by
  obtain⟨i,o,m,I⟩:=hp.bk k z;have:=hp.dm (bc m);rw[I]at this;rw[this];rfl
 refine Nat.le_antisymm (dq (List.length_filterMap_le _ _) (by rw[hp.len];exact az _)) ?_;rcases ve (fj ord l).length l.length with h|h
 .have:=this _ h;rw[jm (az _)]at this;simp at this
 .exact h
def zaj.of(h:(fj ord l)[k]?=some J):∃i o,l[i]?=some o/\fO ord i=k/\J=po ord o:=by
 have z:k<l.length:=by rw[<-hp.length];exact(dx.1 h).1
 obtain⟨i,Z,m,I⟩:=hp.bk k z;have:=hp.dm (bc m);rw[I,h]at this;simp only[aC]at this;exact⟨i,_,bc m,I,this⟩
def zaj.inj(J:i<l.length)(I:j<l.length)(h:fO ord i=fO ord j):i=j:=by
 have o:=(hp.lt i J).2;rw[h,(hp.lt j I).2]at o;simpa using o.symm
theorem zaj.preds:Ab.preds (po ord o)=(Ab.preds o).map (fO ord):=by
 unfold Ab.preds po;simp only[List.map_map];rw[List.filter_map];have:(Region.binds .any ∘ fun e:Edge=>{e with on:=fO ord e.on})=Region.binds .any:=rfl;rw[this,List.filter_filter];simp only[ox,List.map_map];rfl
def vk(M:qu)(l:qo)(x y:qB):Prop:=x.size=l.length/\y.size=l.length/\∀i,i<l.length->y[fO M i]?=x[i]?
def vk.set{x:qB}(h:vk ord l x y)(J:i<l.length):vk ord l (x.setIfInBounds i true) (y.setIfInBounds (fO ord i) true):=by
 refine⟨by simpa using h.1,by simpa using h.2.1,fun j I=>?_⟩;simp only[rI];by_cases e:i=j
 .subst e;rw[aB rfl,aB rfl,aB (by rw[h.2.1];exact(hp.lt i J).1),aB (by rw[h.1];exact J)]
 .rw[ao e,ao (fun U=>e (hp.inj J I U))];exact h.2.2 j I
def D1{x:qB}(h:vk ord l x y)(Y:i<l.length):fO ord i∈Region.ready .any (fj ord l).toArray y↔i∈Region.ready .any l.toArray x:=by
 have I:=bc Y;have Z:=hp.dm I;rw[jn,jn];simp only[];have hd:∀(j:Nat) (b:Bool),j<l.length->y.getD (fO ord j) b=x.getD j b:=fun j b O=>by
  simp only[gN,h.2.2 j O]
 constructor
 .rintro⟨L,U,M,V⟩;rw[Z]at U;simp only[aC]at U;subst U;refine⟨_,I,by rw[<-hd i true Y];exact M,fun p W=>?_⟩;rw[<-hd p false ((hp.da i _ I).1 p W)];exact V _ (by rw[hp.preds];exact List.mem_map_of_mem W)
 .rintro⟨L,U,M,V⟩;rw[I]at U;simp only[aC]at U;subst U;refine⟨_,Z,by rw[hd i true Y];exact M,fun p W=>?_⟩;rw[hp.preds]at W;obtain⟨o,J,rfl⟩:=lJ.1 W;rw[hd o false ((hp.da i _ I).1 o J)];exact V o J
theorem D2:∀{L:qu}{x y:qB},vk ord l x y->jo l.toArray L x->jo (fj ord l).toArray (L.map (fO ord)) y
 |[],x,y,hs,hv=>by
  show Region.ready .any (fj ord l).toArray y=[];apply vh.2;intro k z;obtain⟨Y,U,_⟩:=jn.1 z;simp only[]at U;obtain⟨i,o,Z,m,_⟩:=hp.of U;have J:=(dx.1 Z).1;rw[<-m]at z;have:=(D1 hp hs J).1 z;rw[show Region.ready .any l.toArray x=[]from hv]at this;simp at this
 |i::L,x,y,hs,hv=>by
  obtain⟨o,I,_⟩:=jn.1 hv.1;have J:i<l.length:=(dx.1 I).1;exact⟨(D1 hp hs J).2 hv.1,D2 (hs.set hp J) hv.2⟩
theorem L5(U:jo l.toArray L V)
 (h:wpOps P (fj ord l).toArray Q (L.map (fO ord)) a w):wpOps P l.toArray Q L a w:=by
 refine AS (ops':=(fj ord l).toArray) (φ:=fO ord) L a w (fun i J=>?_) h;obtain⟨o,I⟩:=AU U i J;simp only[]at I;have Z:=hp.dm I;refine⟨o,po ord o,pw,kB,⟨_,_,rfl⟩,fun a=>?_⟩;unfold Region.wanted po;cases O:o.guard with
 |none=>rfl
 |some z=>
  obtain⟨j,b⟩:=z;have W:=(hp.da i o I).2 j b O;have Y:=hp.dm (bc W);simp only[];unfold yielded;simp only[List.getElem?_toArray,Y,bc W];rfl
end
theorem T.beq_eq{o:Type}{J:o->o->Bool}(z:∀a b,J a b=true->a=b):∀{x y:T o},T.beq J x y=true->x=y
 | .e,.e,_=>rfl
 | .e,.n _ _ _,h=>by simp[T.beq]at h
 | .n _ _ _,.e,h=>by simp[T.beq]at h
 | .n v l r,.n I O Y,h=>by
   simp only[T.beq,ca]at h;rw[T.beq_eq z h.1.2,T.beq_eq z h.2];have Z:=h.1.1;cases v<;>cases I <;>simp only[cE]at Z
   .rfl
   .rw[z _ _ Z]
def L6{ops:qo}{C m:ax}{Y H2:Hp}(h:zV ops C m Y H2=true):(∀o∈ops,∀d,o.dst=some d->C.at d=m.at d)/\Y=H2:=by
 unfold zV at h;simp only[ca,gk]at h;refine⟨fun o I d hd=>?_,?_⟩
 .have:=h.1.1 o I;rw[hd]at this;exact AV.beq_eq this
 .have Z:=gM h.1.2;have W:=T.beq_eq (fun a b=>HB.beq_eq) h.2;cases Y;cases H2;simp only[]at Z W;rw[Z,W]
section
variable {P:Program} {B:Bs} {cfg:Cfg}
def L7{t:Nat}{C:ax}{V:Option Tmp}{v:AV}(h:dH N E V v=some C)(Z:V≠some t):C.at t=E.at t:=by
 unfold dH at h;split at h
 .rename_i d;split at h
  .simp only[aC]at h;rw[<-h,tj,ao (fun e=>Z mC)]
  .simp at h
 .simp only[aC]at h;rw[<-h]
theorem D3{ih:zac->Res}{f N t:Nat}{I:qo}:∀{rs:List Rec}{l:qo}{E E':ax}{H H':Hp},kH P cfg ih f N I rs l E H E' H'->(∀o∈l,o.dst≠some t)->E'.at t=E.at t
 |[],[],_,_,_,_,h,_=>by rw[h.1]
 |[],_::_,_,_,_,_,h,_=>by simp[kH]at h
 |_::_,[],_,_,_,_,h,_=>by simp[kH]at h
 |r::rs,o::l,E,E',H,H',h,ht=>by
  obtain⟨_,_,_,_,_,_,E1,hp,L⟩:=h;rw[D3 L (fun o Z=>ht o (fR _ Z)),L7 hp (ht o eL)]
def D4{t:Nat}{ops:qo}(h:jU P cfg ih f N ops E H=.done x O H')(V:∀o∈ops,o.dst≠some t):x=.normal/\O.at t=E.at t:=by
 unfold jU at h;split at h
 .split at h
  .rename_i E1 H1 rs m;split at h
   .simp only[Res.done.injEq]at h;obtain⟨rfl,rfl,rfl⟩:=h;exact⟨rfl,D3 (vb m) V⟩
   .simp at h
  .simp at h
 .simp at h
def L8{M:qu}(h:o∈fj M l):∃J∈l,o.dst=J.dst:=by
 unfold fj at h;rw[List.mem_filterMap]at h;obtain⟨i,_,m⟩:=h;split at m
 .rename_i J I;simp only[aC]at m;subst m;exact⟨J,pA I,rfl⟩
 .simp at m
def D5(h:o∈gK q p l):∃Y∈l,o.dst=Y.dst:=by
 obtain⟨i,J⟩:=AL.1 h;obtain⟨L,Z⟩:=DW J;obtain⟨W,U,⟨V,M⟩,_⟩:=vi (q:=q) (p:=p) Z;rw[J]at U;simp only[aC]at U;exact⟨L,pA Z,by rw[U,M]⟩
def D6{ops:qo}{W:Res}(h:rE ops W Y=.done x O H'):
 x=.normal/\W=.done .normal O H'/\∃m,Y=.done .normal m H'/\∀o∈ops,∀d,o.dst=some d->O.at d=m.at d:=by
 unfold rE at h;split at h
 .split at h
  .rename_i U;simp only[Res.done.injEq]at h;obtain⟨rfl,rfl,rfl⟩:=h;obtain⟨Z,V⟩:=L6 U;subst V;exact⟨rfl,rfl,_,rfl,Z⟩
  .simp at h
 .simp at h
theorem AW{ih:zac->Res}{f N t:Nat}{E O:ax}{H H':Hp}{x:AX}:∀{z:zai}{ops:qo},hT P cfg ih f N E H z ops=.done x O H'->(∀o∈ops,o.dst≠some t)->O.at t=E.at t
 | .text,ops,h,ht=>(D4 h ht).2
 | .b2 ord,ops,h,ht=>by
   simp only[hT]at h;split at h
   .exact(D4 h (fun o I=>by obtain⟨J,Z,m⟩:=L8 I;rw[m];exact ht J Z)).2
   .simp at h
 | .split p q a b,ops,h,ht=>by
   simp only[hT]at h;split at h
   .simp at h
   .obtain⟨_,Z,_⟩:=D6 h;exact AW Z (fun o I=>by obtain⟨J,Z,m⟩:=D5 I;rw[m];exact ht J Z)
def iY.aT{C m:ax}(Z:∀t,C.at t=m.at t){e:Exit}(h:iY B N W G w x m H' e a w'):iY B N W G w x C H' e a w':=by
 obtain⟨o,O,Y,I,V⟩:=h;exact⟨o,O,⟨Y.size,fun t=>by rw[Z];exact Y.bp t⟩,I,V⟩
theorem AY(fit:Fit P){n:Nat}{ih:zac->Res}(C:Snd P B n ih){f N:Nat}{E:ax}{H:Hp}{G:Gh}{w:World}{a:Act}(h:R B H w G)(V:TR N G E a)(hd:a.defers=[]){Q:Exit->Act->World->Prop}:
 ∀(pl:zai) (l:qo) {E':ax}{H':Hp}{x:AX},hT P B.bN ih f N E H pl l=.done x E' H'->(∀e W Y,iY B N H.next G w x E' H' e W Y->Q e W Y)->∀L,jo l.toArray L (Array.replicate l.length false) ->
  wpOps P l.toArray Q L a {w with drawn:=w.drawn+1}
 | .text,l,E',H',x,hr,hQ,L,hv=>AR L _ _ a _ (by
  have:=DU (ops:=l.toArray) fit C hr h V hd hQ;simpa using this) hv
 | .b2 ord,l,E',H',x,hr,hQ,L,hv=>by
   simp only[hT]at hr;split at hr
   .rename_i hp;have hp:=L4 hp;refine L5 hp hv (AR _ _ _ a _ (DU (ops:=(fj ord l).toArray) fit C hr h V hd hQ) ?_);refine D2 hp ⟨aE,by simp[hp.length],fun i hi=>?_⟩ hv;have:=(hp.lt i hi).1;simp[hp.length,hi,this]
   .simp at hr
 | .split p q pa pb,l,E',H',x,hr,hQ,L,hv=>by
   simp only[hT]at hr;split at hr
   .simp at hr
   .rename_i U;have z:p≠q:=z6 U;obtain⟨rfl,h1,E2,h2,h3⟩:=D6 hr;rcases DY z aE hv with O|m
    .exact DZ hv (AY fit C h V hd pa _ h1 hQ L (by rw[xr];exact O))
    .have M:∀t,E'.at t=E2.at t:=fun t=>by
      by_cases V:∃o∈l,o.dst=some t
      .obtain⟨o,I,hd⟩:=V;exact h3 o I t hd
      .have J:∀o∈l,o.dst≠some t:=fun o I hd=>V ⟨o,I,hd⟩;have Z:∀q p,∀o∈gK q p l,o.dst≠some t:=fun q p o I=>by obtain⟨o',g1,g2⟩:=D5 I;rw[g2];exact J o' g1
       rw[AW h1 (Z _ _),AW h2 (Z _ _)]
     exact DZ hv (AY fit C h V hd pb _ h2 (fun e W Y hp=>hQ _ _ _ (iY.aT M hp)) L (by rw[xr];exact m))
def L9(fit:Fit P)(C:Snd P B n ih){id:Nat}{z:zai}(hr:hT P B.bN ih f N E H z ops.toList=.done x O H')
 (h:R B H w G) (V:TR N G E a) (hd:a.defers=[]):Code.wp P (.region id ops true) (iY B N H.next G w x O H') a w:=by
 refine L1 fit.mixed fun L Z=>?_;have:=AY fit C h V hd z ops.toList hr (fun _ _ _ hp=>hp) L kB;simpa using this
end
structure Grow (w:World) (F:Nat->Nat->qK) (w':World) (F':Nat->Nat->qK):Prop where
 below:Below w.heap.size w w'
 more:∀b o v,F b o=some v->F' b o=some v
 dj:∀b o v,F' b o=some v->F b o=some v\/w.heap.size<=b
 b1:∀b o v,F' b o=some v->w'.cell? ⟨b,o,none⟩=some v
def cp(P:Program)(ρ:Nat->Int)(f:FuncId)(C:ql)(r:AV):Prop:=
 (∃M,P.funcs[f]?=some M/\M.body.isSome=true)/\∀(G:Gh) (w:World) (vs:qt),G.ρ=ρ->(∀b o v,G.F b o=some v->w.cell? ⟨b,o,none⟩=some v)->bZ G C vs ->
   Calls P f vs.toArray w (fun e L=>∃v U,e=.returned v/\VR {G with F:=U} r v/\Grow w G.F L U)
def Ma(P:Program)(B:Bs):Prop:=∀f C r,B.bN.call f C=some r->cp P B.ρ f C r
def AZ(h:Below w.heap.size w w'){b o:Nat}(C:b<w.heap.size):w'.cell? ⟨b,o,none⟩=w.cell? ⟨b,o,none⟩/\w'.frozen? ⟨b,o,none⟩=w.frozen? ⟨b,o,none⟩:=
 ⟨by simp only[World.cell?,h.block b C],h.frozen (p:=⟨b,o,none⟩) C⟩
theorem R.dT{B:Bs}{U:Nat->Nat->qK}(h:R B H w G)(g:Grow w G.F w' U):Step B H.next G w H w' {G with F:=U}:=by
 have L:Ext G {G with F:=U}:=⟨fun _ _ h=>h,g.more,rfl⟩;have z:∀{b o:Nat}{v:Value},w.cell? ⟨b,o,none⟩=some v->w'.cell? ⟨b,o,none⟩=some v:=fun hc=>by rw[(AZ g.below (lH hc)).1];exact hc
 refine⟨?_,L,⟨g.below.os,g.below.tape,g.below.output,g.below.size,fun k O _=>g.below.block k O⟩,fun r b o x hr=>.inl hr,fun _ _ h=>.inl h,az _,fun b o v W=>(g.dj b o v W).imp id fun C=>dq h.bD C⟩;exact{
  bD:=dq h.bD g.below.size
  b8:=h.b8
  lt:=fun r b o x hr=>⟨(h.lt r b o x hr).1,jW (h.lt r b o x hr).2 g.below.size⟩
  cells:=fun r b o x cs imm Z hr hc j c I=>by
   obtain⟨v,Y,m⟩:=h.cells r b o x cs imm Z hr hc j c I;exact⟨v,z Y,m.mono L⟩
  aY:=fun r b o x cs imm Z hr hc j I M=>let ⟨v,W⟩:=h.aY r b o x cs imm Z hr hc j I M;⟨v,g.more _ _ _ W⟩
  ext:=h.ext
  bm:=h.bm
  bb:=fun r b o x cs imm Z hr hc j I M=>by
   obtain⟨⟨v,Y⟩,m,h3⟩:=h.bb r b o x cs imm Z hr hc j I M;have C:=(h.lt r b o x hr).2;refine⟨⟨v,z Y⟩,by rw[(AZ g.below C).2];exact m,?_⟩;show U b (o+j)=none;cases hF:U b (o+j)with
   |none=>rfl
   |some u=>rcases g.dj _ _ _ hF with V|V
            ·rw[h3]at V;simp at V
            .omega
  apart:=h.apart
  map:=fun r b o x es hr hc=>by
   obtain⟨ms,J,Y,m⟩:=h.map r b o x es hr hc;exact⟨ms,J,by rw[g.below.block b (h.lt r b o x hr).2];exact Y,m.mono L⟩
  aS:=h.aS
  b1:=g.b1
  val:=h.val
  cz:=h.cz}
def Mb{O:Gh}(h:zW r=true)(k:VR G r v):VR O r v:=by
 cases k<;>first|exact .int _ _|exact .bool _|exact .ag _ _ og|cases h
theorem A0(z:Nat):∀(n:Nat) (l:ql),(gL z n l).length=n
 |0,_=>rfl
 |n+1,l=>by simp[gL,A0 z n]
theorem vm(z:Nat):∀(n:Nat) (l:ql) (i:Nat) (I:ql),l.length=n*z->(gL z n l)[i]?=some I->I.length=z/\∀(j:Nat) c,I[j]?=some c->l[i*z+j]?=some c
 |0,_,i,I,_,h=>by simp[gL]at h
 |n+1,l,i,I,hl,h=>by
  rw[lF,xo]at hl;simp only[gL]at h;cases i with
  |zero=>
   simp at h;subst h;refine⟨u0,fun j c Z=>?_⟩;rw[mY]at Z;split at Z
   .rw[xe,bX];exact Z
   .simp at Z
  |succ i=>
   obtain⟨o,m⟩:=vm z n (l.drop z) i I AH fQ;refine⟨o,fun j c Z=>?_⟩;have:=m j c Z;rw[px]at this;rw[lF,xo,show i*z+z+j=z+(i*z+j) by omega];exact this
theorem xt{B:Bs}{w:World}{g:AV->Hp->Option (AV×Hp)}
 (L:∀(v:AV) (H:Hp) (q:AV) (H':Hp) (G:Gh) (x:Value),R B H w G->VR G v x->g v H=some (q,H')->∃O,Step B H.next G w H' w O/\VR O q x) :
 ∀(cs:ql) (vs:qt) (H:Hp) (J:ql) (H':Hp) (G:Gh),R B H w G->bZ G cs vs->jA g cs H=some (J,H')->∃O,Step B H.next G w H' w O/\bZ O J vs
 |[],vs,H,J,H',G,h,hv,hi=>by
  simp only[jA,b9]at hi;obtain⟨rfl,rfl⟩:=hi;exact⟨G,ik h,hv⟩
 |c::cs,[],H,J,H',G,h,hv,hi=>by have:=hv.1;simp at this
 |c::cs,v::vs,H,J,H',G,h,hv,hi=>by
  simp only[jA]at hi;split at hi
  .rename_i d H1 Y;split at hi
   .rename_i C U m;simp only[b9]at hi;obtain⟨rfl,rfl⟩:=hi;obtain⟨W,M⟩:=hv.a0;obtain⟨V,Z,I⟩:=L c H d H1 G v h W Y;obtain⟨z,o,r2⟩:=xt L cs vs H1 C U V Z.r (M.mono Z.ext) m;exact⟨z,Z.trans o,lG (I.mono o.ext) r2⟩
   .simp at hi
  .simp at hi
theorem xu{B:Bs}{w:World}:∀(n:Nat) (v:AV) (H:Hp) (q:AV) (H':Hp) (G:Gh) (x:Value),R B H w G->VR G v x->hY n v H=some (q,H')->∃G',Step B H.next G w H' w G'/\VR G' q x
 |0,_,_,_,_,_,_,_,_,h=>by simp[hY]at h
 |n+1,v,H,q,H',G,x,h,hv,Z=>by
  unfold hY at Z;split at Z
  .rename_i r J W z;split at Z
   .rename_i cs C tip M;split at Z
    .rename_i hle;simp only[ca]at hle;have hle1:=u4 hle.1;have hle2:=u4 hle.2;split at Z
     .rename_i l H1 hil;simp only[b9]at Z;obtain⟨rfl,rfl⟩:=Z;cases hv with
      |sl hr hl hcx=>
       rename_i b o xx cap;have I:=h.cells r b o xx cs C tip hr M;have s1:=uZ h hr M (n:=max C (J+W*z)) ac ac tip id;obtain⟨Y,ho1,ho2⟩:=I.list;have hlen:((cs.drop J).take (W*z)).length=W*z:=DP;obtain⟨G2,s2,r2⟩:=xt (xu n) _ ((Y.drop J).take (W*z)) _ l H1 _ s1.r (((ho1.drop J).take (W*z)).mono s1.ext) hil;refine⟨G2,s1.trans s2,?_⟩;have hll:l.length=W*z:=by
        have e1:=r2.1;have e2:=((ho1.drop J).take (W*z)).1;rw[hlen]at e2;omega
       have hlc:=A0 z W l;have hovl:Y.length=cs.length:=ho1.1.symm;have hat:∀m,m<W*z->∃v,Y[J+m]?=some v/\G2.F b (o+J+m)=some v/\∀c,l[m]?=some c->VR G2 c v:=fun m hm=>by
        have O:J+m<Y.length:=ac;refine⟨Y[J+m],bc O,?_,fun c hc=>?_⟩
        .refine s2.ext.F _ _ _ ?_;have V:=ho2 (J+m) Y[J+m] (bc O);show(G.aF w b o (max C (J+W*z))).F b (o+J+m)=some Y[J+m];simp only[Gh.aF];rw[<-iE]at V;split
         .rename_i v' hv';have:=h.b1 _ _ _ hv';rw[V]at this;exact this.symm
         .rw[aB ⟨by trivial,ac,ac⟩];exact V
        .refine r2.2 m c _ hc ?_;rw[mY,aB hm,px];exact bc O
       have hin:∀i j,i<W->j<z->i*z+j<W*z:=fun i j Z hj=>by
        calc i*z+j<i*z+z:=by omega
         _=(i+1)*z:=by rw[lF,xo]
         _<=W*z:=uV _ Z
       have key:VR G2 (.aq (gL z W l)) (.slice (some ⟨b,o+J,none⟩) (gL z W l).length cap):=by
        refine .aq (fun i j=>(Y[J+(i*z+j)]?).getD undef) (z:=z) (fun i L U=>(vm z W l i L hll U).1) (fun i j Z hj=>?_) (fun i j L c U hcj=>?_) (by rw[hlc];exact hl)
        .rw[hlc]at Z;obtain⟨v,e1,e2,_⟩:=hat _ (hin i j Z hj);rw[e1,iE (o+J)];exact e2
        .have hm:=(vm z W l i L hll U).2 j c hcj;have O:=(dx.1 hm).1;obtain⟨v,e1,_,e3⟩:=hat (i*z+j) ac;rw[e1];exact e3 c hm
       rw[hlc]at key;exact key
     .simp at Z
    .simp at Z
   .simp at Z
  .rename_i cs;split at Z
   .rename_i ds H1 hil;simp only[b9]at Z;obtain⟨rfl,rfl⟩:=Z;cases hv with
    |agg hl hvs=>
     obtain⟨G',s,r⟩:=xt (xu n) cs _ H ds H1 G h ⟨hl,hvs⟩ hil;exact⟨G',s,.agg r.1 r.2⟩
   .simp at Z
  .simp at Z
  .simp at Z
  .simp only[b9]at Z;obtain⟨rfl,rfl⟩:=Z;exact⟨G,ik h,hv⟩
section
variable {P:Program} {B:Bs} {G:Gh} {H H':Hp} {w:World}
theorem D7:∀(C:ql) (i:Nat) (E:ax) (t:Nat),(bt i C E).at t=if i<=t/\t<i+C.length then C.getD (t-i) cT else E.at t
 |[],i,E,t=>by
  simp only[bt,fP,kE];rw[ao ac]
 |v::vs,i,E,t=>by
  simp only[bt,D7 vs (i+1),cy];by_cases o:i+1<=t/\t<i+1+vs.length
  .rw[aB o,aB ac,show t-i=(t-(i+1))+1 by omega];rfl
  .rw[ao o,tj];by_cases m:t=i
   .subst m;rw[aB rfl,aB ac];simp
   .rw[ao m,ao ac]
theorem A1:∀(d t:Nat),ax.at (uQ d) t=cT
 |0,_=>rfl
 |d+1,t=>by
  unfold ax.at uQ;rw[rM];cases h:Nat.beq t 0 with
  |true=>rfl
  |false=>
   rw[jZ];cases m:Nat.beq (Nat.mod t 2) 1 with
   |true=>exact A1 d _
   |false=>exact A1 d _
def Mc(N t:Nat):ax.at (rF N) t=cT:=A1 _ _
def TR.start(h:bZ G C vs)(L:Nat):
 TR (max L C.length) G (bt 0 C (rF (max L C.length))) {tmps:=vs.toArray++Array.replicate (L-vs.toArray.size) undef,defers:=[] }:=by
 have W:=h.1;refine⟨co,fun t=>?_⟩;rw[D7];simp only[db,kI,bX,Nat.sub_zero];by_cases V:t<C.length
 .rw[aB V];have M:C.getD t cT=C[t]:=by simp[List.getD,V]
  rw[M];have:(vs.toArray++Array.replicate (L-vs.toArray.size) undef).getD t undef=vs[t]' ac:=by
   rw[gN,Array.getElem?_append_left co];simp[show t<vs.length by omega]
  rw[this];exact h.2 t _ _ (bc V) (bc ac)
 .rw[ao V,Mc];have:(vs.toArray++Array.replicate (L-vs.toArray.size) undef).getD t undef=undef:=by
   rw[gN,Array.getElem?_append_right co];simp only[DQ];split<;>rfl
  rw[this];exact uX G
def Md(h:R B H w G)(V:TR N G E a){r:ResultVar}{c:AV}(hr:da P E H r=some c):
 ∃v,(match r with
  | .tmp t=>pure (a.tmps.getD t undef)
  | .cell x t=>do loadVar t (<-asAddr (a.tmps.getD x undef)):Sem Value).run P w=.ok v w/\VR G c v:=by
 cases r with
 |tmp t=>
  simp only[da,aC]at hr;subst hr;exact⟨_,rfl,V.bp t⟩
 |cell x t=>
  simp only[da]at hr;have O:=V.bp x;obtain⟨v,o,m⟩:=Dp (P:=P) h O hr;refine⟨v,?_,m⟩;show(do loadVar t (<-asAddr (a.tmps.getD x undef)):Sem Value).run P w=.ok v w;generalize a.tmps.getD x undef=M at O o⊢;generalize E.at x=Z at O hr;cases O<;>simp[eR]at hr<;>simpa [Instr.loadAt,Instr.sureAddr,asAddr]using o
theorem D8(h:R B H w G){N:Nat}{E:ax}{a:Act}(V:TR N G E a):∀{rs:List ResultVar}{cs:ql},cU P E H rs=some cs ->
 ∃vs,(rs.mapM (fun
  | .tmp t=>pure (a.tmps.getD t undef)
  | .cell x t=>do loadVar t (<-asAddr (a.tmps.getD x undef)):ResultVar->Sem Value)).run P w=.ok vs w/\bZ G cs vs
 |[],cs,hr=>by
  simp only[cU,aC]at hr;subst hr;exact⟨[],aE,m0 G⟩
 |r::rs,cs,hr=>by
  simp only[cU]at hr;split at hr
  .rename_i c I o m;simp only[aC]at hr;subst hr;obtain⟨v,U,M⟩:=Md (P:=P) h V o;obtain⟨vs,Z,Y⟩:=D8 h V m;refine⟨v::vs,?_,lG M Y⟩;rw[List.mapM_cons];simp only[dy,U,dC,Z,iF]
  .simp at hr
def D9(h:R B H w G)(V:TR N G E a)(hr:td P M.results.toList E H=.val r H'):
 H'=H/\∃v,(results M a.tmps).run P w=.ok v w/\VR G r v:=by
 unfold td at hr;split at hr
 .rename_i cs Y;simp only[Res.val.injEq]at hr;obtain⟨rfl,rfl⟩:=hr;obtain⟨vs,o,m⟩:=D8 (P:=P) h V Y;refine⟨rfl,?_⟩;have Z:(results M a.tmps).run P w=.ok (if h:vs.toArray.size=1 then vs.toArray[0]else .tuple vs.toArray) w:=by
   unfold results;rw[Array.mapM_eq_mapM_toList];simp only[dy,Sem.run_map];exact jY (fun r:Result qt=>(r.andThen fun a L=>Result.ok a.toArray L).andThen fun a L=>Sem.run P (pure (if h:a.size=1 then a[0]else Value.tuple a)) L) o
  refine⟨_,Z,?_⟩
  match cs,vs,m with
  |[],[],m=>exact .aO (vs:=[]) rfl aE
  |[c],[v],m=>exact m.a0.1
  |c::c'::cs,v::v'::vs,m=>
   have:¬(v::v'::vs).toArray.size=1:=aE;rw[dif_neg this];exact .aO m.1 m.2
  |[],_::_,m=>have:=m.1;simp at this
  |[_],[],m=>have:=m.1;simp at this
  |[_],_::_::_,m=>have:=m.1;simp at this
  |_::_::_,[],m=>have:=m.1;simp at this
  |_::_::_,[_],m=>have:=m.1;simp at this
 .simp at hr
def A2(_fit:Fit P)(W:Snd P B n ih){f:FuncId}(U:ly P ih f C H=.val r H')(h:R B H w G)(hv:bZ G C vs):
 (∃V,P.funcs[f]?=some V/\V.body.isSome=true)/\Calls P f vs.toArray w (fun e I=>∃v Z,e=.returned v/\VR Z r v/\Step B H.next G w H' I Z):=by
 unfold ly at U;split at U
 .rename_i V L;split at U
  .rename_i c hc;refine⟨⟨V,L,by rw[hc];rfl⟩,calls_of_wp L hc ?_⟩;have J:=TR.start hv V.ntmps;split at U
   .rename_i E1 H1 M;refine pB (fun e a' I z=>?_) (W.aw _ _ _ _ _ _ _ _ M G w _ h J rfl);obtain⟨rfl,Z,O,Y,hd⟩:=z;obtain⟨rfl,v,o,m⟩:=D9 (P:=P) Y.r O U;exact⟨hd,v,o,v,Z,rfl,m,Y⟩
   .rename_i E1 H1 M;refine pB (fun e a' I z=>?_) (W.aw _ _ _ _ _ _ _ _ M G w _ h J rfl);obtain⟨rfl,Z,O,Y,hd⟩:=z;obtain⟨rfl,v,o,m⟩:=D9 (P:=P) Y.r O U;exact⟨hd,v,o,v,Z,rfl,m,Y⟩
   .simp at U
  .simp at U
 .simp at U
def A3(Z:Snd P B n ih){r:Res}(U:lA ih f N b r=.done x O H'):
 ∃L E1 H1,r=.done L E1 H1/\((L=.normal/\ih (.aw f N b E1 H1)=.done x O H')\/(L≠.normal/\x=L/\O=E1/\H'=H1)):=by
 unfold lA at U;split at U
 .rename_i E1 H1;exact⟨.normal,E1,H1,rfl,.inl ⟨rfl,U⟩⟩
 .rename_i z;subst U;exact⟨x,O,H',rfl,.inr ⟨fun e=>by subst e;exact z _ _ rfl,rfl,rfl,rfl⟩⟩
def Me(fit:Fit P)(C:Snd P B n ih)(U:step P B.bN ih (.aw f N c E H)=.done x E' H')
  (h:R B H w G) (V:TR N G E a) (hd:a.defers=[]):Code.wp P c (iY B N H.next G w x E' H') a w:=by
 cases c with
 |skip=>
  simp only[step,Res.done.injEq]at U;obtain⟨rfl,rfl,rfl⟩:=U;exact wp_skip ⟨rfl,G,V,ik h,hd⟩
 |region id ops draw=>
  cases draw with
  |false=>
   exact wp_region_list (AC fit C ops.toList U h V hd (fun _ _ _ hp=>hp))
  |true=>exact L9 fit C U h V hd
 |seq p q=>
  obtain⟨x1,E1,H1,o,m⟩:=A3 C U;refine wp_seq (pB (fun e J I z=>?_) (C.aw _ _ _ _ _ _ _ _ o G w a h V hd));obtain⟨rfl,W,O,Y,Z⟩:=z;rcases m with⟨rfl,m⟩|⟨L,rfl,rfl,rfl⟩
  .exact pB (fun e a w z=>xi Y z) (C.aw _ _ _ _ _ _ _ _ m W I J Y.r O Z)
  .cases x with
   |normal=>exact(L rfl).elim
   |exit id=>exact⟨rfl,W,O,Y,Z⟩
   |ret=>exact⟨rfl,W,O,Y,Z⟩
 |cond y p q=>
  simp only[step,rG]at U;split at U
  .rename_i hy;have M:=AB V hy;have:a.eval y=.bool true:=by generalize a.eval y=v at M;cases M;rfl
   exact wp_cond_true this (C.aw _ _ _ _ _ _ _ _ U G w a h V hd)
  .rename_i hy;have M:=AB V hy;have:a.eval y=.bool false:=by generalize a.eval y=v at M;cases M;rfl
   exact wp_cond_false this (C.aw _ _ _ _ _ _ _ _ U G w a h V hd)
  .simp at U
 |block id p=>
  simp only[step]at U;cases o:ih (.aw f N p E H)with
  |done x1 E1 H1=>
   rw[o]at U;refine wp_block (pB (fun e J I z=>?_) (C.aw _ _ _ _ _ _ _ _ o G w a h V hd));obtain⟨rfl,W,O,Y,Z⟩:=z;cases x1 with
   |normal=>
    simp only[kA,Res.done.injEq]at U;obtain⟨rfl,rfl,rfl⟩:=U;exact⟨rfl,W,O,Y,Z⟩
   |ret=>
    simp only[kA,Res.done.injEq]at U;obtain⟨rfl,rfl,rfl⟩:=U;exact⟨rfl,W,O,Y,Z⟩
   |exit id'=>
    simp only[kA]at U;cases M:Nat.beq id' id with
    |true=>
     rw[M]at U;simp only[Res.done.injEq]at U;obtain⟨rfl,rfl,rfl⟩:=U;have:=gM M;subst this;simp only[Az,Exit.inBlock,cg];exact⟨rfl,W,O,Y,Z⟩
    |false=>
     rw[M]at U;simp only[Res.done.injEq]at U;obtain⟨rfl,rfl,rfl⟩:=U;have:=z6 M;simp only[Az,Exit.inBlock];rw[ao this];exact⟨rfl,W,O,Y,Z⟩
  |val v H1=>rw[o]at U;simp[kA]at U
  |aM=>rw[o]at U;simp[kA]at U
 |loop p=>
  refine wp_loop_rounds (n+1) ?_;rw[rounds_succ];obtain⟨x1,E1,H1,o,m⟩:=A3 C U;refine pB (fun e J I z=>?_) (C.aw _ _ _ _ _ _ _ _ o G w a h V hd);obtain⟨rfl,W,O,Y,Z⟩:=z;rcases m with⟨rfl,m⟩|⟨L,rfl,rfl,rfl⟩
  .exact AA (fun e a w z=>xi Y z) (C.loop _ _ _ _ _ _ _ _ m W I J Y.r O Z)
  .cases x with
   |normal=>exact(L rfl).elim
   |exit id=>exact⟨rfl,W,O,Y,Z⟩
   |ret=>exact⟨rfl,W,O,Y,Z⟩
 |exit id=>
  simp only[step,Res.done.injEq]at U;obtain⟨rfl,rfl,rfl⟩:=U;exact wp_exit ⟨rfl,G,V,ik h,hd⟩
 |ret=>
  simp only[step,Res.done.injEq]at U;obtain⟨rfl,rfl,rfl⟩:=U;exact wp_ret ⟨rfl,G,V,ik h,hd⟩
 |rangeFunc _ _ _ _=>simp[step]at U
 |scope _=>simp[step]at U
 |label _=>simp[step]at U
 |goto _=>simp[step]at U
 |refuse _=>simp[step]at U
def Mf(V:Fit P)(C:Snd P B n ih){M:ax}(L:step P B.bN ih (.aw f N (.loop c) E H)=.done x M H')
  (h:R B H w G) (J:TR N G E a) (hd:a.defers=[]):Code.rounds P c (iY B N H.next G w x M H') (n+1) a w:=by
 rw[rounds_succ];obtain⟨x1,E1,H1,h1,m⟩:=A3 C L;refine pB (fun e I o z=>?_) (C.aw _ _ _ _ _ _ _ _ h1 G w a h J hd);obtain⟨rfl,Z,O,Y,U⟩:=z;rcases m with⟨rfl,m⟩|⟨W,rfl,rfl,rfl⟩
 .exact AA (fun e a w z=>xi Y z) (C.loop _ _ _ _ _ _ _ _ m Z o I Y.r O U)
 .cases x with
  |normal=>exact(W rfl).elim
  |exit id=>exact⟨rfl,Z,O,Y,U⟩
  |ret=>exact⟨rfl,Z,O,Y,U⟩
theorem Ea(fit:Fit P)(hc:Ma P B):∀n,Snd P B n (cI P B.bN n)
 |0=>⟨fun _ _ _ _ _ h=>by simp[cI]at h,fun _ _ _ _ _ _ _ _ h=>by simp[cI]at h,fun _ _ _ _ _ _ _ _ h=>by simp[cI]at h⟩
 |n+1=>by
  have Y:=Ea fit hc n;have he:cI P B.bN (n+1)=step P B.bN (cI P B.bN n):=rfl;rw[he];refine⟨fun f C H r H' U G w vs h W=>?_,fun f N c E H x E' H' U G w a h ht hd=>Me fit Y U h ht hd,fun f N c E H x E' H' U G w a h ht hd=>Mf fit Y U h ht hd⟩;have Z:∀{G:Gh}{C:ql}{vs:qt}{H:Hp}{M:AV},B.bN.call f C=some M->R B H w G->bZ G C vs ->
   (∃m,P.funcs[f]?=some m/\m.body.isSome=true)/\Calls P f vs.toArray w (fun e L=>∃v O,e=.returned v/\VR O M v/\Step B H.next G w H L O):=fun{G C vs H M} hr h W=>by
   obtain⟨h1,h2⟩:=hc f C M hr;refine⟨h1,(h2 G w vs h.val h.b1 W).mono fun e L J=>?_⟩;obtain⟨v,F',rfl,z,hg⟩:=J;exact⟨v,_,rfl,z,h.dT hg⟩
  have I:∀{G:Gh}{C:ql}{vs:qt}{H H':Hp}{r:AV},lB P B.bN (cI P B.bN n) f C H=.val r H'->R B H w G->bZ G C vs ->
   (∃m,P.funcs[f]?=some m/\m.body.isSome=true)/\Calls P f vs.toArray w (fun e L=>∃v O,e=.returned v/\VR O r v/\Step B H.next G w H' L O):=fun{G C vs H H' r} U h W=>by
   unfold lB at U;split at U
   .unfold uR at U;split at U
    .rename_i asx H1 hice;split at U
     .rename_i M hr;simp only[Res.val.injEq]at U;obtain⟨rfl,rfl⟩:=U;obtain⟨G1,s1,r1⟩:=xt (xu 100) C vs H asx H1 G h W hice;unfold wV;split
      .rename_i hfl;obtain⟨h1,h2⟩:=hc f asx M hr;refine⟨h1,(h2 G1 w vs s1.r.val s1.r.b1 r1).mono fun e L J=>?_⟩;obtain⟨v,F',rfl,z,hg⟩:=J;exact⟨v,{G with F:=G.F},rfl,Mb hfl z,h.dT ⟨hg.below,fun _ _ _ h=>h,fun _ _ _ h=>.inl h,fun b o v hF=>hg.b1 b o v (hg.more b o v (s1.ext.F b o v hF))⟩⟩
      .obtain⟨h1,h2⟩:=Z hr s1.r r1;refine⟨h1,h2.mono fun e L J=>?_⟩;obtain⟨v,O,rfl,z,V⟩:=J;exact⟨v,O,rfl,z,s1.trans V⟩
     .exact A2 fit Y U h W
    .exact A2 fit Y U h W
   .exact A2 fit Y U h W
  simp only[step]at U;split at U
  .rename_i M hr;simp only[Res.val.injEq]at U;obtain⟨rfl,rfl⟩:=U;exact Z hr h W
  .unfold te at U;split at U
   .rename_i v1 H1 hz hv1;obtain⟨g1,g2⟩:=I hv1 h W;refine⟨g1,g2.mono fun e L J=>?_⟩;obtain⟨v,O,rfl,z,V⟩:=J;cases hi:hY 100 v1 H1 with
    |none=>rw[hi]at U;simp[eA]at U
    |some p=>
     obtain⟨q,H2⟩:=p;rw[hi]at U;simp only[eA,Res.val.injEq]at U;obtain⟨rfl,rfl⟩:=U;obtain⟨G2,s2,r2⟩:=xu 100 v1 H1 _ _ O v V.r z hi;exact⟨v,G2,rfl,r2,V.trans s2⟩
   .exact I U h W
end
open Go Go.RowKit Go.WideShapes Go.ChangeShapes
theorem Mg(r:Nat):bE.get r=none:=rfl
theorem R.start(Z:∀b o v,G.F b o=some v->w.cell? ⟨b,o,none⟩=some v)(C:∀r,G.β r=none)(J:kF cfg.b9 G.ρ):R ⟨w.heap.size,G.ρ,cfg⟩ bE w G:=by
 refine⟨az _,?_,?_,?_,?_,?_,?_,?_,?_,?_,Z,rfl,J,?_⟩<;>intros<;>simp_all
theorem tw{g:AV->qr}:∀{cs J:ql},iceL g cs=some J->J.length=cs.length/\∀(i:Nat) d,J[i]?=some d->∃c,cs[i]?=some c/\g c=some d
 |[],J,h=>by
  simp only[iceL,aC]at h;subst h;exact⟨rfl,aE⟩
 |c::cs,J,h=>by
  simp only[iceL]at h;split at h
  .rename_i d C o m;simp only[aC]at h;subst h;obtain⟨I,Z⟩:=tw m;refine⟨by simp[I],fun i e z=>?_⟩;cases i with
   |zero=>simp at z;subst z;exact⟨c,rfl,o⟩
   |succ i=>exact Z i e xl
  .simp at h
theorem Eb{g:AV->qr}:∀{cs J:List ql},pp g cs=some J->J.length=cs.length/\∀(i:Nat) d,J[i]?=some d->∃c,cs[i]?=some c/\iceL g c=some d
 |[],J,h=>by
  simp only[pp,aC]at h;subst h;exact⟨rfl,aE⟩
 |c::cs,J,h=>by
  simp only[pp]at h;split at h
  .rename_i d C o m;simp only[aC]at h;subst h;obtain⟨I,Z⟩:=Eb m;refine⟨by simp[I],fun i e z=>?_⟩;cases i with
   |zero=>simp at z;subst z;exact⟨c,rfl,o⟩
   |succ i=>exact Z i e xl
  .simp at h
theorem vn{H:Hp}{G G2:Gh}{w:World}(hρ:G2.ρ=G.ρ)(hF:∀b o v,G.F b o=some v->G2.F b o=some v)
 (Y:∀r b o x cs imm tip,G.β r=some (b,o,x)->H.get r=some (.cells cs imm tip)->gl G w b o cs/\∀j v,w.cell? ⟨b,o+j,none⟩=some v->G2.F b (o+j)=some v) :
 ∀(n:Nat) (v:AV) (x:Value) (q:AV),VR G v x->iceV H n v=some q->VR G2 q x
 |0,_,_,_,_,h=>by simp[iceV]at h
 |n+1,v,x,q,hv,h=>by
  have hlist:∀{cs ds:ql}{vs:qt},bZ G cs vs->iceL (iceV H n) cs=some ds->bZ G2 ds vs:=fun{cs ds vs} V hi=>by
   obtain⟨h1,h2⟩:=tw hi;refine⟨by rw[h1];exact V.1,fun i d u hd hu=>?_⟩;obtain⟨c,hc,hcd⟩:=h2 i d hd;exact vn hρ hF Y n c u d (V.2 i c u hc hu) hcd
  cases hv with
  |int k a=>simp only[iceV,aC]at h;subst h;exact .int _ _
  |sx k e=>simp only[iceV,aC]at h;subst h;rw[<-hρ];exact .sx _ _
  |bool b=>simp only[iceV,aC]at h;subst h;exact .bool _
  |ag s l hs=>simp only[iceV,aC]at h;subst h;exact .ag _ _ hs
  |bl=>simp only[iceV,aC]at h;subst h;exact .bl
  |a6=>simp only[iceV,aC]at h;subst h;exact .a6
  |bz=>simp only[iceV,aC]at h;subst h;exact .bz
  |aa=>simp only[iceV,aC]at h;subst h;exact .aa
  |ptr _=>simp[iceV]at h
  |a2 _ _ _=>simp[iceV]at h
  |map _=>simp[iceV]at h
  |a9 _ _=>simp[iceV]at h
  |agg hl V=>
   simp only[iceV]at h;split at h
   .rename_i ds hds;simp only[aC]at h;subst h;have:=hlist ⟨hl,V⟩ hds;exact .agg this.1 this.2
   .simp at h
  |aO hl V=>
   simp only[iceV]at h;split at h
   .rename_i ds hds;simp only[aC]at h;subst h;have:=hlist ⟨hl,V⟩ hds;exact .aO this.1 this.2
   .simp at h
  |lst0 a cap=>
   simp only[iceV,pp,aC]at h;subst h;exact .lst0 _ _
  |aq vs hz hFx hvx hc=>
   rename_i xs b o cap z;simp only[iceV]at h;split at h
   .rename_i ys hys;simp only[aC]at h;subst h;obtain⟨h1,h2⟩:=Eb hys;rw[<-h1];refine .aq vs (z:=z) (fun i I hr=>?_) (fun i j hi hj=>hF _ _ _ (hFx i j (by rw[<-h1];exact hi) hj)) (fun i j I c hr hcj=>?_) (by rw[h1];exact hc)
    .obtain⟨c,L,hc2⟩:=h2 i I hr;rw[(tw hc2).1];exact hz i c L
    .obtain⟨c0,L,hc2⟩:=h2 i I hr;obtain⟨c1,hc3,hc4⟩:=(tw hc2).2 j c hcj;exact vn hρ hF Y n c1 (vs i j) c (hvx i j c0 c1 L hc3) hc4
   .simp at h
  |sl hr hl hcx=>
   rename_i r J W z b o xx cap;simp only[iceV]at h;split at h
   .rename_i cs imm tip hg;split at h
    .rename_i l hil;split at h
     .rename_i M;simp only[aC]at h;subst h;obtain⟨hh,hnew⟩:=Y r b o xx cs imm tip hr hg;obtain⟨h1,h2⟩:=tw hil;have Z:∀(m:Nat) c,l[m]?=some c->∃v,w.cell? ⟨b,o+J+m,none⟩=some v/\VR G2 c v:=fun m c hm=>by
       obtain⟨c0,C,L⟩:=h2 m c hm;rw[mY]at C;split at C
       .rw[px]at C;obtain⟨v,U,hv2⟩:=hh _ _ C;exact⟨v,by rw[iE];exact U,vn hρ hF Y n c0 v c hv2 L⟩
       .simp at C
      have hlc:=A0 z W l;have hin:∀i j,i<W->j<z->i*z+j<l.length:=fun i j hi hj=>by
       rw[M]
       calc i*z+j<i*z+z:=by omega
        _=(i+1)*z:=by rw[lF,xo]
        _<=W*z:=uV _ hi
      have key:VR G2 (.aq (gL z W l)) (.slice (some ⟨b,o+J,none⟩) (gL z W l).length cap):=by
       refine .aq (fun i j=>(w.cell? ⟨b,o+J+(i*z+j),none⟩).getD undef) (z:=z) (fun i I O=>(vm z W l i I M O).1) (fun i j hi hj=>?_) (fun i j I c O hcj=>?_) (by rw[hlc];exact hl)
       .rw[hlc]at hi;have hm:=hin i j hi hj;obtain⟨v,U,_⟩:=Z (i*z+j) _ (bc hm);rw[U];have:=hnew (J+(i*z+j)) v (by rw[<-iE];exact U);rw[show o+J+i*z+j=o+(J+(i*z+j)) by omega];exact this
       .have hm:=(vm z W l i I M O).2 j c hcj;obtain⟨v,U,hv2⟩:=Z (i*z+j) c hm;rw[U];exact hv2
      rw[hlc]at key;exact key
     .simp at h
    .simp at h
   .simp at h
def Mh(w:World){G2:Gh}(J:G2.ρ=G.ρ)(V:∀b o v,G.F b o=some v->G2.F b o=some v)(h:pq m C=true)(Y:bZ G C vs):bZ G2 C vs:=by
 unfold pq at h;split at h
 .rename_i z Z;have:=mB h;subst this;obtain⟨h1,h2⟩:=tw Z;refine⟨Y.1,fun i c v hc L=>?_⟩;obtain⟨c0,U,M⟩:=h2 i c hc;rw[hc]at U;simp only[aC]at U;subst U;exact vn (H:=bE) (w:=w) J V (fun r b o x cs W O _ I=>by simp[Mg]at I) m c v c (Y.2 i c v hc L) M
 .simp at h
def A4{f:FuncId}(h:ly P ih f C H=.val r H'):∃M,P.funcs[f]?=some M/\M.body.isSome=true:=by
 unfold ly at h;split at h
 .rename_i M V;split at h
  .rename_i c Z;exact⟨M,V,by simp[Z]⟩
  .simp at h
 .simp at h
theorem Mi{ρ:Nat->Int}(L:∀f C r,cfg.call f C=some r->cp P ρ f C r){f:FuncId}{C:ql}{r:AV}(h:cI P cfg n (.call f C H)=.val r H'):
 ∃M,P.funcs[f]?=some M/\M.body.isSome=true:=by
 cases n with
 |zero=>simp[cI]at h
 |succ n=>
  have z:cI P cfg (n+1)=step P cfg (cI P cfg n):=rfl;rw[z]at h;simp only[step]at h;split at h
  .rename_i Z hr;exact(L f C Z hr).1
  .have I:∀{r:AV}{H':Hp},lB P cfg (cI P cfg n) f C H=.val r H'->∃M,P.funcs[f]?=some M/\M.body.isSome=true:=fun{r H'} h=>by
    unfold lB at h;split at h
    .unfold uR at h;split at h
     .split at h
      .rename_i hr;exact(L _ _ _ hr).1
      .exact A4 h
     .exact A4 h
    .exact A4 h
   unfold te at h;split at h
   .rename_i Y;exact I Y
   .exact I h
def Ec(fit:Fit P){ρ:Nat->Int}(hD:kF cfg.b9 ρ)(hc:∀f C r,cfg.call f C=some r->cp P ρ f C r){f:FuncId}{C:ql}{r:AV}
 (hp:pq k C=true) (h:wW P cfg n m f C=some r):cp P ρ f C r:=by
 unfold wW at h;split at h
 .rename_i v0 H' z;refine⟨Mi hc z,fun G w vs J V Y=>?_⟩;subst J;have I:bZ {G with β:=fun _=>none} C vs:=Mh w (G:=G) (G2:={G with β:=fun _=>none}) rfl (fun _ _ _ h=>h) hp Y;have hr0:R ⟨w.heap.size,G.ρ,cfg⟩ bE w {G with β:=fun _=>none}:=R.start (G:={G with β:=fun _=>none}) V (fun _=>rfl) hD;refine((Ea (B:=⟨w.heap.size,G.ρ,cfg⟩) fit hc n).call f C bE _ H' z _ w vs hr0 I).2.mono fun e L hh=>?_;obtain⟨x,G',rfl,hx,U⟩:=hh;have Z:Below w.heap.size w L:=⟨U.fr.os,U.fr.tape,U.fr.output,U.fr.size,fun k hk=>U.fr.block k hk (fun r b o x hr=>by simp at hr)⟩;refine⟨x,fun b o=>if b<w.heap.size then G.F b o else L.cell? ⟨b,o,none⟩,rfl,?_,Z,fun b o v Y=>?_,fun b o v Y=>?_,fun b o v Y=>?_⟩
  .refine vn (G:=G') (w:=L) (H:=H') ?_ (fun b o v Y=>?_) (fun r b o x cs O M hr hg=>?_) m v0 x r hx h
   .exact U.ext.ρ.symm
   .rcases U.dj b o v Y with W|W
    .show(if b<w.heap.size then G.F b o else L.cell? ⟨b,o,none⟩)=some v;rw[aB (lH (V b o v W))];exact W
    .show(if b<w.heap.size then G.F b o else L.cell? ⟨b,o,none⟩)=some v;rw[ao (by have:w.heap.size<=b:=W;omega)];exact U.r.b1 b o v Y
   .refine⟨U.r.cells r b o x cs O M hr hg,fun j v hj=>?_⟩;have W:w.heap.size<=b:=(U.r.lt r b o x hr).1;show(if b<w.heap.size then G.F b (o+j)else L.cell? ⟨b,o+j,none⟩)=some v;rw[ao ac];exact hj
  .rw[aB (lH (V b o v Y))];exact Y
  .split at Y
   .exact .inl Y
   .exact .inr ac
  .split at Y
   .rename_i hb;rw[(AZ Z hb).1];exact V b o v Y
   .exact Y
 .simp at h
def Mj{ρ:Nat->Int}{f:FuncId}{b:Bool}(h:cp P ρ f C (.bool b)){F:Nat->Nat->qK}
 (V:∀b o v,F b o=some v->w.cell? ⟨b,o,none⟩=some v) (Y:bZ ⟨fun _=>none,F,ρ⟩ C vs) :
 Calls P f vs.toArray w (fun e L=>e=.returned (.bool b)/\Below w.heap.size w L):=by
 refine(h.2 ⟨fun _=>none,F,ρ⟩ w vs rfl V Y).mono fun e L Z=>?_;obtain⟨v,U,rfl,hr,W⟩:=Z;cases hr;exact⟨rfl,W.below⟩
def Mk(fit:Fit P){ρ:Nat->Int}(J:kF cfg.b9 ρ)(L:∀f C r,cfg.call f C=some r->cp P ρ f C r){f:FuncId}{C:ql}{r:AV}
 (V:pq k C=true) (h:zX P cfg n m f C r=true):cp P ρ f C r:=by
 unfold zX at h;split at h
 .rename_i q o;rw[<-AV.beq_eq h];exact Ec fit J L V o
 .simp at h
def tz(ρ:Nat->Int):kF (fun _ _ _=>none) ρ:=fun _ _ _ _ _ h=>jk
def vo(P:Program)(ρ:Nat->Int):List (FuncId×ql×AV)->Prop
 |[]=>True
 |p::l=>cp P ρ p.1 p.2.1 p.2.2/\vo P ρ l
theorem xw{P:Program}{ρ:Nat->Int}:∀{l:List (FuncId×ql×AV)},vo P ρ l->∀f C r,rH l f C=some r->cp P ρ f C r
 |[],_,_,_,_,h=>by simp[rH]at h
 |p::l,hk,f,C,r,h=>by
  simp only[rH]at h;split at h
  .rename_i o;split at h
   .rename_i J;simp only[aC]at h;subst h;rw[<-gM o,<-mB J];exact hk.1
   .exact xw hk.2 f C r h
  .exact xw hk.2 f C r h
def xy:List (Nat×Nat×zai)->FuncId->Nat->zai
 |[],_,_=>.text
 |p::l,f,id=>match Nat.beq p.1 f with
  |true=>match Nat.beq p.2.1 id with
   |true=>p.2.2
   |false=>xy l f id
  |false=>xy l f id
def Ml(pls:List (Nat×Nat×zai))(l:List (FuncId×ql×AV)):Cfg:={keep:=fun _=>false,call:=rH l,aF:=fun f=>l.any fun p=>Nat.beq p.1 f,bM:=xy pls}
def Mm(fit:Fit P){ρ:Nat->Int}{pls:List (Nat×Nat×zai)}{l:List (FuncId×ql×AV)}(W:vo P ρ l){f:FuncId}
 (V:pq k C=true) (h:zX P (Ml pls l) n m f C r=true):cp P ρ f C r:=Mk fit (tz ρ) (xw W) V h
def Ed(P:Program):Bool:=P.funcs.all (fun M=>!(M.body.isSome&&M.name == "runtime.NumGoroutine"))&&P.follows .mixedOrders
def Fit.of(h:Ed P=true):Fit P:=by
 simp only[Ed,ca]at h;refine⟨fun f M Z C=>?_,h.2⟩;have o:=h.1;rw[AJ]at o;have:=o M (by exact Array.mem_of_getElem? Z);simpa [C]using this
section
variable {H:Type} {enc:TypeId × Value -> H} {P:Program}
def Mn{f:Func}{s:ChangeSpec}{apart I J L:Bool}{W U:World}{C:Array Value}{ds O:List (DataW H)}{Y pa pv:List MemPlace}
 (hW:DataW.Whole enc P f.params.toList s.vars apart W C.toList ds O Y)
 (m:∀(b:Nat) (o:Nat->Bool) (hd:Bool),DataW.TrodAll enc P U b o hd f.resultTypes.toList (v.resultList f.resultTypes.size) (s.fn H (ds++O)).results [])
 (Z:∀o:Nat->Bool,(∀p∈Y,o p.block=true)->DataW.TrodAll enc P U 0 o true f.params.toList C.toList (s.fn H (ds++O)).args pa)
 (M:∀o:Nat->Bool,(∀p∈Y,o p.block=true)->DataW.TrodVars enc P U o s.vars (s.fn H (ds++O)).vars pv)
 (V:Y=pa++pv) (hb:Below W.heap.size W U)
 (hok:∀(j:Nat) (t:TypeId) (r:Value),f.resultTypes[j]?=some t->(v.resultList f.resultTypes.size)[j]?=some r->Value.okWide P U .any 0 t r) :
 s.post enc P f apart I J L W C v U:=by
 have hlt:∀p∈Y,p.block<W.heap.size:=fun p hp=>hW.lt p hp;have z:∀p∈Y,(fun b=>decide (b<W.heap.size)) p.block=true:=fun p hp=>by simpa using hlt p hp
 refine⟨ds,O,Y,[],pa,pv,hW,m _ _ _,Z _ z,M _ z,World.keptBut_mono (fun p hp=>⟨hp,?_⟩) (hb.frame (·∈ Y)),fun _=>?_⟩
 .rw[V,ow]at hp;exact Or.inr hp
 .obtain⟨_,_,_,_,_,hz,hn⟩:=hW;refine⟨hok,_,_,([]++pa)++pv,⟨[]++pa,pv,trodAll_append (Z _ (fun _ _=>rfl)) (m _ _ _),M _ (fun _ _=>rfl),rfl,?_,?_⟩,?_⟩
  .intro b off hp;have hin:MemPlace.cell b off∈Y:=by rw[V];simpa using hp
   rw[hb.frozen (hlt _ hin)];exact hz b off hin
  .intro ha;have:=hn ha;rw[V]at this;simpa using this
  .intro p hp _;rw[V];simpa using hp
end
open Go
def cV(ih ih':zac->Res):Prop:=∀t,ih t≠.aM->ih' t=ih t
section
variable {P:Program} {cfg:Cfg} {ih ih':zac -> Res}
def xz(h:cV ih ih'){f:FuncId}{op:Op}(M:cZ P cfg ih f E H op≠.aM):cZ P cfg ih' f E H op=cZ P cfg ih f E H op:=by
 unfold cZ at *;split
 .rename_i c;unfold pj at *;split
  .rename_i g L;simp only[L]at M;split
   .rename_i k O vs o m;simp only[o,m]at M;exact h _ M
   .rfl
  .rfl
  .rfl
 .rfl
theorem vp:hU P cfg ih f N I (o::l) E H=match gH I E o with
 |true=>match cZ P cfg ih f E H o.op with
  | .val v H=>iB (hU P cfg ih f N I l) H (dH N E o.dst v)
  |_=>.aM
 |false=>iB (hU P cfg ih f N I l) H (dH N E o.dst cT):=rfl
theorem xA(h:cV ih ih'){f N:Nat}{I:qo}:∀{l:qo}{E:ax}{H:Hp},hU P cfg ih f N I l E H≠.aM->hU P cfg ih' f N I l E H=hU P cfg ih f N I l E H
 |[],_,_,_=>rfl
 |o::l,E,H,hn=>by
  rw[vp]at hn⊢;rw[vp];cases V:gH I E o with
  |true=>
   simp only[V]at hn⊢;cases Z:cZ P cfg ih f E H o.op with
   |aM=>simp[Z]at hn
   |done x E1 H1=>simp[Z]at hn
   |val v H1=>
    rw[xz h (by rw[Z];simp),Z];simp only[Z]at hn⊢;cases hp:dH N E o.dst v with
    |none=>rfl
    |some E1=>
     rw[hp]at hn;exact xA h hn
  |false=>
   simp only[V]at hn⊢;cases hp:dH N E o.dst cT with
   |none=>rfl
   |some E1=>
    rw[hp]at hn;exact xA h hn
theorem xB(h:cV ih ih'){f N:Nat}{I:qo}:∀{l:qo}{E:ax}{H:Hp},gI P cfg ih f N I l E H≠.aM->gI P cfg ih' f N I l E H=gI P cfg ih f N I l E H
 |[],_,_,_=>rfl
 |o::l,E,H,hn=>by
  have O:∀{r:Rec}{x:zao},lj r x≠.aM->x≠.aM:=fun{r x} Y e=>Y (by rw[e];rfl);simp only[gI]at hn⊢;cases V:gH I E o with
  |true=>
   simp only[V]at hn⊢;cases Z:cZ P cfg ih f E H o.op with
   |aM=>simp[Z]at hn
   |done x E1 H1=>simp[Z]at hn
   |val v H1=>
    rw[xz h (by rw[Z];simp),Z];simp only[Z]at hn⊢;cases hp:dH N E o.dst v with
    |none=>rfl
    |some E1=>
     rw[hp]at hn;have:=xB h (O hn);simp only[ll,this]
  |false=>
   simp only[V]at hn⊢;cases hp:dH N E o.dst cT with
   |none=>rfl
   |some E1=>
    rw[hp]at hn;have:=xB h (O hn);simp only[ll,this]
def Ee(h:cV ih ih'){ops:qo}(M:jU P cfg ih f N ops E H≠.aM):jU P cfg ih' f N ops E H=jU P cfg ih f N ops E H:=by
 unfold jU at *;split
 .rename_i hc;simp only[hc]at M;cases hr:gI P cfg ih f N ops ops E H with
  |aM=>simp[hr]at M
  |done E1 H1 rs=>rw[xB h vc,hr]
 .rfl
theorem Mo{ops:qo}{W U V:Res}(h1:W≠.aM->U=W)(h2:Y≠.aM->V=Y)(M:rE ops W Y≠.aM):rE ops U V=rE ops W Y:=by
 have Z:W≠.aM:=fun e=>M (by rw[e];rfl);have O:Y≠.aM:=fun e=>M (by rw[e];unfold rE;split<;>simp_all);rw[h1 Z,h2 O]
theorem A5(h:cV ih ih'){f N:Nat}{E:ax}{H:Hp}:∀{z:zai}{ops:qo},hT P cfg ih f N E H z ops≠.aM->hT P cfg ih' f N E H z ops=hT P cfg ih f N E H z ops
 | .text,ops,hn=>Ee h hn
 | .b2 ord,ops,hn=>by
   simp only[hT]at *;split
   .rename_i hp;simp only[hp]at hn;exact Ee h hn
   .rfl
 | .split p q a b,ops,hn=>by
   simp only[hT]at *;split
   .rfl
   .rename_i hp;simp only[hp]at hn;exact Mo (fun o=>A5 h o) (fun m=>A5 h m) hn
def Ba(h:cV ih ih'){f:FuncId}(M:ly P ih f C H≠.aM):ly P ih' f C H=ly P ih f C H:=by
 unfold ly at *;split
 .rename_i Z o;simp only[o]at M;split
  .rename_i c Y;simp only[Y]at M;cases hr:ih (.aw f (max Z.ntmps C.length) c (bt 0 C (rF (max Z.ntmps C.length))) H)with
   |aM=>simp[hr]at M
   |val v H1=>rw[h _ vc,hr]
   |done x E1 H1=>rw[h _ vc,hr]
  .rfl
 .rfl
def Mp(h:cV ih ih'){f:FuncId}(M:lB P cfg ih f C H≠.aM):lB P cfg ih' f C H=lB P cfg ih f C H:=by
 unfold lB at *;split
 .rename_i J;simp only[J]at M;unfold uR at *;split
  .rename_i Z H' U;simp only[U]at M;split
   .rfl
   .rename_i o;simp only[o]at M;exact Ba h M
  .rename_i U;simp only[U]at M;exact Ba h M
 .rename_i J;simp only[J]at M;exact Ba h M
theorem Ef(h:cV ih ih'){r Z:Res}(hr:r≠.aM->Z=r)(M:lA ih f N b r≠.aM):lA ih' f N b Z=lA ih f N b r:=by
 cases r with
 |aM=>simp[lA]at M
 |val v H1=>rw[hr aE];rfl
 |done x E1 H1=>
  rw[hr aE];cases x with
  |normal=>exact h _ M
  |exit id=>rfl
  |ret=>rfl
theorem Mq(h:cV ih ih')(M:step P cfg ih t≠.aM):step P cfg ih' t=step P cfg ih t:=by
 cases t with
 |call f C H=>
  simp only[step]at *;split
  .rfl
  .rename_i hc;simp only[hc]at M;have I:lB P cfg ih f C H≠.aM:=fun e=>M (by rw[e];unfold te;split<;>simp_all);rw[Mp h I]
 |aw f N c E H=>
  cases c with
  |region id ops draw=>cases draw with
   |false=>exact xA h M
   |true=>exact A5 h M
  |seq a b=>exact Ef h (h _) M
  |loop a=>exact Ef h (h _) M
  |cond x a b=>
   simp only[step]at *;unfold rG at *;split
   .rename_i hc;simp only[hc]at M;exact h _ M
   .rename_i hc;simp only[hc]at M;exact h _ M
   .rfl
  |block id a=>
   simp only[step]at *;cases hr:ih (.aw f N a E H)with
   |aM=>simp[hr,kA]at M
   |val v H1=>rw[h _ vc,hr]
   |done x E1 H1=>rw[h _ vc,hr]
  |_=>rfl
theorem Eg:∀n,cV (cI P cfg n) (cI P cfg (n+1))
 |0=>fun _ M=>(M rfl).elim
 |n+1=>fun _ M=>Mq (Eg n) M
def Bb(Z:n<=m)(M:cI P cfg n t≠.aM):cI P cfg m t=cI P cfg n t:=by
 induction m with
 |zero=>rw[show n=0 by omega]
 |succ m ih=>
  by_cases h:n=m+1
  .rw[h]
  .have:=ih ac;rw[Eg m t (by rw[this];exact M),this]
def xC(Z:n<=m){r:Res}(h:cI P cfg n t=r)(hr:r≠.aM):cI P cfg m t=r:=by
 rw[Bb Z (by rw[h];exact hr),h]
def cB(P:Program)(cfg:Cfg)(t:zac)(r:Res):Prop:=r≠.aM/\∃n,cI P cfg n t=r
def cB.step{r:Res}(hr:r≠.aM)(h:Ab.step P cfg (cI P cfg n) t=r):cB P cfg t r:=⟨hr,n+1,h⟩
def iI:=@cB.step
section
variable {f N id:Nat} {a b:Code} {x:Operand} {E E1:ax} {H H1:Hp} {r:Res} {ex:AX}
def cB.seq(h1:cB P cfg (.aw f N a E H) (.done .normal E1 H1))(h2:cB P cfg (.aw f N b E1 H1) r):cB P cfg (.aw f N (.seq a b) E H) r:=by
 obtain⟨_,n,h1⟩:=h1;obtain⟨hr,m,h2⟩:=h2;refine iI hr (n:=max n m) ?_;show lA (cI P cfg (max n m)) f N b (cI P cfg (max n m) (.aw f N a E H))=r;rw[xC (xp n m) h1 aE];exact xC (xq n m) h2 hr
theorem Eh(h1:cB P cfg (.aw f N a E H) (.done ex E1 H1))(O:ex≠.normal):cB P cfg (.aw f N (.seq a b) E H) (.done ex E1 H1):=by
 obtain⟨hr,n,h1⟩:=h1;refine iI hr (n:=n) ?_;show lA (cI P cfg n) f N b (cI P cfg n (.aw f N a E H))=_;rw[h1];cases ex with
 |normal=>exact(O rfl).elim
 |exit id=>rfl
 |ret=>rfl
def cB.loop(h1:cB P cfg (.aw f N a E H) (.done .normal E1 H1))(h2:cB P cfg (.aw f N (.loop a) E1 H1) r):cB P cfg (.aw f N (.loop a) E H) r:=by
 obtain⟨_,n,h1⟩:=h1;obtain⟨hr,m,h2⟩:=h2;refine iI hr (n:=max n m) ?_;show lA (cI P cfg (max n m)) f N (.loop a) (cI P cfg (max n m) (.aw f N a E H))=r;rw[xC (xp n m) h1 aE];exact xC (xq n m) h2 hr
theorem Ei(h1:cB P cfg (.aw f N a E H) (.done ex E1 H1))(O:ex≠.normal):cB P cfg (.aw f N (.loop a) E H) (.done ex E1 H1):=by
 obtain⟨hr,n,h1⟩:=h1;refine iI hr (n:=n) ?_;show lA (cI P cfg n) f N (.loop a) (cI P cfg n (.aw f N a E H))=_;rw[h1];cases ex with
 |normal=>exact(O rfl).elim
 |exit id=>rfl
 |ret=>rfl
def Mr(O:aH E x=some (.bool true))(h:cB P cfg (.aw f N a E H) r):cB P cfg (.aw f N (.cond x a b) E H) r:=by
 obtain⟨hr,n,h⟩:=h;refine iI hr (n:=n) ?_;show rG (cI P cfg n) f N x a b E H=r;unfold rG;rw[O];exact h
def Ms(O:aH E x=some (.bool false))(h:cB P cfg (.aw f N b E H) r):cB P cfg (.aw f N (.cond x a b) E H) r:=by
 obtain⟨hr,n,h⟩:=h;refine iI hr (n:=n) ?_;show rG (cI P cfg n) f N x a b E H=r;unfold rG;rw[O];exact h
def cB.block(h:cB P cfg (.aw f N a E H) (.done (.exit id) E1 H1)):cB P cfg (.aw f N (.block id a) E H) (.done .normal E1 H1):=by
 obtain⟨hr,n,h⟩:=h;refine iI aE (n:=n) ?_;show kA id (cI P cfg n (.aw f N a E H))=_;rw[h];simp[kA]
theorem Mt(h:cB P cfg (.aw f N a E H) (.done .normal E1 H1)):cB P cfg (.aw f N (.block id a) E H) (.done .normal E1 H1):=by
 obtain⟨hr,n,h⟩:=h;refine iI aE (n:=n) ?_;show kA id (cI P cfg n (.aw f N a E H))=_;rw[h];rfl
theorem Mu(h:cB P cfg (.aw f N a E H) (.done .ret E1 H1)):cB P cfg (.aw f N (.block id a) E H) (.done .ret E1 H1):=by
 obtain⟨hr,n,h⟩:=h;refine iI aE (n:=n) ?_;show kA id (cI P cfg n (.aw f N a E H))=_;rw[h];rfl
def Mv{O:Nat}(z:Nat.beq O id=false)(h:cB P cfg (.aw f N a E H) (.done (.exit O) E1 H1)):cB P cfg (.aw f N (.block id a) E H) (.done (.exit O) E1 H1):=by
 obtain⟨hr,n,h⟩:=h;refine iI aE (n:=n) ?_;show kA id (cI P cfg n (.aw f N a E H))=_;rw[h];simp only[kA,z]
theorem cB.skip:cB P cfg (.aw f N .skip E H) (.done .normal E H):=iI aE (n:=0) rfl
theorem cB.exit:cB P cfg (.aw f N (.exit id) E H) (.done (.exit id) E H):=iI aE (n:=0) rfl
theorem cB.ret:cB P cfg (.aw f N .ret E H) (.done .ret E H):=iI aE (n:=0) rfl
def cB.region(h:hU P cfg (cI P cfg n) f N ops.toList ops.toList E H=r)(hr:r≠.aM):cB P cfg (.aw f N (.region id ops false) E H) r:=iI hr (n:=n) h
def cB.bK(h:hT P cfg (cI P cfg n) f N E H (cfg.bM f id) ops.toList=r)(hr:r≠.aM):cB P cfg (.aw f N (.region id ops true) E H) r:=iI hr (n:=n) h
def cB.call{v:AV}(z:cfg.call f C=none)(J:cfg.aF f=false)(Z:cfg.ak f=false)(o:P.funcs[f]?=some M)(Y:M.body=some c)
 (h:cB P cfg (.aw f (max M.ntmps C.length) c (bt 0 C (rF (max M.ntmps C.length))) H) (.done ex E1 H1)) (O:ex=.normal\/ex=.ret) (m:td P M.results.toList E1 H1=.val v H1):cB P cfg (.call f C H) (.val v H1):=by
 obtain⟨_,n,h⟩:=h;refine iI aE (n:=n) ?_;simp only[Ab.step,z,J,Z,lB,te];unfold ly;simp only[o,Y,h];rcases O with rfl|rfl<;>exact m
end
end
end Go.Ab
