/- Parts: AbDraw, AbPlan, AbCon, AbSound, AbLaw. -/
import Derived.Below
import Derived.ChangeSame
import Derived.Orders
import Derived.Test.YtpbcimfiofmoeaaGreatRCC
set_option linter.unusedSimpArgs false
set_option linter.unusedVariables false
set_option linter.unusedSectionVars false
set_option linter.defProp false
set_option maxHeartbeats 32000000
namespace Go.Ab
set_option maxRecDepth 20000
open Go
theorem jM{P:Prop}(h:P:=by simpa using h):P:=h
theorem lZ{P:Prop}(h:P:=by rw[e]):P:=h
theorem pS{P:Prop}(h:P:=by simp at h):P:=h
theorem zB{P:Prop}(h:P:=by simp[oJ,hkind]):P:=h
theorem He{P:Prop}(h:P:=by rw[hI.size];exact(List.getElem?_eq_some_iff.1 ho).1):P:=h
theorem zC{P:Prop}(h:P:=by simpa using hun):P:=h
theorem Hf{P:Prop}(h:P:=by rw[hs];have:=(List.getElem?_eq_some_iff.1 ho).1;simpa using this):P:=h
theorem CQ{P:Prop}(h:P:=by rw[List.length_drop];omega):P:=h
def iu:=@List.mem_cons
def mI:=@List.mem_append
def CR:=@List.mem_flatMap
def nK:=@List.mem_range
def uZ:=@Bool.not_true
def tE:=@Bool.false_or
def rX:=@List.mem_filter
def oP:=@Array.getElem?_eq_getElem
def u5:=@Bool.not_eq_true'
def CS:=@Array.all_eq_true_iff_forall_mem
def pT:=@Bool.or_eq_true
def l0:=@List.mem_map
def xf:=@Nat.lt_or_ge
def CT:=@Array.getElem?_eq_none
def zD:=@Nat.lt_trichotomy
def xg:=@List.eq_nil_iff_forall_not_mem
def iY:=@List.getElem?_eq_none
def Hg:=@Array.getElem?_replicate
def CU:=@Bool.true_or
def fm:=@List.mem_cons_self
def gF:=@List.mem_cons_of_mem
def CV:=@List.filter_append
def pU:=@List.map_append
def CW:=@List.mem_iff_getElem?
def u7:=@List.map_map
def xh:=@Bool.and_self
def xi:=@Nat.one_mul
def mJ:=@true_and
end Go.Ab
namespace Go.Ab
set_option maxRecDepth 20000
open Go Go.RowKit
theorem CX{i:Nat}:∀{l acc:List Nat},i∈uM acc l↔i∈acc\/i∈l
 |[],acc=>by simp[uM]
 |x::xs,acc=>by
  simp only[uM];split
  .rename_i h;have hx:x∈acc:=jM;rw[CX,iu];exact⟨fun h=>h.elim .inl (fun h=>.inr (.inr h)),fun h=>h.elim .inl (fun h=>h.elim (fun e=>.inl (by subst e;exact hx)) .inr)⟩
  .rw[CX,iu,iu];exact⟨fun h=>h.elim (fun h=>h.elim (fun e=>.inr (.inl e)) .inl) (fun h=>.inr (.inr h)),fun h=>h.elim (fun h=>.inl (.inr h)) (fun h=>h.elim (fun e=>.inl (.inl e)) .inr)⟩
theorem PK{i:Nat}{l:List Nat}:i∈wO l↔i∈l:=by unfold wO;rw[CX];simp
theorem CY:∀(l:List Oper) (acc:List (List Nat)) (i:Nat),i<acc.length->(io l acc).getD i []=acc.getD i []
 |[],acc,i,_=>rfl
 |o::l,acc,i,h=>by
  simp only[io];rw[CY l _ i cT];simp[List.getD,kG h]
theorem Hh:∀(l:List Oper) (acc:List (List Nat)) (j:Nat) (o:Oper),l[j]?=some o ->
 ∃acc':List (List Nat),acc'.length=acc.length+j/\(∀i,i<acc'.length->(io l acc).getD i []=acc'.getD i [])/\(io l acc).getD (acc.length+j) []=wO (preds o++(preds o).flatMap fun i=>acc'.getD i [])
 |[],_,_,_,h=>by simp at h
 |o::l,acc,0,o',h=>by
  simp at h;subst h;refine⟨acc,rfl,fun i hi=>CY _ _ i hi,?_⟩;simp only[io,uV];rw[CY l _ acc.length aK];simp[List.getD]
 |o::l,acc,j+1,o',h=>by
  obtain⟨acc',h1,h2,h3⟩:=Hh l (acc++[wO (preds o++(preds o).flatMap fun i=>acc.getD i [])]) j o' jM;simp only[eO,mF]at h1 h3;refine⟨acc',ac,h2,?_⟩;simp only[io];rw[show acc.length+(j+1)=acc.length+(0+1)+j by omega];exact h3
theorem PL{l:List Oper}{j:Nat}{o:Oper}(ho:l[j]?=some o)(hp:∀p∈preds o,p<j){i:Nat}:
 i∈(io l []).getD j []↔i∈preds o\/∃p∈preds o,i∈(io l []).getD p []:=by
 obtain⟨acc',h1,h2,h3⟩:=Hh l [] j o ho;simp only[fV,bT]at h1 h3;rw[h3,PK,mI,CR];constructor
 .rintro(h|⟨p,hp1,hp2⟩)
  .exact .inl h
  .exact .inr ⟨p,hp1,by rw[h2 p (by rw[h1];exact hp p hp1)];exact hp2⟩
 .rintro(h|⟨p,hp1,hp2⟩)
  .exact .inl h
  .exact .inr ⟨p,hp1,by rw[<-h2 p (by rw[h1];exact hp p hp1)];exact hp2⟩
structure CalmD (l:List Oper):Prop where
 lt:∀j o,l[j]?=some o->∀p∈preds o,p<j
 guard:∀j o g b,l[j]?=some o->o.guard=some (g,b)->g∈(io l []).getD j []
 clash:∀i j p q,i<j->l[i]?=some p->l[j]?=some q->Ab.clash l p q=true->i∈(io l []).getD j []
theorem PM{l:List Oper}(h:pL l=true):CalmD l:=by
 unfold pL at h;simp only[jL,nK]at h;have key:∀j o,l[j]?=some o->(∀p∈preds o,p<j)/\(∀g b,o.guard=some (g,b)->g∈(io l []).getD j [])/\∀i p,i<j->l[i]?=some p->Ab.clash l p o=true->i∈(io l []).getD j []:=fun j o ho=>by
  have:=h j (eS.1 ho).1;rw[ho]at this;simp only[cJ,jL,jt,nK]at this;obtain⟨⟨h1,h2⟩,h3⟩:=this;refine⟨h1,fun g b hg=>?_,fun i p hi hp hc=>?_⟩
  .rw[hg]at h2;simpa using h2
  .have:=h3 i hi;rw[hp]at this;simp only[hc,uZ,tE]at this;simpa using this
 exact⟨fun j o ho=>(key j o ho).1,fun j o g b ho=>(key j o ho).2.1 g b,fun i j p q hij hi hj=>(key j q hj).2.2 i p hij hi⟩
theorem CZ{l:List Oper}(hc:CalmD l){D:Nat->Prop}(hD:∀j,D j->∀o,l[j]?=some o->∀p∈preds o,D p):
 ∀(j:Nat) o,l[j]?=some o->(∀p∈preds o,D p)->∀i∈(io l []).getD j [],D i:=by
 intro j;induction j using Nat.strongRecOn with
 |_ j ih=>
  intro o ho hp i hi;rcases(PL ho (hc.lt j o ho)).1 hi with h|⟨p,hp1,hp2⟩
  .exact hp i h
  .have hlt:=hc.lt j o ho p hp1;have hjl:=(eS.1 ho).1;have hpl:l[p]?=some (l[p]' ac):=br ac;exact ih p hlt _ hpl (fun q hq=>hD p (hp p hp1) _ hpl q hq) i hp2
theorem nL{l:List Oper}{i:Nat}:i∈je l↔∃o,l[i]?=some o/\oJ o=true:=by
 unfold je;rw[rX,nK];constructor
 .rintro⟨h1,h2⟩;rw[br h1]at h2;exact⟨_,br h1,h2⟩
 .rintro⟨o,h1,h2⟩;exact⟨(eS.1 h1).1,by rw[h1];exact h2⟩
theorem kM{ops:Array Oper}{listed:Array Bool}{i:Nat}:i∈Region.ready .any ops listed↔∃o,ops.toList[i]?=some o/\listed.getD i true=false/\∀p∈preds o,listed.getD p false=true:=by
 unfold Region.ready preds;rw[rX,nK,tz];constructor
 .rintro⟨h1,h2⟩;rw[oP h1]at h2;simp only[cJ,u5,qK,cj,CS,pT]at h2;refine⟨_,oP h1,h2.1,fun p hp=>?_⟩;simp only[l0,rX]at hp;obtain⟨e,⟨he1,he2⟩,rfl⟩:=hp;rcases h2.2 e (by simpa using he1)with h|h
  .rw[he2]at h;simp at h
  .exact h
 .rintro⟨o,h1,h2,h3⟩;have hi:i<ops.size:=by
   rcases xf i ops.size with h|h
   .exact h
   .rw[CT h]at h1;simp at h1
  refine⟨hi,?_⟩;rw[h1];simp only[cJ,u5,qK,cj,CS,pT];refine⟨h2,fun e he=>?_⟩;cases hb:Region.binds .any e with
  |false=>exact .inl rfl
  |true=>exact .inr (h3 e.on (by simp only[l0,rX];exact⟨e,⟨by simpa using he,hb⟩,rfl⟩))
theorem C0{l:List Oper}:∀(k s:Nat),s+k=l.length->∃m,s<=m/\m<=l.length/\(m=l.length\/m∈je l)/\∀j,s<=j->j<m->j∉je l
 |0,s,hs=>⟨s,aM _,ac,.inl ac,fun j h1 h2=>ac⟩
 |k+1,s,hs=>by
  by_cases h:s∈je l
  .exact⟨s,aM _,ac,.inr h,fun j h1 h2=>ac⟩
  .obtain⟨m,h1,h2,h3,h4⟩:=C0 (l:=l) k (s+1) ac;refine⟨m,ac,h2,h3,fun j hj hj'=>?_⟩;by_cases e:j=s
   .subst e;exact h
   .exact h4 j ac hj'
section
variable {P:Program} {B:Bs} {cfg:Cfg}
structure Ctx (P:Program) (cfg:Cfg) (ih:Task->Res) (f N:Nat) (l:List Oper) (E0:aG) (zeo:Hp) (E':aG) (H':Hp) (rs:List Rec):Prop where
 calm:CalmD l
 len:rs.length=l.length
 at':∀(i:Nat) (r:Rec),rs[i]?=some r->∃o,l[i]?=some o/\AtD P cfg ih f N l o r (zfN rs E' i) (zfN rs E' (i+1)) (zeI rs H' i) (zeI rs H' (i+1))
 zeroE:zfN rs E' 0=E0
 zeroH:zeI rs H' 0=zeo
 next:∀i,i<l.length->(zeI rs H' i).next<=(zeI rs H' (i+1)).next
 look:∀(i:Nat) (r:Rec),rs[i]?=some r->r.did=true->∀m,(m∈je l\/m=l.length)->(∀e∈je l,e∈(io l []).getD i []->e<m)->(∀e∈je l,i∈(io l []).getD e []->m<=e) ->
  zdt P cfg r (zeI rs H' m)=true
theorem PN{ih:Task->Res}{f N:Nat}{l:List Oper}{E0 E':aG}{zeo H':Hp}{rs:List Rec}(hc:pL l=true)(hr:jd P cfg ih f N l l E0 zeo=.done E' H' rs)(hl:ti P cfg (nD l) rs H'=true):
 Ctx P cfg ih f N l E0 zeo E' H' rs:=by
 have hch:=xe hr;obtain⟨z1,z2⟩:=CN hch;have hlen:=CM hch;unfold ti at hl;simp only[cJ,jL]at hl;refine⟨PM hc,hlen,fun i r hi=>tC hch hi,z1,z2,fun i hi=>?_,fun i r hi hd m hm h1 h2=>?_⟩
 .have hi':i<rs.length:=by omega
  have hri:=br hi';obtain⟨o,_,ha⟩:=tC hch hri;have h3:=w6 (hl.1 _ (lw hri));rw[ha.eH,ha.eH']at h3;exact h3
 .obtain⟨o,ho,ha⟩:=tC hch hi;have hmeet:y3 (io l []) (je l) i m=true:=by
   unfold y3;simp only[u5,pO,List.any_eq_false,cJ,not_and];refine⟨fun e he hA hle=>?_,fun e he hA hlt=>?_⟩
   .have:=h1 e he (by simpa using hA);have:=w6 hle;omega
   .have:=h2 e he (by simpa using hA);have:e<m:=by simpa [iW]using hlt
    omega
  have hin:∀k,jc o.op=k->(k=.read\/k=.make)->(i,m)∈nD l:=fun k hk hor=>by
   unfold nD;rw[CR];refine⟨i,nK.2 (eS.1 ho).1,?_⟩;rw[ho];have hmem:(i,m)∈((je l++[l.length]).filter (y3 (io l []) (je l) i)).map fun m=>(i,m):=
    l0.2 ⟨m,rX.2 ⟨by simpa using hm,hmeet⟩,rfl⟩
   rcases hor with rfl|rfl<;>simp only[hk]<;>exact hmem
  have hsame:(i,m)∈nD l->zdt P cfg r (zeI rs H' m)=true:=fun h=>by
   have:=hl.2 _ h;simp only[hi,hd,uZ,tE]at this;exact this
  have hro:r.o=o:=ha.eo;cases hk:jc o.op with
  |read=>exact hsame (hin _ hk (.inl rfl))
  |make=>exact hsame (hin _ hk (.inr rfl))
  |calm=>unfold zdt;rw[hro,hk]
  |act=>unfold zdt;rw[hro,hk]
section
variable {ih:Task -> Res} {f N:Nat} {ops:Array Oper} {E0 E':aG} {zeo H':Hp} {rs:List Rec} (cx:Ctx P cfg ih f N ops.toList E0 zeo E' H' rs)
include cx
theorem Ctx.record{i:Nat}{o:Oper}(ho:ops.toList[i]?=some o):∃r,rs[i]?=some r/\AtD P cfg ih f N ops.toList o r (zfN rs E' i) (zfN rs E' (i+1)) (zeI rs H' i) (zeI rs H' (i+1)):=by
 have hi:i<rs.length:=by rw[cx.len];exact(eS.1 ho).1
 obtain⟨o',h1,h2⟩:=cx.at' i _ (br hi);rw[ho]at h1;simp only[aQ]at h1;subst h1;exact⟨_,br hi,h2⟩
theorem Ctx.gap:∀(d s:Nat),s+d<=ops.toList.length->(∀j,s<=j->j<s+d->j∉je ops.toList) ->
 (zeI rs H' s).next<=(zeI rs H' (s+d)).next/\∀r,r<(zeI rs H' s).next->(zeI rs H' (s+d)).get r=(zeI rs H' s).get r
 |0,s,_,_=>⟨aM _,fun _ _=>rfl⟩
 |d+1,s,hs,hn=>by
  obtain⟨h1,h2⟩:=Ctx.gap d s ac (fun j hj hj'=>hn j hj ac);have hlt:s+d<ops.toList.length:=ac;obtain⟨r,hr,ha⟩:=cx.record (br hlt);have hna:oJ (ops.toList[s+d])=false:=by
   cases hact:oJ (ops.toList[s+d])with
   |false=>rfl
   |true=>exact(hn (s+d) ac ac (nL.2 ⟨_,br hlt,hact⟩)).elim
  have hstep:zeI rs H' (s+d+1)=zeI rs H' (s+d)\/∃blk,zeI rs H' (s+d+1)=(zeI rs H' (s+d)).alloc blk:=by
   cases hd:r.did with
   |true=>exact PJ hna (ha.yes hd)
   |false=>exact .inl (ha.no hd).2
  rw[show s+(d+1)=s+d+1 by omega];rcases hstep with e|⟨blk,e⟩
  .rw[e];exact⟨h1,h2⟩
  .rw[e];refine⟨cT,fun k hk=>?_⟩;rw[zd1,ah ac];exact h2 k hk
theorem Ctx.nextMono:∀(d s:Nat),s+d<=ops.toList.length->(zeI rs H' s).next<=(zeI rs H' (s+d)).next
 |0,_,_=>aM _
 |d+1,s,hs=>dr (Ctx.nextMono d s ac) (by rw[show s+(d+1)=s+d+1 by omega];exact cx.next _ ac)
theorem Ctx.slotAt(t:Nat):∀s,s<=ops.toList.length ->
 (∃(i:Nat) (r:Rec) (o:Oper),i<s/\rs[i]?=some r/\ops.toList[i]?=some o/\o.dst=some t/\(∀(j:Nat) (o':Oper),j<s->ops.toList[j]?=some o'->o'.dst=some t->j<=i)/\(zfN rs E' s).at t=r.val) \/
 ((∀(j:Nat) (o':Oper),j<s->ops.toList[j]?=some o'->o'.dst≠some t)/\(zfN rs E' s).at t=E0.at t)
 |0,_=>.inr ⟨fun j o' hj=>ac,by rw[cx.zeroE]⟩
 |s+1,hs=>by
  have ho:ops.toList[s]?=some (ops.toList[s]' ac):=br ac;obtain⟨r,hr,ha⟩:=cx.record ho;have hput:=ha.put;have hprev:=Ctx.slotAt t s ac;by_cases hd:(ops.toList[s]' ac).dst=some t
  .refine .inl ⟨s,r,_,ac,hr,ho,hd,fun j o' hj _ _=>ac,?_⟩;rw[hd]at hput;simp only[fD]at hput;split at hput
   .simp only[aQ]at hput;rw[<-hput,uR,aE rfl]
   .simp at hput
  .have hsame:(zfN rs E' (s+1)).at t=(zfN rs E' s).at t:=by
    cases hdst:(ops.toList[s]' ac).dst with
    |none=>
     rw[hdst]at hput;simp only[fD,aQ]at hput;rw[<-hput]
    |some d=>
     rw[hdst]at hput hd;simp only[fD]at hput;split at hput
     .simp only[aQ]at hput;rw[<-hput,uR,ah (fun e=>hd lZ)]
     .simp at hput
   rw[hsame];rcases hprev with⟨i,r',o',h1,h2,h3,h4,h5,h6⟩|⟨h1,h2⟩
   .refine .inl ⟨i,r',o',ac,h2,h3,h4,fun j o'' hj hjo hjd=>?_,h6⟩;by_cases e:j=s
    .subst e;rw[ho]at hjo;simp only[aQ]at hjo;subst hjo;exact(hd hjd).elim
    .exact h5 j o'' ac hjo hjd
   .refine .inr ⟨fun j o' hj hjo=>?_,h2⟩;by_cases e:j=s
    .subst e;rw[ho]at hjo;simp only[aQ]at hjo;subst hjo;exact hd
    .exact h1 j o' ac hjo
end
def gc(listed:Array Bool)(j:Nat):Prop:=listed.getD j false=true
def u9(rs:List Rec)(l:List Oper)(E0:aG)(D:Nat->Prop)(G:Gh)(a:Act):Prop:=∀t,
 (∃(i:Nat) (r:Rec) (o:Oper),D i/\rs[i]?=some r/\l[i]?=some o/\o.dst=some t/\(∀(j:Nat) (o':Oper),D j->l[j]?=some o'->o'.dst=some t->j<=i)/\VR G r.val (a.tmps.getD t undef)) \/
 ((∀(j:Nat) (o':Oper),D j->l[j]?=some o'->o'.dst≠some t)/\VR G (E0.at t) (a.tmps.getD t undef))
theorem u9.agree{ih:Task->Res}{f N:Nat}{ops:Array Oper}{E0 E':aG}{zeo H':Hp}{rs:List Rec}(cx:Ctx P cfg ih f N ops.toList E0 zeo E' H' rs){D:Nat->Prop}{G:Gh}{a:Act}(hs:u9 rs ops.toList E0 D G a){t s:Nat}
 (hsl:s<=ops.toList.length) (hag:∀(j:Nat) (o:Oper),ops.toList[j]?=some o->o.dst=some t->(D j↔j<s)):VR G ((zfN rs E' s).at t) (a.tmps.getD t undef):=by
 rcases cx.slotAt t s hsl with⟨i,r,o,h1,h2,h3,h4,h5,h6⟩|⟨h1,h2⟩
 .rw[h6];have hDi:=(hag i o h3 h4).2 h1;rcases hs t with⟨i',r',o',g1,g2,g3,g4,g5,g6⟩|⟨g1,_⟩
  .have e1:=h5 i' o' ((hag i' o' g3 g4).1 g1) g3 g4;have e2:=g5 i o hDi h3 h4;have:i'=i:=ac;subst this;rw[h2]at g2;simp only[aQ]at g2;subst g2;exact g6
  .exact(g1 i o hDi h3 h4).elim
 .rw[h2];rcases hs t with⟨i',r',o',g1,g2,g3,g4,g5,g6⟩|⟨_,g2⟩
  .exact(h1 i' o' ((hag i' o' g3 g4).1 g1) g3 g4).elim
  .exact g2
structure InvD (rs:List Rec) (l:List Oper) (N:Nat) (B:Bs) (nx0:Nat) (E0:aG) (H':Hp) (G0:Gh) (w0:World) (listed:Array Bool) (a:Act) (w:World) (m:Nat) (G:Gh):Prop where
 size:listed.size=l.length
 closed:∀j,gc listed j->∀o,l[j]?=some o->∀p∈preds o,gc listed p
 le:m<=l.length
 act:m=l.length\/m∈je l
 notyet:¬gc listed m
 acts:∀e∈je l,e<m->gc listed e
 step:Step B nx0 G0 w0 (zeI rs H' m) w G
 low:∀r p,G.β r=some p->r<nx0\/∃j,gc listed j/\j<l.length/\(zeI rs H' j).next<=r/\r<(zeI rs H' (j+1)).next
 slots:u9 rs l E0 (gc listed) G a
 frame:a.tmps.size=N
 defers:a.defers=[]
theorem gc.set{listed:Array Bool}{i:Nat}(hi:i<listed.size)(j:Nat):gc (listed.setIfInBounds i true) j↔j=i\/gc listed j:=by
 unfold gc;rw[jh,jh,tn];by_cases e:i=j
 .subst e;simp[hi]
 .rw[ah e];constructor
  .exact fun h=>.inr h
  .rintro(h|h)
   .exact(e h.symm).elim
   .exact h
def lx:=@gc.set
theorem u9.put{rs:List Rec}{l:List Oper}{E0:aG}{listed:Array Bool}{G G':Gh}{a:Act}(hs:u9 rs l E0 (gc listed) G a)(he:Ext G G'){i:Nat}(hi:i<listed.size){o:Oper}(ho:l[i]?=some o){r:Rec}(hr:rs[i]?=some r)
 {v:Value} (hv:VR G' r.val v) (hd:∀d,o.dst=some d->d<a.tmps.size/\∀(j:Nat) (o':Oper),gc listed j->l[j]?=some o'->o'.dst=some d->j<=i):u9 rs l E0 (gc (listed.setIfInBounds i true)) G' (a.put o.dst v):=by
 intro t;by_cases ht:o.dst=some t
 .obtain⟨h1,h2⟩:=hd t ht;refine .inl ⟨i,r,o,(lx hi i).2 (.inl rfl),hr,ho,ht,fun j o' hj hjo hjd=>?_,?_⟩
  .rcases(lx hi j).1 hj with e|hj
   .omega
   .exact h2 j o' hj hjo hjd
  .rw[ht];simp only[Act.put];simpa [Array.getD,h1]using hv
 .have hsame:(a.put o.dst v).tmps.getD t undef=a.tmps.getD t undef:=by
   cases hdst:o.dst with
   |none=>rfl
   |some d=>
    rw[hdst]at ht;have hne:d≠t:=fun e=>ht lZ;simp only[Act.put,jh,tn];rw[ah hne]
  rw[hsame];rcases hs t with⟨i',r',o',g1,g2,g3,g4,g5,g6⟩|⟨g1,g2⟩
  .refine .inl ⟨i',r',o',(lx hi i').2 (.inr g1),g2,g3,g4,fun j o'' hj hjo hjd=>?_,g6.mono he⟩;rcases(lx hi j).1 hj with e|hj
   .subst e;rw[ho]at hjo;simp only[aQ]at hjo;subst hjo;exact(ht hjd).elim
   .exact g5 j o'' hj hjo hjd
  .refine .inr ⟨fun j o' hj hjo hjd=>?_,g2.mono he⟩;rcases(lx hi j).1 hj with e|hj
   .subst e;rw[ho]at hjo;simp only[aQ]at hjo;subst hjo;exact(ht hjd).elim
   .exact g1 j o' hj hjo hjd
theorem C1{all:List Oper}{o:Oper}{t:Nat}:t∈rO all o↔o.dst=some t\/(Operand.tmp t)∈o.op.operands.toList\/∃g b o',o.guard=some (g,b)/\all[g]?=some o'/\o'.dst=some t:=by
 unfold rO Gu;simp only[mI,Option.mem_toList,List.mem_filterMap];constructor
 .rintro((h|⟨x,hx,h⟩)|h)
  .exact .inl h
  .cases x<;>simp at h;subst h;exact .inr (.inl hx)
  .cases hg:o.guard with
   |none=>rw[hg]at h;simp at h
   |some p=>
    obtain⟨g,b⟩:=p;rw[hg]at h;simp only[Option.mem_toList,ir]at h;obtain⟨o',h1,h2⟩:=h;exact .inr (.inr ⟨g,b,o',rfl,h1,h2⟩)
 .rintro(h|h|⟨g,b,o',h1,h2,h3⟩)
  .exact .inl (.inl h)
  .exact .inl (.inr ⟨_,h,rfl⟩)
  .refine .inr ?_;rw[h1];simp[h2,h3]
theorem Hl{all:List Oper}{p q:Oper}{d:Nat}(h:(p.dst=some d/\d∈rO all q)\/(q.dst=some d/\d∈rO all p)):Ab.clash all p q=true:=by
 unfold Ab.clash;rcases h with⟨h1,h2⟩|⟨h1,h2⟩
 .rw[h1];simp[h2]
 .rw[h1];simp[h2]
theorem Step.trans'{nx:Nat}{H' H'':Hp}{G G' G'':Gh}{w w' w'':World}(h:Step B nx G w H' w' G')(k:Step B nx G' w' H'' w'' G''):Step B nx G w H'' w'' G'':=
 ⟨k.r,h.ext.trans k.ext,h.fr.trans k.fr h.new,h.new.trans k.new h.fr.size,fun r p hr=>by
  rcases k.low r p hr with h1|h1
  .exact h.low r p h1
  .exact .inr h1,k.mono,fun b o v hv=>by
  rcases k.icy b o v hv with h1|h1
  .exact h.icy b o v h1
  .exact .inr h1⟩
theorem Step.weaken{nx nx':Nat}{H':Hp}{G G':Gh}{w w':World}(h:Step B nx G w H' w' G')(hn:nx'<=nx):Step B nx' G w H' w' G':=
 ⟨h.r,h.ext,h.fr,h.new,fun r p hr=>(h.low r p hr).imp id (fun e=>dr hn e),dr hn h.mono,h.icy⟩
theorem Snd.fail(P:Program)(B:Bs):Snd P B 0 (fun _=>.fail):=
 ⟨fun _ _ _ _ _ h=>pS,fun _ _ _ _ _ _ _ _ h=>pS,fun _ _ _ _ _ _ _ _ h=>pS⟩
theorem PO(fit:Fit P){n:Nat}{ih:Task->Res}(hih:Snd P B n ih){f N nx0:Nat}{ops:Array Oper}{E0 E':aG}{zeo H':Hp}{rs:List Rec}(cx:Ctx P B.cfg ih f N ops.toList E0 zeo E' H' rs)(hnx:zeo.next=nx0){G0 G:Gh}{w0 w:World}
 {listed:Array Bool}{a:Act}{m:Nat} (hI:InvD rs ops.toList N B nx0 E0 H' G0 w0 listed a w m G) {i:Nat} (hi:i∈Region.ready .any ops listed) {K:Act->World->Prop}{Q:Exit->Act->World->Prop}
 (hK:∀a' w' m' G',InvD rs ops.toList N B nx0 E0 H' G0 w0 (listed.setIfInBounds i true) a' w' m' G'->K a' w'):wpOp P ops Q i K a w:=by
 obtain⟨o,ho,hun,hpr⟩:=kM.1 hi;obtain⟨r,hr,ha⟩:=cx.record ho;have hil:i<ops.toList.length:=(eS.1 ho).1;have hils:i<listed.size:=by rw[hI.size];exact hil
 have hnot:¬gc listed i:=fun hd=>by
  unfold gc at hd;rw[jh,oP hils]at hd;rw[jh,oP hils]at hun;simp only[cj]at hd hun;rw[hd]at hun;simp at hun
 -- what comes before i is done;what comes behind it is not
 have hbefore:∀j∈(io ops.toList []).getD i [],gc listed j:=CZ cx.calm hI.closed i o ho hpr;have hbehind:∀j,gc listed j->∀oj,ops.toList[j]?=some oj->i∉(io ops.toList []).getD j []:=fun j hj oj hoj hm=>
  hnot (CZ cx.calm hI.closed j oj hoj (hI.closed j hj oj hoj) i hm)
 -- the writers of the slots that i names
 have hagree:∀t∈rO ops.toList o,∀(j:Nat) (oj:Oper),ops.toList[j]?=some oj->oj.dst=some t->(gc listed j↔j<i):=fun t ht j oj hoj hjd=>by
  constructor
  .intro hj;rcases zD j i with h|h|h
   .exact h
   .subst h;exact(hnot hj).elim
   .exact(hbehind j hj oj hoj (cx.calm.clash i j o oj h ho hoj (Hl (.inr ⟨hjd,ht⟩)))).elim
  .intro hj;exact hbefore j (cx.calm.clash j i oj o hj hoj ho (Hl (.inl ⟨hjd,ht⟩)))
 have hslot:∀t∈rO ops.toList o,VR G ((zfN rs E' i).at t) (a.tmps.getD t undef):=fun t ht=>hI.slots.agree cx (Nat.le_of_lt hil) (hagree t ht);have hknows:tB G (zfN rs E' i) a o.op.operands:=fun x hx c hc=>by
  cases x with
  |tmp t=>simp only[zd0,aQ]at hc;subst hc;exact hslot t (C1.2 (.inr (.inl zm)))
  |const v=>exact uS hc
  |global g=>simp[zd0]at hc
  |func f=>simp only[zd0,aQ]at hc;subst hc;exact .clo (vs:=[]) rfl aK
 have hwant:=G7 (G:=G) (E:=zfN rs E' i) (a:=a) (ops:=ops) (o:=o) (fun g b d hg hd=>by
  simp only[ir]at hd;obtain⟨o',h1,h2⟩:=hd;exact hslot d (C1.2 (.inr (.inr ⟨g,b,o',hg,by rw[tz];exact h1,h2⟩))))
 have hdst:∀d,o.dst=some d->d<a.tmps.size/\∀(j:Nat) (o':Oper),gc listed j->ops.toList[j]?=some o'->o'.dst=some d->j<=i:=fun d hd=>by
  refine⟨?_,fun j o' hj hjo hjd=>Nat.le_of_lt ((hagree d (C1.2 (.inl hd)) j o' hjo hjd).1 hj)⟩;have hp:=ha.put;rw[hd]at hp;simp only[fD]at hp;split at hp
  .rename_i hb;rw[hI.frame];simpa [iW]using hb
  .simp at hp
 have hclosed':∀j,gc (listed.setIfInBounds i true) j->∀oj,ops.toList[j]?=some oj->∀p∈preds oj,gc (listed.setIfInBounds i true) p:=fun j hj oj hoj p hp=>by
  rcases(lx hils j).1 hj with rfl|hj
  .rw[ho]at hoj;simp only[aQ]at hoj;subst hoj;exact(lx hils p).2 (.inr (hpr p hp))
  .exact(lx hils p).2 (.inr (hI.closed j hj oj hoj p hp))
 -- an act comes up in its turn
 have hturn:oJ o=true->i=m:=fun hact=>by
  have him:i∈je ops.toList:=nL.2 ⟨o,ho,hact⟩;rcases zD i m with h|h|h
  .exact(hnot (hI.acts i him h)).elim
  .exact h
  .rcases hI.act with e|e
   .omega
   .obtain⟨om,hom,hactm⟩:=nL.1 e;exact(hI.notyet (hbefore m (cx.calm.clash m i om o h hom ho (by unfold Ab.clash;simp[hact,hactm])))).elim
 -- how the invariant goes on
 have hfin:∀(v:Value) (w':World) (G':Gh) (X:Hp),VR G' r.val v->Step B nx0 G w X w' G' ->
  (∀k p,G'.β k=some p->G.β k=some p\/((zeI rs H' i).next<=k/\k<(zeI rs H' (i+1)).next)) ->
  ((i≠m/\X=zeI rs H' m)\/(i=m/\X=zeI rs H' (i+1)))->K (a.put o.dst v) w':=fun v w' G' X hv hst hlow hX=>by
  have hslots':=hI.slots.put hst.ext hils ho hr hv hdst;have hlow':∀k p,G'.β k=some p->k<nx0\/∃j,gc (listed.setIfInBounds i true) j/\j<ops.toList.length/\(zeI rs H' j).next<=k/\k<(zeI rs H' (j+1)).next:=fun k p hk=>by
   rcases hlow k p hk with h|h
   .rcases hI.low k p h with h|⟨j,h1,h2⟩
    .exact .inl h
    .exact .inr ⟨j,(lx hils j).2 (.inr h1),h2⟩
   .exact .inr ⟨i,(lx hils i).2 (.inl rfl),hil,h⟩
  have hframe':(a.put o.dst v).tmps.size=N:=by rw[<-hI.frame];cases o.dst<;>simp[Act.put]
  have hdef':(a.put o.dst v).defers=[]:=by have:=hI.defers;cases o.dst<;>exact this
  rcases hX with⟨hne,rfl⟩|⟨rfl,rfl⟩
  .refine hK _ _ m G' ⟨by simpa using hI.size,hclosed',hI.le,hI.act,fun hd=>?_,fun e he hlt=>(lx hils e).2 (.inr (hI.acts e he hlt)),hI.step.trans' hst,hlow',hslots',hframe',hdef'⟩;rcases(lx hils m).1 hd with h|h
   .exact hne h.symm
   .exact hI.notyet h
  ·-- the next act
   obtain⟨m',q1,q2,q3,q4⟩:=C0 (l:=ops.toList) (ops.toList.length-(i+1)) (i+1) ac;obtain⟨g1,g2⟩:=cx.gap (m'-(i+1)) (i+1) ac (fun j h1 h2=>q4 j h1 ac);rw[show i+1+(m'-(i+1))=m' by omega]at g1 g2;have hst2:Step B nx0 G0 w0 (zeI rs H' m') w' G':=by
    have:=hI.step.trans' hst;exact⟨this.r.more g1 g2,this.ext,this.fr,this.new,this.low,dr this.mono g1,this.icy⟩
   have hact:∀e∈je ops.toList,e<m'->gc (listed.setIfInBounds i true) e:=fun e he hlt=>by
    by_cases h:e<i
    .exact(lx hils e).2 (.inr (hI.acts e he h))
    .by_cases h2:e=i
     .exact(lx hils e).2 (.inl h2)
     .exact(q4 e ac hlt he).elim
   refine hK _ _ m' G' ⟨by simpa using hI.size,hclosed',q2,q3,fun hd=>?_,hact,hst2,hlow',hslots',hframe',hdef'⟩;rcases(lx hils m').1 hd with h|h
   .omega
   ·-- m' is done though i,an act before it,was not
    have hm'l:m'<ops.toList.length:=by
     rcases xf m' ops.toList.length with h3|h3
     .exact h3
     .unfold gc at h;rw[jh,CT (by rw[hI.size];exact h3)]at h;simp at h
    rcases q3 with e|e
    .omega
    .obtain⟨om,hom,hactm⟩:=nL.1 e;rcases hI.act with e2|e2
     .omega
     .obtain⟨oi,hoi,hacti⟩:=nL.1 e2;rw[ho]at hoi;simp only[aQ]at hoi;subst hoi;exact hbehind m' h om hom (cx.calm.clash i m' o om ac ho hom (by unfold Ab.clash;simp[hacti,hactm]))
 -- the range of m for the looks
 have hlo:∀e∈je ops.toList,e∈(io ops.toList []).getD i []->e<m:=fun e he hA=>by
  have hd:=hbefore e hA;rcases xf e m with h|h
  .exact h
  .exfalso;rcases hI.act with e2|e2
   .have:=(nL.1 he);obtain⟨oe,hoe,_⟩:=this;have:=(eS.1 hoe).1;omega
   .by_cases e3:e=m
    .subst e3;exact hI.notyet hd
    .obtain⟨om,hom,hactm⟩:=nL.1 e2;obtain⟨oe,hoe,hacte⟩:=nL.1 he;exact hI.notyet (CZ cx.calm hI.closed e oe hoe (hI.closed e hd oe hoe) m (cx.calm.clash m e om oe ac hom hoe (by unfold Ab.clash;simp[hactm,hacte])))
 have hhi:∀e∈je ops.toList,i∈(io ops.toList []).getD e []->m<=e:=fun e he hA=>by
  rcases xf e m with h|h
  .obtain⟨oe,hoe,_⟩:=nL.1 he;exact(hbehind e (hI.acts e he h) oe hoe hA).elim
  .exact h
 unfold wpOp;rw[show ops[i]?=some o by rw[<-tz];exact ho];simp only[];have hnxm:nx0<=(zeI rs H' m).next:=hI.step.mono
 have hsame:Step B nx0 G w (zeI rs H' m) w G:=(kI hI.step.r).weaken hnxm;have hstill:∀(v:Value) (w':World) (G':Gh),i≠m->VR G' r.val v->Step B (zeI rs H' m).next G w (zeI rs H' m) w' G'->K (a.put o.dst v) w':=fun v w' G' him hv hst=>
  hfin v w' G' _ hv (hst.weaken hnxm) (fun k p hk=>by
   rcases hst.low k p hk with h|h
   .exact .inl h
   .have:=hst.r.dom k p hk;omega) (.inl ⟨him,rfl⟩)
 have hnotact:oJ o=false->i≠m:=fun hna e=>by
  rcases hI.act with e2|e2
  .omega
  .obtain⟨om,hom,hactm⟩:=nL.1 e2;rw[<-e,ho]at hom;simp only[aQ]at hom;subst hom;rw[hna]at hactm;simp at hactm
 cases hd:r.did with
 |false=>
  have hw:Region.wanted o (yielded ops a.tmps)=false:=by rw[<-hwant,ha.want];exact hd
  rw[hw];simp only[dS,bU];obtain⟨hval,hheap⟩:=ha.no hd;by_cases him:i=m
  .subst him;exact hfin undef w G (zeI rs H' (i+1)) (by rw[hval];exact wV G) (by rw[hheap];exact hsame) (fun k p hk=>.inl hk) (.inr ⟨rfl,rfl⟩)
  .exact hfin undef w G _ (by rw[hval];exact wV G) hsame (fun k p hk=>.inl hk) (.inl ⟨him,rfl⟩)
 |true=>
  have hw:Region.wanted o (yielded ops a.tmps)=true:=by rw[<-hwant,ha.want];exact hd
  rw[hw];simp only[bN];have hop:=ha.yes hd;refine .inl ?_;cases hkind:jc o.op with
  |act=>
   have him:=hturn zB;subst him;refine zA fit hih hI.step.r hknows hop fun v w' G' hv hst=>?_;refine hfin v w' G' _ hv (hst.weaken hnxm) (fun k p hk=>?_) (.inr ⟨rfl,rfl⟩);rcases hst.low k p hk with h|h
   .exact .inl h
   .exact .inr ⟨h,hst.r.dom k p hk⟩
  |calm=>
   have hnc:∀c,o.op≠.call c:=fun c e=>by
    rw[e]at hkind;simp only[jc]at hkind;split at hkind<;>simp at hkind
   have him:=hnotact zB;have hX:=(CO (P:=P) (by simp[qL,hkind]) ((tD hnc).1 hop)).2 (zeI rs H' m);have hop':zfk P B.cfg ih f (zfN rs E' i) (zeI rs H' m) o.op=.val r.val (zeI rs H' m):=(tD hnc).2 hX;exact zA fit hih hI.step.r hknows hop' fun v w' G' hv hst=>hstill v w' G' him hv hst
  |read=>
   have him:=hnotact zB;have hlook:=cx.look i r hr hd m hI.act.symm hlo hhi;unfold zdt at hlook;rw[ha.eo,hkind,ha.eE]at hlook;simp only[]at hlook;split at hlook
   .rename_i v1 H1 hop';have hv1:=AV.beq_eq hlook;subst hv1;have hH1:=CP (by simp[pR,hkind]) hop';subst hH1;exact zA fit (Snd.fail P B) hI.step.r hknows hop' fun v w' G' hv hst=>hstill v w' G' him hv hst
   .simp at hlook
  |make=>
   have him:=hnotact zB;have hnc:∀c,o.op≠.call c:=fun c e=>by
    rw[e]at hkind;simp only[jc]at hkind;split at hkind<;>simp at hkind
   have hopA:=(tD hnc).1 hop;obtain⟨blk,obj,ext,v,hH1,hrun,hmade,hv⟩:=PC (P:=P) (w:=w) (by simp[rP,hkind]) hknows hopA;have hlook:=cx.look i r hr hd m hI.act.symm hlo hhi;unfold zdt at hlook;rw[ha.eo,hkind,ha.eH,ha.eH']at hlook;simp only[]at hlook;have hnext1:(zeI rs H' (i+1)).next=(zeI rs H' i).next+1:=by rw[hH1];rfl
   have hgetm:(zeI rs H' m).get (zeI rs H' i).next=some blk:=by
    split at hlook
    .rename_i b b' h1 h2;rw[HB.beq_eq hlook]at h1;rw[hH1,zd1,aE rfl]at h2;simp only[aQ]at h2;subst h2;exact h1
    .simp at hlook
   have hlt:i<m:=by
    rcases zD i m with h|h|h
    .exact h
    .exact(him h).elim
    .exfalso;rcases hI.act with e2|e2
     .omega
     .obtain⟨om,hom,hactm⟩:=nL.1 e2;exact hI.notyet (hbefore m (cx.calm.clash m i om o h hom ho (by unfold Ab.clash;simp[hactm,rP,hkind])))
   have hr0:(zeI rs H' i).next<(zeI rs H' m).next:=by
    have:=cx.nextMono (m-(i+1)) (i+1) (by have:=hI.le;omega);rw[show i+1+(m-(i+1))=m by omega]at this;omega
   have hnx0:nx0<=(zeI rs H' i).next:=by
    have:=cx.nextMono i 0 ac;rw[bT,cx.zeroH,hnx]at this;exact this
   have hno:∀q,G.β (zeI rs H' i).next=some q->False:=fun q hq=>by
    rcases hI.low _ q hq with h|⟨j,h1,h2,h3,h4⟩
    .omega
    .rcases zD j i with h|h|h
     .have:=cx.nextMono (i-(j+1)) (j+1) ac;rw[show j+1+(i-(j+1))=i by omega]at this;omega
     .subst h;exact hnot h1
     .have:=cx.nextMono (j-(i+1)) (i+1) ac;rw[show i+1+(j-(i+1))=j by omega]at this;omega
   have hst:=Gz hI.step.r hno hr0 hgetm hnx0 hmade;unfold Oper.wp;rw[hrun];refine hfin v _ _ _ (hv _ (zgD _ _ _)) hst (fun k p hk=>?_) (.inl ⟨him,rfl⟩);simp only[Gh.add]at hk;split at hk
   .rename_i e;exact .inr ⟨ac,ac⟩
   .exact .inl hk
theorem countP_set{listed:Array Bool}{i:Nat}(hi:i<listed.size)(hf:listed[i]=false):(listed.setIfInBounds i true).toList.countP (·=false)+1=listed.toList.countP (·=false):=by
 rw[GN,List.countP_set (by simpa using hi)];have h1:listed.toList[i]'(by simpa using hi)=false:=by simpa using hf
 have hpos:0<listed.toList.countP (·=false):=List.countP_pos_iff.2 ⟨false,by rw[<-h1];exact dX _,aK⟩;rw[h1];simp only[pN,bN,oL,li,dS,bU];omega
theorem PP(fit:Fit P){n:Nat}{ih:Task->Res}(hih:Snd P B n ih){f N nx0:Nat}{ops:Array Oper}{E0 E':aG}{zeo H':Hp}{rs:List Rec}(cx:Ctx P B.cfg ih f N ops.toList E0 zeo E' H' rs)(hnx:zeo.next=nx0){G0:Gh}{w0:World}
 (hE':zfN rs E' ops.toList.length=E') (hH':zeI rs H' ops.toList.length=H') {Q:Exit->Act->World->Prop} (hQ:∀e a w,kg B N nx0 G0 w0 .normal E' H' e a w->Q e a w) :
 ∀(fuel:Nat) (listed:Array Bool) (a:Act) (w:World) (m:Nat) (G:Gh),InvD rs ops.toList N B nx0 E0 H' G0 w0 listed a w m G->listed.toList.countP (·=false)<=fuel->wpAny P .any ops Q fuel listed a w:=by
 -- at the end all is done
 have hend:∀(listed:Array Bool) (a:Act) (w:World) (m:Nat) (G:Gh),InvD rs ops.toList N B nx0 E0 H' G0 w0 listed a w m G->Region.ready .any ops listed=[]->Q .normal a w:=fun listed a w m G hI hre=>by
  have hall:∀j,j<ops.toList.length->gc listed j:=fun j=>by
   induction j using Nat.strongRecOn with
   |_ j ihj=>
    intro hj;have ho:=br hj;have hjs:j<listed.size:=by rw[hI.size];exact hj
    cases hl:listed[j]with
    |true=>
     unfold gc;rw[jh,oP hjs,hl];rfl
    |false=>
     exfalso;have:j∈Region.ready .any ops listed:=kM.2 ⟨_,ho,by rw[jh,oP hjs,hl];rfl,fun p hp=>by
      have hlt:=cx.calm.lt j _ ho p hp;exact ihj p hlt ac⟩
     rw[hre]at this;simp at this
  have hm:m=ops.toList.length:=by
   rcases hI.act with e|e
   .exact e
   .obtain⟨om,hom,_⟩:=nL.1 e;exact(hI.notyet (hall m (eS.1 hom).1)).elim
  subst hm;have hst:=hI.step;rw[hH']at hst;refine hQ _ _ _ ⟨rfl,G,⟨hI.frame,fun t=>?_⟩,hst,hI.defers⟩;have:=hI.slots.agree cx (t:=t) (aM _) (fun j oj hoj _=>⟨fun _=>(eS.1 hoj).1,fun h=>hall j h⟩);rw[hE']at this;exact this
 intro fuel;induction fuel with
 |zero=>
  intro listed a w m G hI hc;have hre:Region.ready .any ops listed=[]:=by
   apply xg.2;intro i hi;obtain⟨o,ho,hun,_⟩:=kM.1 hi;have hil:i<listed.size:=He;rw[jh,oP hil]at hun;have:=countP_set hil zC;omega
  exact⟨hre,hend listed a w m G hI hre⟩
 |succ fuel ihf=>
  intro listed a w m G hI hc;refine⟨fun hre=>hend listed a w m G hI hre,fun i hi=>?_⟩;obtain⟨o,ho,hun,_⟩:=kM.1 hi;have hil:i<listed.size:=He;rw[jh,oP hil]at hun;have hcs:=countP_set hil zC;exact PO fit hih cx hnx hI hi (fun a' w' m' G' hI'=>ihf _ a' w' m' G' hI' ac)
theorem Hm(fit:Fit P){n:Nat}{ih:Task->Res}(hih:Snd P B n ih){f N:Nat}{ops:Array Oper}{E E':aG}{H H':Hp}{G:Gh}{w:World}{x:AX}{a:Act}(hr:lV P B.cfg ih f N ops.toList E H=.done x E' H')
 (h:R B H w G) (ht:TR N G E a) (hd:a.defers=[]) {Q:Exit->Act->World->Prop} (hQ:∀e a' w',kg B N H.next G w x E' H' e a' w'->Q e a' w'):wpAny P .any ops Q ops.size (Array.replicate ops.size false) a {w with drawn:=w.drawn+1}:=by
 unfold lV at hr;split at hr
 .rename_i hcalm;split at hr
  .rename_i E1 H1 rs hrun;split at hr
   .rename_i hlook;simp only[Res.done.injEq]at hr;obtain⟨rfl,rfl,rfl⟩:=hr;have cx:=PN hcalm hrun hlook;have hlen:=cx.len;have hE':zfN rs E1 ops.toList.length=E1:=by unfold zfN;rw[iY ac]
    have hH':zeI rs H1 ops.toList.length=H1:=by unfold zeI;rw[iY ac]
    obtain⟨m,q1,q2,q3,q4⟩:=C0 (l:=ops.toList) ops.toList.length 0 ac;obtain⟨g1,g2⟩:=cx.gap m 0 ac (fun j _ hj=>q4 j ac ac);rw[bT,cx.zeroH]at g1 g2;have hdr:R B H {w with drawn:=w.drawn+1} G:=h.heap rfl;have hst0:Step B H.next G w (zeI rs H1 m) {w with drawn:=w.drawn+1} G:=
     ⟨hdr.more g1 g2,uQ _,⟨rfl,rfl,rfl,aM _,fun _ _ _=>rfl⟩,tp _ _,fun _ _ h=>.inl h,g1,fun _ _ _ h=>.inl h⟩
    have hnone:∀j,¬gc (Array.replicate ops.size false) j:=fun j hj=>by
     unfold gc at hj;rw[jh,Hg]at hj;split at hj<;>simp at hj
    refine PP fit hih cx rfl hE' hH' hQ ops.size _ a _ m G
     ⟨aK,fun j hj=>(hnone j hj).elim,q2,q3,hnone m,fun e he hlt=>(q4 e (dE _) hlt he).elim,hst0,fun r p hr=>.inl (h.dom r p hr),fun t=>.inr ⟨fun j o' hj=>(hnone j hj).elim,ht.slots t⟩,ht.size,hd⟩ ?_
    exact dr List.countP_le_length aK
   .simp at hr
  .simp at hr
 .simp at hr
end
def kN(ops:Array Oper):List Nat->Array Bool->Prop
 |[],listed=>Region.ready .any ops listed=[]
 |i::L,listed=>i∈Region.ready .any ops listed/\kN ops L (listed.setIfInBounds i true)
theorem Hn{ops:Array Oper}:∀(fuel t:Nat) (listed:Array Bool),listed.size=ops.size->listed.toList.countP (·=false)<=fuel->kN ops (Region.linearise.go .any ops fuel t listed []) listed
 |0,t,listed,hs,hc=>by
  show Region.ready .any ops listed=[];apply xg.2;intro i hi;obtain⟨o,ho,hun,_⟩:=kM.1 hi;have hil:i<listed.size:=Hf;rw[jh,oP hil]at hun;have:=countP_set hil zC;omega
 |fuel+1,t,listed,hs,hc=>by
  simp only[Region.linearise.go];change kN ops (match (Region.ready .any ops listed)[t%(Region.ready .any ops listed).length]? with
   |some i=>Region.linearise.go .any ops fuel (t/(Region.ready .any ops listed).length) (listed.setIfInBounds i true) [i]
   |none=>[].reverse) listed
  cases hi:(Region.ready .any ops listed)[t%(Region.ready .any ops listed).length]? with
  |none=>
   show Region.ready .any ops listed=[];cases hr:Region.ready .any ops listed with
   |nil=>rfl
   |cons x xs=>
    rw[hr]at hi;have hlt:t%(x::xs).length<(x::xs).length:=Nat.mod_lt _ aK;simp at hi;simp at hlt;omega
  |some i=>
   simp only[];rw[linearise_go_acc,List.reverse_singleton,List.singleton_append];have hm:=lw hi;refine⟨hm,Hn fuel _ _ (by simpa using hs) ?_⟩;obtain⟨o,ho,hun,_⟩:=kM.1 hm;have hil:i<listed.size:=Hf;rw[jh,oP hil]at hun;have:=countP_set hil zC;omega
section
variable {P:Program} {Q:Exit -> Act -> World -> Prop}
theorem C2{ops:Array Oper}:∀(L:List Nat) (fuel:Nat) (listed:Array Bool) (a:Act) (w:World),wpAny P .any ops Q fuel listed a w->kN ops L listed->wpOps P ops Q L a w
 |[],0,listed,a,w,h,_=>h.2
 |[],fuel+1,listed,a,w,h,hv=>h.1 hv
 |i::L,0,listed,a,w,h,hv=>by
  have h1:=hv.1;rw[h.1]at h1;simp at h1
 |i::L,fuel+1,listed,a,w,h,hv=>by
  rw[wpOps_cons];exact wpOp_mono (fun a w ha=>C2 L fuel _ a w ha hv.2) (h.2 i hv.1)
theorem PQ{ops:Array Oper}{id:Nat}{a:Act}{w:World}(hm:P.follows .mixedOrders=true)
 (h:∀L,kN ops L (Array.replicate ops.size false)->wpOps P ops Q L a {w with drawn:=w.drawn+1}):(Code.region id ops true).wp P Q a w:=
 wp_region_draw fun t=>by
  simp only[Region.schedule,hm,CU,bN];exact h _ (Hn ops.size t _ aK (dr List.countP_le_length aK))
theorem C3{ops ops':Array Oper}{φ:Nat->Nat}:∀(L:List Nat) (a:Act) (w:World),
 (∀i∈L,∃o o',ops[i]?=some o/\ops'[φ i]?=some o'/\(∃af gd,o'={o with after:=af,guard:=gd})/\∀a:Act,Region.wanted o' (yielded ops' a.tmps)=Region.wanted o (yielded ops a.tmps)) ->
 wpOps P ops' Q (L.map φ) a w->wpOps P ops Q L a w
 |[],_,_,_,h=>h
 |i::L,a,w,hr,h=>by
  rw[eF,wpOps_cons]at h;rw[wpOps_cons];obtain⟨o,o',h1,h2,⟨af,gd,h3⟩,h4⟩:=hr i fm;have hrest:∀a w,wpOps P ops' Q (L.map φ) a w->wpOps P ops Q L a w:=fun a w=>C3 L a w (fun j hj=>hr j (gF _ hj));have h5:=wpOp_mono hrest h;unfold wpOp at h5⊢;rw[h2]at h5;rw[h1];simp only[]at h5⊢;rw[h4 a]at h5;subst h3;exact h5
end
theorem zE(q p:Nat)(l:List Oper):(jf q p l).length=l.length:=by
 unfold jf;split<;>simp
theorem xj{q p:Nat}{l:List Oper}{i:Nat}{o:Oper}(h:l[i]?=some o):
 ∃o',(jf q p l)[i]?=some o'/\(∃af,o'={o with after:=af})/\(i≠q->o'=o)/\∀j,j∈preds o'↔j∈preds o\/(i=q/\j=p):=by
 unfold jf;have hi:=(eS.1 h).1;by_cases e:i=q
 .subst e;rw[h];refine⟨_,List.getElem?_set_self hi,⟨_,rfl⟩,fun hn=>(hn rfl).elim,fun j=>?_⟩;unfold preds;have:(o.after.push {on:=p,ground:=.data}).toList=o.after.toList++[{on:=p,ground:=.data}]:=aK;rw[this,CV,pU,mI];have h2:(List.filter (Region.binds .any) [({on:=p,ground:=.data}:Edge)])=[{on:=p,ground:=.data}]:=rfl;rw[h2];simp
 .have hx:∀o2,(l.set q o2)[i]?=some o:=fun o2=>by rw[List.getElem?_set_ne (fun h=>e h.symm)];exact h
  split
  .exact⟨o,hx _,⟨o.after,rfl⟩,fun _=>rfl,fun j=>⟨.inl,fun h=>h.elim id (fun h=>(e h.1).elim)⟩⟩
  .exact⟨o,h,⟨o.after,rfl⟩,fun _=>rfl,fun j=>⟨.inl,fun h=>h.elim id (fun h=>(e h.1).elim)⟩⟩
theorem Ho{q p:Nat}{l:List Oper}{i:Nat}{o':Oper}(h:(jf q p l)[i]?=some o'):∃o,l[i]?=some o:=by
 have:=(eS.1 h).1;rw[zE]at this;exact⟨_,br this⟩
theorem PR{q p:Nat}{l:List Oper}(j:Nat):((jf q p l)[j]?).bind (·.dst)=(l[j]?).bind (·.dst):=by
 cases h:l[j]? with
 |none=>
  rw[iY (by rw[zE];exact List.getElem?_eq_none_iff.1 h)]
 |some o=>
  obtain⟨o',h1,⟨af,rfl⟩,_⟩:=xj (q:=q) (p:=p) h;rw[h1];rfl
theorem Hq{q p:Nat}{l:List Oper}{listed:Array Bool}{i:Nat}(h:i∈Region.ready .any (jf q p l).toArray listed):i∈Region.ready .any l.toArray listed:=by
 obtain⟨o',h1,h2,h3⟩:=kM.1 h;simp only[]at h1;obtain⟨o,ho⟩:=Ho h1;obtain⟨o2,g1,_,_,g4⟩:=xj (q:=q) (p:=p) ho;rw[h1]at g1;simp only[aQ]at g1;subst g1;exact kM.2 ⟨o,ho,h2,fun j hj=>h3 j ((g4 j).2 (.inl hj))⟩
theorem xl{q p:Nat}{l:List Oper}{listed:Array Bool}{i:Nat}(h:i∈Region.ready .any l.toArray listed)(hp:i=q->listed.getD p false=true):i∈Region.ready .any (jf q p l).toArray listed:=by
 obtain⟨o,h1,h2,h3⟩:=kM.1 h;simp only[]at h1;obtain⟨o2,g1,_,_,g4⟩:=xj (q:=q) (p:=p) h1;refine kM.2 ⟨o2,g1,h2,fun j hj=>?_⟩;rcases(g4 j).1 hj with h|⟨e1,rfl⟩
 .exact h3 j h
 .exact hp e1
theorem PS{listed:Array Bool}{i p:Nat}(h:listed.getD p false=true):(listed.setIfInBounds i true).getD p false=true:=by
 simp only[jh,tn]at *;split
 .split
  .rfl
  .rename_i h1 h2;subst h1;rw[CT ac]at h;simp at h
 .exact h
theorem Da{q p:Nat}{l:List Oper}:∀{L:List Nat}{listed:Array Bool},listed.getD p false=true->kN l.toArray L listed->kN (jf q p l).toArray L listed
 |[],listed,_,hv=>by
  show Region.ready .any (jf q p l).toArray listed=[];apply xg.2;intro i hi;have:=Hq hi;rw[show Region.ready .any l.toArray listed=[]from hv]at this;simp at this
 |i::L,listed,hd,hv=>⟨xl hv.1 (fun _=>hd),Da (PS hd) hv.2⟩
theorem Hr{p q:Nat}(hpq:p≠q){l:List Oper}:∀{L:List Nat}{listed:Array Bool},listed.size=l.length->kN l.toArray L listed->kN (jf q p l).toArray L listed\/kN (jf p q l).toArray L listed
 |[],listed,_,hv=>.inl <|by
  show Region.ready .any (jf q p l).toArray listed=[];apply xg.2;intro i hi;have:=Hq hi;rw[show Region.ready .any l.toArray listed=[]from hv]at this;simp at this
 |i::L,listed,hs,hv=>by
  have hil:i<listed.size:=by
   obtain⟨o,ho,_⟩:=kM.1 hv.1;rw[hs];exact(eS.1 ho).1
  have hset:(listed.setIfInBounds i true).getD i false=true:=by
   simp[jh,tn,hil]
  by_cases e1:i=q
  .subst e1;exact .inr ⟨xl hv.1 (fun e=>(hpq e.symm).elim),Da hset hv.2⟩
  .by_cases e2:i=p
   .subst e2;exact .inl ⟨xl hv.1 (fun e=>(e1 e).elim),Da hset hv.2⟩
   .rcases Hr hpq (by simpa using hs) hv.2 with h|h
    .exact .inl ⟨xl hv.1 (fun e=>(e1 e).elim),h⟩
    .exact .inr ⟨xl hv.1 (fun e=>(e2 e).elim),h⟩
theorem Db{ops:Array Oper}:∀{L:List Nat}{listed:Array Bool},kN ops L listed->∀i∈L,∃o,ops.toList[i]?=some o
 |[],_,_,i,hi=>by simp at hi
 |j::L,listed,hv,i,hi=>by
  rcases iu.1 hi with rfl|hi
  .obtain⟨o,ho,_⟩:=kM.1 hv.1;exact⟨o,ho⟩
  .exact Db hv.2 i hi
theorem Hu{P:Program}{Q:Exit->Act->World->Prop}{q p:Nat}{l:List Oper}{L:List Nat}{listed:Array Bool}{a:Act}{w:World}(hv:kN l.toArray L listed)
 (h:wpOps P (jf q p l).toArray Q L a w):wpOps P l.toArray Q L a w:=by
 refine C3 (ops':=(jf q p l).toArray) (φ:=id) L a w (fun i hi=>?_) jM;obtain⟨o,ho⟩:=Db hv i hi;simp only[]at ho;obtain⟨o',g1,⟨af,rfl⟩,_⟩:=xj (q:=q) (p:=p) ho;refine⟨o,_,by simpa using ho,by simpa using g1,⟨af,o.guard,rfl⟩,fun a=>?_⟩;have hy:yielded (jf q p l).toArray a.tmps=yielded l.toArray a.tmps:=funext fun j=>by
  unfold yielded;have:=PR (q:=q) (p:=p) (l:=l) j;simp only[List.getElem?_toArray,this]
 rw[hy];rfl
structure PermD (ord:List Nat) (l:List Oper):Prop where
 len:ord.length=l.length
 bk:∀k:Nat,k<l.length->∃i,ord[k]?=some i/\i<l.length/\iO ord i=k
 lt:∀i:Nat,i<l.length->iO ord i<l.length/\ord[iO ord i]?=some i
 pre:∀(i:Nat) o,l[i]?=some o->(∀p∈preds o,p<l.length)/\∀j b,o.guard=some (j,b)->j<l.length
theorem PT{ord:List Nat}{l:List Oper}(h:wP ord l=true):PermD ord l:=by
 unfold wP at h;simp only[cJ,jL,nK]at h;obtain⟨⟨h1,h2⟩,h3⟩:=h;refine⟨iV h1,fun k hk=>?_,fun i hi=>?_,fun i o ho=>?_⟩
 .have:=(h2 k hk).1.1;split at this
  .rename_i i hi;simp only[cJ]at this;exact⟨i,hi,by simpa [iW]using this.1,iV this.2⟩
  .simp at this
 .have h4:=(h2 i hi).1.2;have h5:=(h2 i hi).2;refine⟨by simpa [iW]using h4,?_⟩;split at h5
  .rename_i k hk;rw[hk,iV h5]
  .simp at h5
 .have:=h3 o (lw ho);refine⟨fun p hp=>by simpa [iW]using this.1 p hp,fun j b hg=>?_⟩;have h6:=this.2;rw[hg]at h6;simpa [iW]using h6
theorem Hv{α β:Type}{f:α->Option β}:∀{xs:List α},(∀x∈xs,(f x).isSome=true)->∀k:Nat,(xs.filterMap f)[k]?=(xs[k]?).bind f
 |[],_,k=>by simp
 |x::xs,h,k=>by
  obtain⟨y,hy⟩:=Option.isSome_iff_exists.1 (h x fm);rw[List.filterMap_cons_some hy];cases k with
  |zero=>simp[hy]
  |succ k=>simp[Hv (fun x hx=>h x (gF _ hx)) k]
section
variable {ord:List Nat} {l:List Oper} (hp:PermD ord l)
include hp
theorem PermD.at'{i:Nat}{o:Oper}(h:l[i]?=some o):(ip ord l)[iO ord i]?=some (rQ ord o):=by
 have hi:=(eS.1 h).1;unfold ip;rw[Hv (fun x hx=>?_)]
 .rw[(hp.lt i hi).2];simp[h]
 .obtain⟨k,hk⟩:=CW.1 hx;have hkl:k<l.length:=by rw[<-hp.len];exact(eS.1 hk).1
  obtain⟨i',h1,h2,_⟩:=hp.bk k hkl;rw[hk]at h1;simp only[aQ]at h1;subst h1;rw[br h2];rfl
theorem PermD.length:(ip ord l).length=l.length:=by
 have:∀k,k<l.length->((ip ord l)[k]?).isSome=true:=fun k hk=>by
  obtain⟨i,h1,h2,h3⟩:=hp.bk k hk;have:=hp.at' (br h2);rw[h3]at this;rw[this];rfl
 refine Nat.le_antisymm (dr (List.length_filterMap_le _ _) (by rw[hp.len];exact aM _)) ?_;rcases xf (ip ord l).length l.length with h|h
 .have:=this _ h;rw[iY (aM _)]at this;simp at this
 .exact h
theorem PermD.of{k:Nat}{o':Oper}(h:(ip ord l)[k]?=some o'):∃i o,l[i]?=some o/\iO ord i=k/\o'=rQ ord o:=by
 have hk:k<l.length:=by rw[<-hp.length];exact(eS.1 h).1
 obtain⟨i,h1,h2,h3⟩:=hp.bk k hk;have:=hp.at' (br h2);rw[h3,h]at this;simp only[aQ]at this;exact⟨i,_,br h2,h3,this⟩
theorem PermD.inj{i j:Nat}(hi:i<l.length)(hj:j<l.length)(h:iO ord i=iO ord j):i=j:=by
 have h1:=(hp.lt i hi).2;rw[h,(hp.lt j hj).2]at h1;simpa using h1.symm
theorem PermD.preds{o:Oper}:Ab.preds (rQ ord o)=(Ab.preds o).map (iO ord):=by
 unfold Ab.preds rQ;simp only[u7];rw[List.filter_map];have:(Region.binds .any ∘ fun e:Edge=>{e with on:=iO ord e.on})=Region.binds .any:=rfl;rw[this,List.filter_filter];simp only[xh,u7];rfl
def xm(ord:List Nat)(l:List Oper)(x y:Array Bool):Prop:=x.size=l.length/\y.size=l.length/\∀i,i<l.length->y[iO ord i]?=x[i]?
theorem xm.set{x y:Array Bool}(h:xm ord l x y){i:Nat}(hi:i<l.length):xm ord l (x.setIfInBounds i true) (y.setIfInBounds (iO ord i) true):=by
 refine⟨by simpa using h.1,by simpa using h.2.1,fun j hj=>?_⟩;simp only[tn];by_cases e:i=j
 .subst e;rw[aE rfl,aE rfl,aE (by rw[h.2.1];exact(hp.lt i hi).1),aE (by rw[h.1];exact hi)]
 .rw[ah e,ah (fun h'=>e (hp.inj hi hj h'))];exact h.2.2 j hj
theorem Hw{x y:Array Bool}(h:xm ord l x y){i:Nat}(hi:i<l.length):iO ord i∈Region.ready .any (ip ord l).toArray y↔i∈Region.ready .any l.toArray x:=by
 have ho:=br hi;have hat:=hp.at' ho;rw[kM,kM];simp only[];have hd:∀(j:Nat) (b:Bool),j<l.length->y.getD (iO ord j) b=x.getD j b:=fun j b hj=>by
  simp only[jh,h.2.2 j hj]
 constructor
 .rintro⟨o',g1,g2,g3⟩;rw[hat]at g1;simp only[aQ]at g1;subst g1;refine⟨_,ho,by rw[<-hd i true hi];exact g2,fun p hpp=>?_⟩;rw[<-hd p false ((hp.pre i _ ho).1 p hpp)];exact g3 _ (by rw[hp.preds];exact List.mem_map_of_mem hpp)
 .rintro⟨o',g1,g2,g3⟩;rw[ho]at g1;simp only[aQ]at g1;subst g1;refine⟨_,hat,by rw[hd i true hi];exact g2,fun p hpp=>?_⟩;rw[hp.preds]at hpp;obtain⟨p',hp1,rfl⟩:=l0.1 hpp;rw[hd p' false ((hp.pre i _ ho).1 p' hp1)];exact g3 p' hp1
theorem Hy:∀{L:List Nat}{x y:Array Bool},xm ord l x y->kN l.toArray L x->kN (ip ord l).toArray (L.map (iO ord)) y
 |[],x,y,hs,hv=>by
  show Region.ready .any (ip ord l).toArray y=[];apply xg.2;intro k hk;obtain⟨o',g1,_⟩:=kM.1 hk;simp only[]at g1;obtain⟨i,o,h1,h2,_⟩:=hp.of g1;have hi:=(eS.1 h1).1;rw[<-h2]at hk;have:=(Hw hp hs hi).1 hk;rw[show Region.ready .any l.toArray x=[]from hv]at this;simp at this
 |i::L,x,y,hs,hv=>by
  obtain⟨o,ho,_⟩:=kM.1 hv.1;have hi:i<l.length:=(eS.1 ho).1;exact⟨(Hw hp hs hi).2 hv.1,Hy (hs.set hp hi) hv.2⟩
theorem PU{P:Program}{Q:Exit->Act->World->Prop}{L:List Nat}{listed:Array Bool}{a:Act}{w:World}(hv:kN l.toArray L listed)
 (h:wpOps P (ip ord l).toArray Q (L.map (iO ord)) a w):wpOps P l.toArray Q L a w:=by
 refine C3 (ops':=(ip ord l).toArray) (φ:=iO ord) L a w (fun i hi=>?_) h;obtain⟨o,ho⟩:=Db hv i hi;simp only[]at ho;have hat:=hp.at' ho;refine⟨o,rQ ord o,by simpa using ho,by simpa using hat,⟨_,_,rfl⟩,fun a=>?_⟩;unfold Region.wanted rQ;cases hg:o.guard with
 |none=>rfl
 |some jb=>
  obtain⟨j,b⟩:=jb;have hj:=(hp.pre i o ho).2 j b hg;have hjat:=hp.at' (br hj);simp only[];unfold yielded;simp only[List.getElem?_toArray,hjat,br hj];rfl
end
theorem T.beq_eq{α:Type}{eq:α->α->Bool}(he:∀a b,eq a b=true->a=b):∀{x y:T α},T.beq eq x y=true->x=y
 | .e,.e,_=>rfl
 | .e,.n _ _ _,h=>by simp[T.beq]at h
 | .n _ _ _,.e,h=>by simp[T.beq]at h
 | .n v l r,.n v' l' r',h=>by
   simp only[T.beq,cJ]at h;rw[T.beq_eq he h.1.2,T.beq_eq he h.2];have h1:=h.1.1;cases v<;>cases v' <;>simp only[dS]at h1
   .rfl
   .rw[he _ _ h1]
theorem PV{ops:List Oper}{E1 E2:aG}{H1 H2:Hp}(h:Ce ops E1 E2 H1 H2=true):(∀o∈ops,∀d,o.dst=some d->E1.at d=E2.at d)/\H1=H2:=by
 unfold Ce at h;simp only[cJ,jL]at h;refine⟨fun o ho d hd=>?_,?_⟩
 .have:=h.1.1 o ho;rw[hd]at this;exact AV.beq_eq this
 .have h1:=iV h.1.2;have h2:=T.beq_eq (fun a b=>HB.beq_eq) h.2;cases H1;cases H2;simp only[]at h1 h2;rw[h1,h2]
section
variable {P:Program} {B:Bs} {cfg:Cfg}
theorem PW{N t:Nat}{E E1:aG}{dst:Option Tmp}{v:AV}(h:fD N E dst v=some E1)(ht:dst≠some t):E1.at t=E.at t:=by
 unfold fD at h;split at h
 .rename_i d;split at h
  .simp only[aQ]at h;rw[<-h,uR,ah (fun e=>ht lZ)]
  .simp at h
 .simp only[aQ]at h;rw[<-h]
theorem HA{ih:Task->Res}{f N t:Nat}{all:List Oper}:∀{rs:List Rec}{l:List Oper}{E E':aG}{H H':Hp},mH P cfg ih f N all rs l E H E' H'->(∀o∈l,o.dst≠some t)->E'.at t=E.at t
 |[],[],_,_,_,_,h,_=>by rw[h.1]
 |[],_::_,_,_,_,_,h,_=>by simp[mH]at h
 |_::_,[],_,_,_,_,h,_=>by simp[mH]at h
 |r::rs,o::l,E,E',H,H',h,ht=>by
  obtain⟨_,_,_,_,_,_,E1,hp,h8⟩:=h;rw[HA h8 (fun o ho=>ht o (gF _ ho)),PW hp (ht o fm)]
theorem HC{ih:Task->Res}{f N t:Nat}{ops:List Oper}{E E':aG}{H H':Hp}{x:AX}(h:lV P cfg ih f N ops E H=.done x E' H')(ht:∀o∈ops,o.dst≠some t):x=.normal/\E'.at t=E.at t:=by
 unfold lV at h;split at h
 .split at h
  .rename_i E1 H1 rs hrun;split at h
   .simp only[Res.done.injEq]at h;obtain⟨rfl,rfl,rfl⟩:=h;exact⟨rfl,HA (xe hrun) ht⟩
   .simp at h
  .simp at h
 .simp at h
theorem PX{ord:List Nat}{l:List Oper}{o:Oper}(h:o∈ip ord l):∃o'∈l,o.dst=o'.dst:=by
 unfold ip at h;rw[List.mem_filterMap]at h;obtain⟨i,_,h2⟩:=h;split at h2
 .rename_i o' ho;simp only[aQ]at h2;subst h2;exact⟨o',lw ho,rfl⟩
 .simp at h2
theorem HD{q p:Nat}{l:List Oper}{o:Oper}(h:o∈jf q p l):∃o'∈l,o.dst=o'.dst:=by
 obtain⟨i,hi⟩:=CW.1 h;obtain⟨o1,h1⟩:=Ho hi;obtain⟨o2,g1,⟨af,g2⟩,_⟩:=xj (q:=q) (p:=p) h1;rw[hi]at g1;simp only[aQ]at g1;exact⟨o1,lw h1,by rw[g1,g2]⟩
theorem HE{ops:List Oper}{r1 r2:Res}{x:AX}{E':aG}{H':Hp}(h:tj ops r1 r2=.done x E' H'):
 x=.normal/\r1=.done .normal E' H'/\∃E2,r2=.done .normal E2 H'/\∀o∈ops,∀d,o.dst=some d->E'.at d=E2.at d:=by
 unfold tj at h;split at h
 .split at h
  .rename_i hs;simp only[Res.done.injEq]at h;obtain⟨rfl,rfl,rfl⟩:=h;obtain⟨h1,h2⟩:=PV hs;subst h2;exact⟨rfl,rfl,_,rfl,h1⟩
  .simp at h
 .simp at h
theorem Dc{ih:Task->Res}{f N t:Nat}{E E':aG}{H H':Hp}{x:AX}:∀{pl:Plan}{ops:List Oper},zf8 P cfg ih f N E H pl ops=.done x E' H'->(∀o∈ops,o.dst≠some t)->E'.at t=E.at t
 | .text,ops,h,ht=>(HC h ht).2
 | .perm ord,ops,h,ht=>by
   simp only[zf8]at h;split at h
   .exact(HC h (fun o ho=>by obtain⟨o',h1,h2⟩:=PX ho;rw[h2];exact ht o' h1)).2
   .simp at h
 | .split p q a b,ops,h,ht=>by
   simp only[zf8]at h;split at h
   .simp at h
   .obtain⟨_,h1,_⟩:=HE h;exact Dc h1 (fun o ho=>by obtain⟨o',h1,h2⟩:=HD ho;rw[h2];exact ht o' h1)
theorem kg.same{N nx:Nat}{G:Gh}{w:World}{x:AX}{E1 E2:aG}{H':Hp}(hat:∀t,E1.at t=E2.at t){e:Exit}{a:Act}{w':World}(h:kg B N nx G w x E2 H' e a w'):kg B N nx G w x E1 H' e a w':=by
 obtain⟨h1,G',h2,h3,h4⟩:=h;exact⟨h1,G',⟨h2.size,fun t=>by rw[hat];exact h2.slots t⟩,h3,h4⟩
theorem Dd(fit:Fit P){n:Nat}{ih:Task->Res}(hih:Snd P B n ih){f N:Nat}{E:aG}{H:Hp}{G:Gh}{w:World}{a:Act}(h:R B H w G)(ht:TR N G E a)(hd:a.defers=[]){Q:Exit->Act->World->Prop}:
 ∀(pl:Plan) (l:List Oper) {E':aG}{H':Hp}{x:AX},zf8 P B.cfg ih f N E H pl l=.done x E' H'->(∀e a' w',kg B N H.next G w x E' H' e a' w'->Q e a' w')->∀L,kN l.toArray L (Array.replicate l.length false) ->
  wpOps P l.toArray Q L a {w with drawn:=w.drawn+1}
 | .text,l,E',H',x,hr,hQ,L,hv=>C2 L _ _ a _ (by
  have:=Hm (ops:=l.toArray) fit hih hr h ht hd hQ;simpa using this) hv
 | .perm ord,l,E',H',x,hr,hQ,L,hv=>by
   simp only[zf8]at hr;split at hr
   .rename_i hp;have hp:=PT hp;refine PU hp hv (C2 _ _ _ a _ (Hm (ops:=(ip ord l).toArray) fit hih hr h ht hd hQ) ?_);refine Hy hp ⟨aK,by simp[hp.length],fun i hi=>?_⟩ hv;have:=(hp.lt i hi).1;simp[hp.length,hi,this]
   .simp at hr
 | .split p q pa pb,l,E',H',x,hr,hQ,L,hv=>by
   simp only[zf8]at hr;split at hr
   .simp at hr
   .rename_i hpq;have hne:p≠q:=Ch hpq;obtain⟨rfl,h1,E2,h2,h3⟩:=HE hr;rcases Hr hne aK hv with hv1|hv2
    .exact Hu hv (Dd fit hih h ht hd pa _ h1 hQ L (by rw[zE];exact hv1))
    .have hat:∀t,E'.at t=E2.at t:=fun t=>by
      by_cases ht:∃o∈l,o.dst=some t
      .obtain⟨o,ho,hd⟩:=ht;exact h3 o ho t hd
      .have hno:∀o∈l,o.dst≠some t:=fun o ho hd=>ht ⟨o,ho,hd⟩;have hno':∀q p,∀o∈jf q p l,o.dst≠some t:=fun q p o ho=>by obtain⟨o',g1,g2⟩:=HD ho;rw[g2];exact hno o' g1
       rw[Dc h1 (hno' _ _),Dc h2 (hno' _ _)]
     exact Hu hv (Dd fit hih h ht hd pb _ h2 (fun e a' w' hp=>hQ _ _ _ (kg.same hat hp)) L (by rw[zE];exact hv2))
theorem PY(fit:Fit P){n:Nat}{ih:Task->Res}(hih:Snd P B n ih){f N id:Nat}{ops:Array Oper}{E E':aG}{H H':Hp}{G:Gh}{w:World}{x:AX}{a:Act}{pl:Plan}(hr:zf8 P B.cfg ih f N E H pl ops.toList=.done x E' H')
 (h:R B H w G) (ht:TR N G E a) (hd:a.defers=[]):Code.wp P (.region id ops true) (kg B N H.next G w x E' H') a w:=by
 refine PQ fit.mixed fun L hL=>?_;have:=Dd fit hih h ht hd pl ops.toList hr (fun _ _ _ hp=>hp) L (by simpa using hL);simpa using this
end
structure Grow (w:World) (F:Nat->Nat->Option Value) (w':World) (F':Nat->Nat->Option Value):Prop where
 below:Below w.heap.size w w'
 more:∀b o v,F b o=some v->F' b o=some v
 icy:∀b o v,F' b o=some v->F b o=some v\/w.heap.size<=b
 frz:∀b o v,F' b o=some v->w'.cell? ⟨b,o,none⟩=some v
def bV(P:Program)(ρ:Nat->Int)(f:FuncId)(args:List AV)(r:AV):Prop:=
 (∃fn,P.funcs[f]?=some fn/\fn.body.isSome=true)/\∀(G:Gh) (w:World) (vs:List Value),G.ρ=ρ->(∀b o v,G.F b o=some v->w.cell? ⟨b,o,none⟩=some v)->cr G args vs ->
   Calls P f vs.toArray w (fun e w'=>∃v F',e=.returned v/\VR {G with F:=F' } r v/\Grow w G.F w' F')
def PZ(P:Program)(B:Bs):Prop:=∀f args r,B.cfg.call f args=some r->bV P B.ρ f args r
theorem De{w w':World}(h:Below w.heap.size w w'){b o:Nat}(hb:b<w.heap.size):w'.cell? ⟨b,o,none⟩=w.cell? ⟨b,o,none⟩/\w'.frozen? ⟨b,o,none⟩=w.frozen? ⟨b,o,none⟩:=
 ⟨by simp only[World.cell?,h.block b hb],h.frozen (p:=⟨b,o,none⟩) hb⟩
theorem R.grow{B:Bs}{H:Hp}{w w':World}{G:Gh}{F':Nat->Nat->Option Value}(h:R B H w G)(g:Grow w G.F w' F'):Step B H.next G w H w' {G with F:=F' }:=by
 have hext:Ext G {G with F:=F' }:=⟨fun _ _ h=>h,g.more,rfl⟩;have hold:∀{b o:Nat}{v:Value},w.cell? ⟨b,o,none⟩=some v->w'.cell? ⟨b,o,none⟩=some v:=fun hc=>by rw[(De g.below (rT hc)).1];exact hc
 refine⟨?_,hext,⟨g.below.os,g.below.tape,g.below.output,g.below.size,fun k hk _=>g.below.block k hk⟩,fun r b o x hr=>.inl hr,fun _ _ h=>.inl h,aM _,fun b o v hv=>(g.icy b o v hv).imp id fun hb=>dr h.base hb⟩;exact{
  base:=dr h.base g.below.size
  dom:=h.dom
  lt:=fun r b o x hr=>⟨(h.lt r b o x hr).1,qE (h.lt r b o x hr).2 g.below.size⟩
  cells:=fun r b o x cs imm tip hr hc j c hj=>by
   obtain⟨v,h1,h2⟩:=h.cells r b o x cs imm tip hr hc j c hj;exact⟨v,hold h1,h2.mono hext⟩
  imm:=fun r b o x cs imm tip hr hc j hj hjl=>let ⟨v,hv⟩:=h.imm r b o x cs imm tip hr hc j hj hjl;⟨v,g.more _ _ _ hv⟩
  ext:=h.ext
  fits:=h.fits
  room:=fun r b o x cs imm tip hr hc j hj hjl=>by
   obtain⟨⟨v,h1⟩,h2,h3⟩:=h.room r b o x cs imm tip hr hc j hj hjl;have hb:=(h.lt r b o x hr).2;refine⟨⟨v,hold h1⟩,by rw[(De g.below hb).2];exact h2,?_⟩;show F' b (o+j)=none;cases hF:F' b (o+j)with
   |none=>rfl
   |some u=>rcases g.icy _ _ _ hF with h4|h4
            ·rw[h3]at h4;simp at h4
            .omega
  apart:=h.apart
  map:=fun r b o x es hr hc=>by
   obtain⟨ms,clock,h1,h2⟩:=h.map r b o x es hr hc;exact⟨ms,clock,by rw[g.below.block b (h.lt r b o x hr).2];exact h1,h2.mono hext⟩
  mapApart:=h.mapApart
  frz:=g.frz
  val:=h.val
  sym:=h.sym}
theorem Df(z:Nat):∀(n:Nat) (l:List AV),(gY z n l).length=n
 |0,_=>rfl
 |n+1,l=>by simp[gY,Df z n]
theorem xn(z:Nat):∀(n:Nat) (l:List AV) (i:Nat) (row:List AV),l.length=n*z->(gY z n l)[i]?=some row->row.length=z/\∀(j:Nat) c,row[j]?=some c->l[i*z+j]?=some c
 |0,_,i,row,_,h=>by simp[gY]at h
 |n+1,l,i,row,hl,h=>by
  rw[nJ,xi]at hl;simp only[gY]at h;cases i with
  |zero=>
   simp at h;subst h;refine⟨pQ,fun j c hj=>?_⟩;rw[pM]at hj;split at hj
   .rw[rV,bT];exact hj
   .simp at hj
  |succ i=>
   obtain⟨h1,h2⟩:=xn z n (l.drop z) i row CQ jM;refine⟨h1,fun j c hj=>?_⟩;have:=h2 j c hj;rw[rS]at this;rw[nJ,xi,show i*z+z+j=z+(i*z+j) by omega];exact this
theorem zF{B:Bs}{w:World}{g:AV->Hp->Option (AV×Hp)}
 (hg:∀(v:AV) (H:Hp) (q:AV) (H':Hp) (G:Gh) (x:Value),R B H w G->VR G v x->g v H=some (q,H')->∃G',Step B H.next G w H' w G'/\VR G' q x) :
 ∀(cs:List AV) (vs:List Value) (H:Hp) (ds:List AV) (H':Hp) (G:Gh),R B H w G->cr G cs vs->jY g cs H=some (ds,H')->∃G',Step B H.next G w H' w G'/\cr G' ds vs
 |[],vs,H,ds,H',G,h,hv,hi=>by
  simp only[jY,di]at hi;obtain⟨rfl,rfl⟩:=hi;exact⟨G,kI h,hv⟩
 |c::cs,[],H,ds,H',G,h,hv,hi=>by have:=hv.1;simp at this
 |c::cs,v::vs,H,ds,H',G,h,hv,hi=>by
  simp only[jY]at hi;split at hi
  .rename_i d H1 h1;split at hi
   .rename_i ds' H2 h2;simp only[di]at hi;obtain⟨rfl,rfl⟩:=hi;obtain⟨g1,g2⟩:=hv.of_cons;obtain⟨G1,s1,r1⟩:=hg c H d H1 G v h g1 h1;obtain⟨G2,s2,r2⟩:=zF hg cs vs H1 ds' H2 G1 s1.r (g2.mono s1.ext) h2;exact⟨G2,s1.trans s2,iE (r1.mono s2.ext) r2⟩
   .simp at hi
  .simp at hi
theorem zG{B:Bs}{w:World}:∀(n:Nat) (v:AV) (H:Hp) (q:AV) (H':Hp) (G:Gh) (x:Value),R B H w G->VR G v x->eY n v H=some (q,H')->∃G',Step B H.next G w H' w G'/\VR G' q x
 |0,_,_,_,_,_,_,_,_,h=>by simp[eY]at h
 |n+1,v,H,q,H',G,x,h,hv,hi=>by
  unfold eY at hi;split at hi
  .rename_i r off len z;split at hi
   .rename_i cs imm tip hget;split at hi
    .rename_i hle;simp only[cJ]at hle;have hle1:=w6 hle.1;have hle2:=w6 hle.2;split at hi
     .rename_i l H1 hil;simp only[di]at hi;obtain⟨rfl,rfl⟩:=hi;cases hv with
      |sl hr hl hcx=>
       rename_i b o xx cap;have hholds:=h.cells r b o xx cs imm tip hr hget;have s1:=wX h hr hget (n:=max imm (off+len*z)) ac ac tip id;obtain⟨ovs,ho1,ho2⟩:=hholds.list;have hlen:((cs.drop off).take (len*z)).length=len*z:=by rw[oK,mC];omega
       obtain⟨G2,s2,r2⟩:=zF (zG n) _ ((ovs.drop off).take (len*z)) _ l H1 _ s1.r (((ho1.drop off).take (len*z)).mono s1.ext) hil;refine⟨G2,s1.trans s2,?_⟩;have hll:l.length=len*z:=by
        have e1:=r2.1;have e2:=((ho1.drop off).take (len*z)).1;rw[hlen]at e2;omega
       have hlc:=Df z len l;have hovl:ovs.length=cs.length:=ho1.1.symm;have hat:∀m,m<len*z->∃v,ovs[off+m]?=some v/\G2.F b (o+off+m)=some v/\∀c,l[m]?=some c->VR G2 c v:=fun m hm=>by
        have hlt:off+m<ovs.length:=ac;refine⟨ovs[off+m],br hlt,?_,fun c hc=>?_⟩
        .refine s2.ext.F _ _ _ ?_;have hcell:=ho2 (off+m) ovs[off+m] (br hlt);show(G.ice w b o (max imm (off+len*z))).F b (o+off+m)=some ovs[off+m];simp only[Gh.ice];rw[<-jJ]at hcell;split
         .rename_i v' hv';have:=h.frz _ _ _ hv';rw[hcell]at this;exact this.symm
         .rw[aE ⟨by trivial,ac,ac⟩];exact hcell
        .refine r2.2 m c _ hc ?_;rw[pM,aE hm,rS];exact br hlt
       have hin:∀i j,i<len->j<z->i*z+j<len*z:=fun i j hi hj=>by
        calc i*z+j<i*z+z:=by omega
         _=(i+1)*z:=by rw[nJ,xi]
         _<=len*z:=uX _ hi
       have key:VR G2 (.lst (gY z len l)) (.slice (some ⟨b,o+off,none⟩) (gY z len l).length cap):=by
        refine .lst (fun i j=>(ovs[off+(i*z+j)]?).getD undef) (z:=z) (fun i row hrow=>(xn z len l i row hll hrow).1) (fun i j hi hj=>?_) (fun i j row c hrow hcj=>?_) (by rw[hlc];exact hl)
        .rw[hlc]at hi;obtain⟨v,e1,e2,_⟩:=hat _ (hin i j hi hj);rw[e1,jJ (o+off)];exact e2
        .have hm:=(xn z len l i row hll hrow).2 j c hcj;have hlt:=(eS.1 hm).1;obtain⟨v,e1,_,e3⟩:=hat (i*z+j) ac;rw[e1];exact e3 c hm
       rw[hlc]at key;exact key
     .simp at hi
    .simp at hi
   .simp at hi
  .rename_i cs;split at hi
   .rename_i ds H1 hil;simp only[di]at hi;obtain⟨rfl,rfl⟩:=hi;cases hv with
    |agg hl hvs=>
     obtain⟨G',s,r⟩:=zF (zG n) cs _ H ds H1 G h ⟨hl,hvs⟩ hil;exact⟨G',s,.agg r.1 r.2⟩
   .simp at hi
  .simp at hi
  .simp at hi
  .simp only[di]at hi;obtain⟨rfl,rfl⟩:=hi;exact⟨G,kI h,hv⟩
section
variable {P:Program} {B:Bs} {G:Gh} {H H':Hp} {w:World}
theorem HF:∀(args:List AV) (i:Nat) (E:aG) (t:Nat),(zd8 i args E).at t=if i<=t/\t<i+args.length then args.getD (t-i) zff else E.at t
 |[],i,E,t=>by
  simp only[zd8,fV,uV];rw[ah ac]
 |v::vs,i,E,t=>by
  simp only[zd8,HF vs (i+1),fj];by_cases h1:i+1<=t/\t<i+1+vs.length
  .rw[aE h1,aE ac,show t-i=(t-(i+1))+1 by omega];rfl
  .rw[ah h1,uR];by_cases h2:t=i
   .subst h2;rw[aE rfl,aE ac];simp
   .rw[ah h2,ah ac]
theorem Dg:∀(d t:Nat),aG.at (wQ d) t=zff
 |0,_=>rfl
 |d+1,t=>by
  unfold aG.at wQ;rw[tq];cases h:Nat.beq t 0 with
  |true=>rfl
  |false=>
   rw[zgn];cases h2:Nat.beq (Nat.mod t 2) 1 with
   |true=>exact Dg d _
   |false=>exact Dg d _
theorem P1(N t:Nat):aG.at (tk N) t=zff:=Dg _ _
theorem TR.start{args:List AV}{vs:List Value}(h:cr G args vs)(ntmps:Nat):
 TR (max ntmps args.length) G (zd8 0 args (tk (max ntmps args.length))) {tmps:=vs.toArray++Array.replicate (ntmps-vs.toArray.size) undef,defers:=[] }:=by
 have hl:=h.1;refine⟨cT,fun t=>?_⟩;rw[HF];simp only[dE,mJ,bT,w1];by_cases ht:t<args.length
 .rw[aE ht];have e1:args.getD t zff=args[t]:=by simp[List.getD,ht]
  rw[e1];have:(vs.toArray++Array.replicate (ntmps-vs.toArray.size) undef).getD t undef=vs[t]' ac:=by
   rw[jh,Array.getElem?_append_left cT];simp[show t<vs.length by omega]
  rw[this];exact h.2 t _ _ (br ht) (br ac)
 .rw[ah ht,P1];have:(vs.toArray++Array.replicate (ntmps-vs.toArray.size) undef).getD t undef=undef:=by
   rw[jh,Array.getElem?_append_right cT];simp only[Hg];split<;>rfl
  rw[this];exact wV G
theorem P2(h:R B H w G){N:Nat}{E:aG}{a:Act}(ht:TR N G E a){r:ResultVar}{c:AV}(hr:zfI P E H r=some c):
 ∃v,(match r with
  | .tmp t=>pure (a.tmps.getD t undef)
  | .cell x t=>do loadVar t (<-asAddr (a.tmps.getD x undef)):Sem Value).run P w=.ok v w/\VR G c v:=by
 cases r with
 |tmp t=>
  simp only[zfI,aQ]at hr;subst hr;exact⟨_,rfl,ht.slots t⟩
 |cell x t=>
  simp only[zfI]at hr;have hx:=ht.slots x;obtain⟨v,h1,h2⟩:=GI (P:=P) h hx hr;refine⟨v,?_,h2⟩;show(do loadVar t (<-asAddr (a.tmps.getD x undef)):Sem Value).run P w=.ok v w;generalize a.tmps.getD x undef=av at hx h1⊢;generalize E.at x=ea at hx hr;cases hx<;>simp[zfC]at hr<;>simpa [Instr.loadAt,Instr.sureAddr,asAddr]using h1
theorem HG(h:R B H w G){N:Nat}{E:aG}{a:Act}(ht:TR N G E a):∀{rs:List ResultVar}{cs:List AV},zfD P E H rs=some cs ->
 ∃vs,(rs.mapM (fun
  | .tmp t=>pure (a.tmps.getD t undef)
  | .cell x t=>do loadVar t (<-asAddr (a.tmps.getD x undef)):ResultVar->Sem Value)).run P w=.ok vs w/\cr G cs vs
 |[],cs,hr=>by
  simp only[zfD,aQ]at hr;subst hr;exact⟨[],aK,j8 G⟩
 |r::rs,cs,hr=>by
  simp only[zfD]at hr;split at hr
  .rename_i c cs' h1 h2;simp only[aQ]at hr;subst hr;obtain⟨v,g1,g2⟩:=P2 (P:=P) h ht h1;obtain⟨vs,k1,k2⟩:=HG h ht h2;refine⟨v::vs,?_,iE g2 k2⟩;rw[List.mapM_cons];simp only[fk,g1,fu,k1,jK]
  .simp at hr
theorem HH(h:R B H w G){N:Nat}{E:aG}{a:Act}(ht:TR N G E a){fn:Func}{r:AV}(hr:uN P fn.results.toList E H=.val r H'):
 H'=H/\∃v,(results fn a.tmps).run P w=.ok v w/\VR G r v:=by
 unfold uN at hr;split at hr
 .rename_i cs hcs;simp only[Res.val.injEq]at hr;obtain⟨rfl,rfl⟩:=hr;obtain⟨vs,h1,h2⟩:=HG (P:=P) h ht hcs;refine⟨rfl,?_⟩;have hrun:(results fn a.tmps).run P w=.ok (if h:vs.toArray.size=1 then vs.toArray[0]else .tuple vs.toArray) w:=by
   unfold results;rw[Array.mapM_eq_mapM_toList];simp only[fk,Sem.run_map];exact lX (fun r:Result (List Value)=>(r.andThen fun a w'=>Result.ok a.toArray w').andThen fun a w'=>Sem.run P (pure (if h:a.size=1 then a[0]else Value.tuple a)) w') h1
  refine⟨_,hrun,?_⟩
  match cs,vs,h2 with
  |[],[],h2=>exact .tup (vs:=[]) rfl aK
  |[c],[v],h2=>exact h2.of_cons.1
  |c::c'::cs,v::v'::vs,h2=>
   have:¬(v::v'::vs).toArray.size=1:=aK;rw[dif_neg this];exact .tup h2.1 h2.2
  |[],_::_,h2=>have:=h2.1;simp at this
  |[_],[],h2=>have:=h2.1;simp at this
  |[_],_::_::_,h2=>have:=h2.1;simp at this
  |_::_::_,[],h2=>have:=h2.1;simp at this
  |_::_::_,[_],h2=>have:=h2.1;simp at this
 .simp at hr
theorem Dh(_fit:Fit P){n:Nat}{ih:Task->Res}(hih:Snd P B n ih){f:FuncId}{args:List AV}{r:AV}(hs:nE P ih f args H=.val r H'){vs:List Value}(h:R B H w G)(hv:cr G args vs):
 (∃fn,P.funcs[f]?=some fn/\fn.body.isSome=true)/\Calls P f vs.toArray w (fun e w'=>∃v G',e=.returned v/\VR G' r v/\Step B H.next G w H' w' G'):=by
 unfold nE at hs;split at hs
 .rename_i fn hfn;split at hs
  .rename_i c hc;refine⟨⟨fn,hfn,by rw[hc];rfl⟩,calls_of_wp hfn hc ?_⟩;have hst:=TR.start hv fn.ntmps;split at hs
   .rename_i E1 H1 hih1;refine rW (fun e a' w' he=>?_) (hih.code _ _ _ _ _ _ _ _ hih1 G w _ h hst rfl);obtain⟨rfl,G',ht',hs',hd⟩:=he;obtain⟨rfl,v,h1,h2⟩:=HH (P:=P) hs'.r ht' hs;exact⟨hd,v,h1,v,G',rfl,h2,hs'⟩
   .rename_i E1 H1 hih1;refine rW (fun e a' w' he=>?_) (hih.code _ _ _ _ _ _ _ _ hih1 G w _ h hst rfl);obtain⟨rfl,G',ht',hs',hd⟩:=he;obtain⟨rfl,v,h1,h2⟩:=HH (P:=P) hs'.r ht' hs;exact⟨hd,v,h1,v,G',rfl,h2,hs'⟩
   .simp at hs
  .simp at hs
 .simp at hs
theorem Di{n:Nat}{ih:Task->Res}(_hih:Snd P B n ih){f N:Nat}{b:Code}{r:Res}{x:AX}{E':aG}(hs:nF ih f N b r=.done x E' H'):
 ∃x1 E1 H1,r=.done x1 E1 H1/\((x1=.normal/\ih (.code f N b E1 H1)=.done x E' H')\/(x1≠.normal/\x=x1/\E'=E1/\H'=H1)):=by
 unfold nF at hs;split at hs
 .rename_i E1 H1;exact⟨.normal,E1,H1,rfl,.inl ⟨rfl,hs⟩⟩
 .rename_i hne;subst hs;exact⟨x,E',H',rfl,.inr ⟨fun e=>by subst e;exact hne _ _ rfl,rfl,rfl,rfl⟩⟩
theorem P3(fit:Fit P){n:Nat}{ih:Task->Res}(hih:Snd P B n ih){f N:Nat}{c:Code}{E:aG}{x:AX}{E':aG}(hs:step P B.cfg ih (.code f N c E H)=.done x E' H')
 {a:Act} (h:R B H w G) (ht:TR N G E a) (hd:a.defers=[]):Code.wp P c (kg B N H.next G w x E' H') a w:=by
 cases c with
 |skip=>
  simp only[step,Res.done.injEq]at hs;obtain⟨rfl,rfl,rfl⟩:=hs;exact wp_skip ⟨rfl,G,ht,kI h,hd⟩
 |region id ops draw=>
  cases draw with
  |false=>
   exact wp_region_list (CL fit hih ops.toList hs h ht hd (fun _ _ _ hp=>hp))
  |true=>exact PY fit hih hs h ht hd
 |seq p q=>
  obtain⟨x1,E1,H1,h1,h2⟩:=Di hih hs;refine wp_seq (rW (fun e a' w' he=>?_) (hih.code _ _ _ _ _ _ _ _ h1 G w a h ht hd));obtain⟨rfl,G',ht',hs',hd'⟩:=he;rcases h2 with⟨rfl,h2⟩|⟨hne,rfl,rfl,rfl⟩
  .exact rW (fun e a w he=>zy hs' he) (hih.code _ _ _ _ _ _ _ _ h2 G' w' a' hs'.r ht' hd')
  .cases x with
   |normal=>exact(hne rfl).elim
   |exit id=>exact⟨rfl,G',ht',hs',hd'⟩
   |ret=>exact⟨rfl,G',ht',hs',hd'⟩
 |cond y p q=>
  simp only[step,tl]at hs;split at hs
  .rename_i hy;have hb:=CK ht hy;have:a.eval y=.bool true:=by generalize a.eval y=v at hb;cases hb;rfl
   exact wp_cond_true this (hih.code _ _ _ _ _ _ _ _ hs G w a h ht hd)
  .rename_i hy;have hb:=CK ht hy;have:a.eval y=.bool false:=by generalize a.eval y=v at hb;cases hb;rfl
   exact wp_cond_false this (hih.code _ _ _ _ _ _ _ _ hs G w a h ht hd)
  .simp at hs
 |block id p=>
  simp only[step]at hs;cases h1:ih (.code f N p E H)with
  |done x1 E1 H1=>
   rw[h1]at hs;refine wp_block (rW (fun e a' w' he=>?_) (hih.code _ _ _ _ _ _ _ _ h1 G w a h ht hd));obtain⟨rfl,G',ht',hs',hd'⟩:=he;cases x1 with
   |normal=>
    simp only[zgo,Res.done.injEq]at hs;obtain⟨rfl,rfl,rfl⟩:=hs;exact⟨rfl,G',ht',hs',hd'⟩
   |ret=>
    simp only[zgo,Res.done.injEq]at hs;obtain⟨rfl,rfl,rfl⟩:=hs;exact⟨rfl,G',ht',hs',hd'⟩
   |exit id'=>
    simp only[zgo]at hs;cases hb:Nat.beq id' id with
    |true=>
     rw[hb]at hs;simp only[Res.done.injEq]at hs;obtain⟨rfl,rfl,rfl⟩:=hs;have:=iV hb;subst this;simp only[CI,Exit.inBlock,bN];exact⟨rfl,G',ht',hs',hd'⟩
    |false=>
     rw[hb]at hs;simp only[Res.done.injEq]at hs;obtain⟨rfl,rfl,rfl⟩:=hs;have:=Ch hb;simp only[CI,Exit.inBlock];rw[ah this];exact⟨rfl,G',ht',hs',hd'⟩
  |val v H1=>rw[h1]at hs;simp[zgo]at hs
  |fail=>rw[h1]at hs;simp[zgo]at hs
 |loop p=>
  refine wp_loop_rounds (n+1) ?_;rw[rounds_succ];obtain⟨x1,E1,H1,h1,h2⟩:=Di hih hs;refine rW (fun e a' w' he=>?_) (hih.code _ _ _ _ _ _ _ _ h1 G w a h ht hd);obtain⟨rfl,G',ht',hs',hd'⟩:=he;rcases h2 with⟨rfl,h2⟩|⟨hne,rfl,rfl,rfl⟩
  .exact CJ (fun e a w he=>zy hs' he) (hih.loop _ _ _ _ _ _ _ _ h2 G' w' a' hs'.r ht' hd')
  .cases x with
   |normal=>exact(hne rfl).elim
   |exit id=>exact⟨rfl,G',ht',hs',hd'⟩
   |ret=>exact⟨rfl,G',ht',hs',hd'⟩
 |exit id=>
  simp only[step,Res.done.injEq]at hs;obtain⟨rfl,rfl,rfl⟩:=hs;exact wp_exit ⟨rfl,G,ht,kI h,hd⟩
 |ret=>
  simp only[step,Res.done.injEq]at hs;obtain⟨rfl,rfl,rfl⟩:=hs;exact wp_ret ⟨rfl,G,ht,kI h,hd⟩
 |rangeFunc _ _ _ _=>simp[step]at hs
 |scope _=>simp[step]at hs
 |label _=>simp[step]at hs
 |goto _=>simp[step]at hs
 |refuse _=>simp[step]at hs
theorem P4(_fit:Fit P){n:Nat}{ih:Task->Res}(hih:Snd P B n ih){f N:Nat}{c:Code}{E:aG}{x:AX}{E':aG}(hs:step P B.cfg ih (.code f N (.loop c) E H)=.done x E' H')
 {a:Act} (h:R B H w G) (ht:TR N G E a) (hd:a.defers=[]):Code.rounds P c (kg B N H.next G w x E' H') (n+1) a w:=by
 rw[rounds_succ];obtain⟨x1,E1,H1,h1,h2⟩:=Di hih hs;refine rW (fun e a' w' he=>?_) (hih.code _ _ _ _ _ _ _ _ h1 G w a h ht hd);obtain⟨rfl,G',ht',hs',hd'⟩:=he;rcases h2 with⟨rfl,h2⟩|⟨hne,rfl,rfl,rfl⟩
 .exact CJ (fun e a w he=>zy hs' he) (hih.loop _ _ _ _ _ _ _ _ h2 G' w' a' hs'.r ht' hd')
 .cases x with
  |normal=>exact(hne rfl).elim
  |exit id=>exact⟨rfl,G',ht',hs',hd'⟩
  |ret=>exact⟨rfl,G',ht',hs',hd'⟩
theorem HI(fit:Fit P)(hc:PZ P B):∀n,Snd P B n (ze8 P B.cfg n)
 |0=>⟨fun _ _ _ _ _ h=>by simp[ze8]at h,fun _ _ _ _ _ _ _ _ h=>by simp[ze8]at h,fun _ _ _ _ _ _ _ _ h=>by simp[ze8]at h⟩
 |n+1=>by
  have hih:=HI fit hc n;have he:ze8 P B.cfg (n+1)=step P B.cfg (ze8 P B.cfg n):=rfl;rw[he];refine⟨fun f args H r H' hs G w vs h hv=>?_,fun f N c E H x E' H' hs G w a h ht hd=>P3 fit hih hs h ht hd,fun f N c E H x E' H' hs G w a h ht hd=>P4 fit hih hs h ht hd⟩;have hknown:∀{G:Gh}{args:List AV}{vs:List Value}{H:Hp}{r':AV},B.cfg.call f args=some r'->R B H w G->cr G args vs ->
   (∃fn,P.funcs[f]?=some fn/\fn.body.isSome=true)/\Calls P f vs.toArray w (fun e w'=>∃v G',e=.returned v/\VR G' r' v/\Step B H.next G w H w' G'):=fun{G args vs H r'} hr h hv=>by
   obtain⟨h1,h2⟩:=hc f args r' hr;refine⟨h1,(h2 G w vs h.val h.frz hv).mono fun e w' hh=>?_⟩;obtain⟨v,F',rfl,hr',hg⟩:=hh;exact⟨v,_,rfl,hr',h.grow hg⟩
  have hany:∀{G:Gh}{args:List AV}{vs:List Value}{H H':Hp}{r:AV},nG P B.cfg (ze8 P B.cfg n) f args H=.val r H'->R B H w G->cr G args vs ->
   (∃fn,P.funcs[f]?=some fn/\fn.body.isSome=true)/\Calls P f vs.toArray w (fun e w'=>∃v G',e=.returned v/\VR G' r v/\Step B H.next G w H' w' G'):=fun{G args vs H H' r} hs h hv=>by
   unfold nG at hs;split at hs
   .unfold wR at hs;split at hs
    .rename_i asx H1 hice;split at hs
     .rename_i r' hr;simp only[Res.val.injEq]at hs;obtain⟨rfl,rfl⟩:=hs;obtain⟨G1,s1,r1⟩:=zF (zG 100) args vs H asx H1 G h hv hice;obtain⟨h1,h2⟩:=hknown hr s1.r r1;refine⟨h1,h2.mono fun e w' hh=>?_⟩;obtain⟨v,G',rfl,hr',hs'⟩:=hh;exact⟨v,G',rfl,hr',s1.trans hs'⟩
     .exact Dh fit hih hs h hv
    .exact Dh fit hih hs h hv
   .exact Dh fit hih hs h hv
  simp only[step]at hs;split at hs
  .rename_i r' hr;simp only[Res.val.injEq]at hs;obtain⟨rfl,rfl⟩:=hs;exact hknown hr h hv
  .unfold uO at hs;split at hs
   .rename_i v1 H1 hz hv1;obtain⟨g1,g2⟩:=hany hv1 h hv;refine⟨g1,g2.mono fun e w' hh=>?_⟩;obtain⟨v,G',rfl,hr',hs'⟩:=hh;cases hi:eY 100 v1 H1 with
    |none=>rw[hi]at hs;simp[zfM]at hs
    |some p=>
     obtain⟨q,H2⟩:=p;rw[hi]at hs;simp only[zfM,Res.val.injEq]at hs;obtain⟨rfl,rfl⟩:=hs;obtain⟨G2,s2,r2⟩:=zG 100 v1 H1 _ _ G' v hs'.r hr' hi;exact⟨v,G2,rfl,r2,hs'.trans s2⟩
   .exact hany hs h hv
end
open Go Go.RowKit Go.WideShapes Go.ChangeShapes
theorem P5(r:Nat):zeo.get r=none:=rfl
theorem R.start{w:World}{G:Gh}{cfg:Cfg}(hf:∀b o v,G.F b o=some v->w.cell? ⟨b,o,none⟩=some v)(hb:∀r,G.β r=none)(hD:mG cfg.dec G.ρ):R ⟨w.heap.size,G.ρ,cfg⟩ zeo w G:=by
 refine⟨aM _,?_,?_,?_,?_,?_,?_,?_,?_,?_,hf,rfl,hD,?_⟩<;>intros<;>simp_all
theorem va{g:AV->Option AV}:∀{cs ds:List AV},iceL g cs=some ds->ds.length=cs.length/\∀(i:Nat) d,ds[i]?=some d->∃c,cs[i]?=some c/\g c=some d
 |[],ds,h=>by
  simp only[iceL,aQ]at h;subst h;exact⟨rfl,aK⟩
 |c::cs,ds,h=>by
  simp only[iceL]at h;split at h
  .rename_i d ds' h1 h2;simp only[aQ]at h;subst h;obtain⟨h3,h4⟩:=va h2;refine⟨by simp[h3],fun i e he=>?_⟩;cases i with
   |zero=>simp at he;subst he;exact⟨c,rfl,h1⟩
   |succ i=>exact h4 i e (by simpa using he)
  .simp at h
theorem HJ{g:AV->Option AV}:∀{cs ds:List (List AV)},rR g cs=some ds->ds.length=cs.length/\∀(i:Nat) d,ds[i]?=some d->∃c,cs[i]?=some c/\iceL g c=some d
 |[],ds,h=>by
  simp only[rR,aQ]at h;subst h;exact⟨rfl,aK⟩
 |c::cs,ds,h=>by
  simp only[rR]at h;split at h
  .rename_i d ds' h1 h2;simp only[aQ]at h;subst h;obtain⟨h3,h4⟩:=HJ h2;refine⟨by simp[h3],fun i e he=>?_⟩;cases i with
   |zero=>simp at he;subst he;exact⟨c,rfl,h1⟩
   |succ i=>exact h4 i e (by simpa using he)
  .simp at h
theorem xo{H:Hp}{G G2:Gh}{w:World}(hρ:G2.ρ=G.ρ)(hF:∀b o v,G.F b o=some v->G2.F b o=some v)
 (hcell:∀r b o x cs imm tip,G.β r=some (b,o,x)->H.get r=some (.cells cs imm tip)->iX G w b o cs/\∀j v,w.cell? ⟨b,o+j,none⟩=some v->G2.F b (o+j)=some v) :
 ∀(n:Nat) (v:AV) (x:Value) (q:AV),VR G v x->iceV H n v=some q->VR G2 q x
 |0,_,_,_,_,h=>by simp[iceV]at h
 |n+1,v,x,q,hv,h=>by
  have hlist:∀{cs ds:List AV}{vs:List Value},cr G cs vs->iceL (iceV H n) cs=some ds->cr G2 ds vs:=fun{cs ds vs} hvs hi=>by
   obtain⟨h1,h2⟩:=va hi;refine⟨by rw[h1];exact hvs.1,fun i d u hd hu=>?_⟩;obtain⟨c,hc,hcd⟩:=h2 i d hd;exact xo hρ hF hcell n c u d (hvs.2 i c u hc hu) hcd
  cases hv with
  |int k a=>simp only[iceV,aQ]at h;subst h;exact .int _ _
  |sx k e=>simp only[iceV,aQ]at h;subst h;rw[<-hρ];exact .sx _ _
  |bool b=>simp only[iceV,aQ]at h;subst h;exact .bool _
  |str s l hs=>simp only[iceV,aQ]at h;subst h;exact .str _ _ hs
  |nilP=>simp only[iceV,aQ]at h;subst h;exact .nilP
  |nilM=>simp only[iceV,aQ]at h;subst h;exact .nilM
  |nilF=>simp only[iceV,aQ]at h;subst h;exact .nilF
  |nilS=>simp only[iceV,aQ]at h;subst h;exact .nilS
  |ptr _=>simp[iceV]at h
  |iptr _ _ _=>simp[iceV]at h
  |map _=>simp[iceV]at h
  |clo _ _=>simp[iceV]at h
  |agg hl hvs=>
   simp only[iceV]at h;split at h
   .rename_i ds hds;simp only[aQ]at h;subst h;have:=hlist ⟨hl,hvs⟩ hds;exact .agg this.1 this.2
   .simp at h
  |tup hl hvs=>
   simp only[iceV]at h;split at h
   .rename_i ds hds;simp only[aQ]at h;subst h;have:=hlist ⟨hl,hvs⟩ hds;exact .tup this.1 this.2
   .simp at h
  |lst0 a cap=>
   simp only[iceV,rR,aQ]at h;subst h;exact .lst0 _ _
  |lst vs hz hFx hvx hc=>
   rename_i xs b o cap z;simp only[iceV]at h;split at h
   .rename_i ys hys;simp only[aQ]at h;subst h;obtain⟨h1,h2⟩:=HJ hys;rw[<-h1];refine .lst vs (z:=z) (fun i row hr=>?_) (fun i j hi hj=>hF _ _ _ (hFx i j (by rw[<-h1];exact hi) hj)) (fun i j row c hr hcj=>?_) (by rw[h1];exact hc)
    .obtain⟨c,hc1,hc2⟩:=h2 i row hr;rw[(va hc2).1];exact hz i c hc1
    .obtain⟨c0,hc1,hc2⟩:=h2 i row hr;obtain⟨c1,hc3,hc4⟩:=(va hc2).2 j c hcj;exact xo hρ hF hcell n c1 (vs i j) c (hvx i j c0 c1 hc1 hc3) hc4
   .simp at h
  |sl hr hl hcx=>
   rename_i r off len z b o xx cap;simp only[iceV]at h;split at h
   .rename_i cs imm tip hg;split at h
    .rename_i l hil;split at h
     .rename_i hlen;simp only[aQ]at h;subst h;obtain⟨hh,hnew⟩:=hcell r b o xx cs imm tip hr hg;obtain⟨h1,h2⟩:=va hil;have hcellat:∀(m:Nat) c,l[m]?=some c->∃v,w.cell? ⟨b,o+off+m,none⟩=some v/\VR G2 c v:=fun m c hm=>by
       obtain⟨c0,hc0,hc1⟩:=h2 m c hm;rw[pM]at hc0;split at hc0
       .rw[rS]at hc0;obtain⟨v,hv1,hv2⟩:=hh _ _ hc0;exact⟨v,by rw[jJ];exact hv1,xo hρ hF hcell n c0 v c hv2 hc1⟩
       .simp at hc0
      have hlc:=Df z len l;have hin:∀i j,i<len->j<z->i*z+j<l.length:=fun i j hi hj=>by
       rw[hlen]
       calc i*z+j<i*z+z:=by omega
        _=(i+1)*z:=by rw[nJ,xi]
        _<=len*z:=uX _ hi
      have key:VR G2 (.lst (gY z len l)) (.slice (some ⟨b,o+off,none⟩) (gY z len l).length cap):=by
       refine .lst (fun i j=>(w.cell? ⟨b,o+off+(i*z+j),none⟩).getD undef) (z:=z) (fun i row hrow=>(xn z len l i row hlen hrow).1) (fun i j hi hj=>?_) (fun i j row c hrow hcj=>?_) (by rw[hlc];exact hl)
       .rw[hlc]at hi;have hm:=hin i j hi hj;obtain⟨v,hv1,_⟩:=hcellat (i*z+j) _ (br hm);rw[hv1];have:=hnew (off+(i*z+j)) v (by rw[<-jJ];exact hv1);rw[show o+off+i*z+j=o+(off+(i*z+j)) by omega];exact this
       .have hm:=(xn z len l i row hlen hrow).2 j c hcj;obtain⟨v,hv1,hv2⟩:=hcellat (i*z+j) c hm;rw[hv1];exact hv2
      rw[hlc]at key;exact key
     .simp at h
    .simp at h
   .simp at h
theorem P6(w:World){G G2:Gh}(hρ:G2.ρ=G.ρ)(hF:∀b o v,G.F b o=some v->G2.F b o=some v){m:Nat}{args:List AV}(h:qC m args=true){vs:List Value}(hv:cr G args vs):cr G2 args vs:=by
 unfold qC at h;split at h
 .rename_i asx has;have:=zgv h;subst this;obtain⟨h1,h2⟩:=va has;refine⟨hv.1,fun i c v hc hvi=>?_⟩;obtain⟨c0,hc0,hc1⟩:=h2 i c hc;rw[hc]at hc0;simp only[aQ]at hc0;subst hc0;exact xo (H:=zeo) (w:=w) hρ hF (fun r b o x cs imm tip _ hg=>by simp[P5]at hg) m c v c (hv.2 i c v hc hvi) hc1
 .simp at h
theorem Dj{P:Program}{ih:Task->Res}{f:FuncId}{args:List AV}{H H':Hp}{r:AV}(h:nE P ih f args H=.val r H'):∃fn,P.funcs[f]?=some fn/\fn.body.isSome=true:=by
 unfold nE at h;split at h
 .rename_i fn hfn;split at h
  .rename_i c hb;exact⟨fn,hfn,by simp[hb]⟩
  .simp at h
 .simp at h
theorem P7{P:Program}{cfg:Cfg}{ρ:Nat->Int}(hc:∀f args r,cfg.call f args=some r->bV P ρ f args r){n:Nat}{f:FuncId}{args:List AV}{H H':Hp}{r:AV}(h:ze8 P cfg n (.call f args H)=.val r H'):
 ∃fn,P.funcs[f]?=some fn/\fn.body.isSome=true:=by
 cases n with
 |zero=>simp[ze8]at h
 |succ n=>
  have he:ze8 P cfg (n+1)=step P cfg (ze8 P cfg n):=rfl;rw[he]at h;simp only[step]at h;split at h
  .rename_i r' hr;exact(hc f args r' hr).1
  .have hany:∀{r:AV}{H':Hp},nG P cfg (ze8 P cfg n) f args H=.val r H'->∃fn,P.funcs[f]?=some fn/\fn.body.isSome=true:=fun{r H'} h=>by
    unfold nG at h;split at h
    .unfold wR at h;split at h
     .split at h
      .rename_i hr;exact(hc _ _ _ hr).1
      .exact Dj h
     .exact Dj h
    .exact Dj h
   unfold uO at h;split at h
   .rename_i hv;exact hany hv
   .exact hany h
theorem Dk{P:Program}(fit:Fit P){cfg:Cfg}{ρ:Nat->Int}(hD:mG cfg.dec ρ)(hc:∀f args r,cfg.call f args=some r->bV P ρ f args r){n m k:Nat}{f:FuncId}{args:List AV}{r:AV}
 (hp:qC k args=true) (h:wS P cfg n m f args=some r):bV P ρ f args r:=by
 unfold wS at h;split at h
 .rename_i v0 H' hev;refine⟨P7 hc hev,fun G w vs hρ hf hv=>?_⟩;subst hρ;have hv0:cr {G with β:=fun _=>none} args vs:=P6 w (G:=G) (G2:={G with β:=fun _=>none}) rfl (fun _ _ _ h=>h) hp hv;have hr0:R ⟨w.heap.size,G.ρ,cfg⟩ zeo w {G with β:=fun _=>none}:=R.start (G:={G with β:=fun _=>none}) hf (fun _=>rfl) hD;refine((HI (B:=⟨w.heap.size,G.ρ,cfg⟩) fit hc n).call f args zeo _ H' hev _ w vs hr0 hv0).2.mono fun e w' hh=>?_;obtain⟨x,G',rfl,hx,hs⟩:=hh;have hbelow:Below w.heap.size w w':=⟨hs.fr.os,hs.fr.tape,hs.fr.output,hs.fr.size,fun k hk=>hs.fr.block k hk (fun r b o x hr=>by simp at hr)⟩;refine⟨x,fun b o=>if b<w.heap.size then G.F b o else w'.cell? ⟨b,o,none⟩,rfl,?_,hbelow,fun b o v hv=>?_,fun b o v hv=>?_,fun b o v hv=>?_⟩
  .refine xo (G:=G') (w:=w') (H:=H') ?_ (fun b o v hv=>?_) (fun r b o x cs imm tip hr hg=>?_) m v0 x r hx h
   .exact hs.ext.ρ.symm
   .rcases hs.icy b o v hv with h1|h1
    .show(if b<w.heap.size then G.F b o else w'.cell? ⟨b,o,none⟩)=some v;rw[aE (rT (hf b o v h1))];exact h1
    .show(if b<w.heap.size then G.F b o else w'.cell? ⟨b,o,none⟩)=some v;rw[ah (by have:w.heap.size<=b:=h1;omega)];exact hs.r.frz b o v hv
   .refine⟨hs.r.cells r b o x cs imm tip hr hg,fun j v hj=>?_⟩;have h1:w.heap.size<=b:=(hs.r.lt r b o x hr).1;show(if b<w.heap.size then G.F b (o+j)else w'.cell? ⟨b,o+j,none⟩)=some v;rw[ah ac];exact hj
  .rw[aE (rT (hf b o v hv))];exact hv
  .split at hv
   .exact .inl hv
   .exact .inr ac
  .split at hv
   .rename_i hb;rw[(De hbelow hb).1];exact hf b o v hv
   .exact hv
 .simp at h
theorem HK{P:Program}{ρ:Nat->Int}{f:FuncId}{args:List AV}{b:Bool}(h:bV P ρ f args (.bool b)){vs:List Value}{w:World}{F:Nat->Nat->Option Value}
 (hF:∀b o v,F b o=some v->w.cell? ⟨b,o,none⟩=some v) (hv:cr ⟨fun _=>none,F,ρ⟩ args vs) :
 Calls P f vs.toArray w (fun e w'=>e=.returned (.bool b)/\Below w.heap.size w w'):=by
 refine(h.2 ⟨fun _=>none,F,ρ⟩ w vs rfl hF hv).mono fun e w' hh=>?_;obtain⟨v,F',rfl,hr,hg⟩:=hh;cases hr;exact⟨rfl,hg.below⟩
def Dl:Res->Bool
 | .val (.bool true) _=>true
 |_=>false
theorem P8{P:Program}(fit:Fit P){cfg:Cfg}{ρ:Nat->Int}(hD:mG cfg.dec ρ)(hc:∀f args r,cfg.call f args=some r->bV P ρ f args r){n k:Nat}{f:FuncId}{args:List AV}
 (hp:qC k args=true) (h:Dl (ze8 P cfg n (.call f args zeo))=true):bV P ρ f args (.bool true):=by
 refine Dk fit hD hc (n:=n) (m:=1) hp ?_;unfold wS;unfold Dl at h;split at h
 .rename_i H he;rw[he];rfl
 .simp at h
theorem P9{P:Program}(fit:Fit P){cfg:Cfg}{ρ:Nat->Int}(hD:mG cfg.dec ρ)(hc:∀f args r,cfg.call f args=some r->bV P ρ f args r){n m k:Nat}{f:FuncId}{args:List AV}{r:AV}
 (hp:qC k args=true) (h:Cf P cfg n m f args r=true):bV P ρ f args r:=by
 unfold Cf at h;split at h
 .rename_i q hq;rw[<-AV.beq_eq h];exact Dk fit hD hc hp hq
 .simp at h
theorem ly(ρ:Nat->Int):mG (fun _ _ _=>none) ρ:=fun _ _ _ _ _ h=>pS
def vb(P:Program)(ρ:Nat->Int):List (FuncId×List AV×AV)->Prop
 |[]=>True
 |p::l=>bV P ρ p.1 p.2.1 p.2.2/\vb P ρ l
theorem zH{P:Program}{ρ:Nat->Int}:∀{l:List (FuncId×List AV×AV)},vb P ρ l->∀f args r,tm l f args=some r->bV P ρ f args r
 |[],_,_,_,_,h=>by simp[tm]at h
 |p::l,hk,f,args,r,h=>by
  simp only[tm]at h;split at h
  .rename_i hf;split at h
   .rename_i ha;simp only[aQ]at h;subst h;rw[<-iV hf,<-zgv ha];exact hk.1
   .exact zH hk.2 f args r h
  .exact zH hk.2 f args r h
def vd:List (Nat×Nat×Plan)->FuncId->Nat->Plan
 |[],_,_=>.text
 |p::l,f,id=>match Nat.beq p.1 f with
  |true=>match Nat.beq p.2.1 id with
   |true=>p.2.2
   |false=>vd l f id
  |false=>vd l f id
def Qa(pls:List (Nat×Nat×Plan))(l:List (FuncId×List AV×AV)):Cfg:={keep:=fun _=>false,call:=tm l,ice:=fun f=>l.any fun p=>Nat.beq p.1 f,plan:=vd pls}
theorem Qb{P:Program}(fit:Fit P){ρ:Nat->Int}{pls:List (Nat×Nat×Plan)}{l:List (FuncId×List AV×AV)}(hl:vb P ρ l){n m k:Nat}{f:FuncId}{args:List AV}{r:AV}
 (hp:qC k args=true) (h:Cf P (Qa pls l) n m f args r=true):bV P ρ f args r:=P9 fit (ly ρ) (zH hl) hp h
def Dm:Cfg:={keep:=fun _=>false}
theorem Qc{P:Program}{ρ:Nat->Int}:∀f args r,Dm.call f args=some r->bV P ρ f args r:=fun _ _ _ h=>by simp[Dm]at h
def HL(P:Program):Bool:=P.funcs.all (fun fn=>!(fn.body.isSome&&fn.name == "runtime.NumGoroutine"))&&P.follows .mixedOrders
theorem Fit.of{P:Program}(h:HL P=true):Fit P:=by
 simp only[HL,cJ]at h;refine⟨fun f fn hf hb=>?_,h.2⟩;have h1:=h.1;rw[CS]at h1;have:=h1 fn (by exact Array.mem_of_getElem? hf);simpa [hb]using this
theorem closed{P:Program}(fit:Fit P){n f:Nat}(h:Dl (ze8 P Dm n (.call f [] zeo))=true){w:World}:
 Calls P f #[] w (fun e w'=>e=.returned (.bool true)/\Below w.heap.size w w'):=
 HK (ρ:=fun _=>0) (F:=fun _ _=>none) (P8 fit (ly _) Qc (k:=1) rfl h) (fun _ _ _ h=>pS) (j8 _)
section
variable {H:Type} {enc:TypeId × Value -> H} {P:Program}
theorem Qd{f:Func}{s:ChangeSpec}{apart fresh handsOn again:Bool}{W W':World}{args:Array Value}{v:Value}{ds gs:List (DataW H)}{before pa pv:List MemPlace}
 (hW:DataW.Whole enc P f.params.toList s.vars apart W args.toList ds gs before)
 (hres:∀(b:Nat) (sp:Nat->Bool) (hd:Bool),DataW.TrodAll enc P W' b sp hd f.resultTypes.toList (v.resultList f.resultTypes.size) (s.fn H (ds++gs)).results [])
 (hargs:∀sp:Nat->Bool,(∀p∈before,sp p.block=true)->DataW.TrodAll enc P W' 0 sp true f.params.toList args.toList (s.fn H (ds++gs)).args pa)
 (hvars:∀sp:Nat->Bool,(∀p∈before,sp p.block=true)->DataW.TrodVars enc P W' sp s.vars (s.fn H (ds++gs)).vars pv)
 (hps:before=pa++pv) (hb:Below W.heap.size W W')
 (hok:∀(j:Nat) (t:TypeId) (r:Value),f.resultTypes[j]?=some t->(v.resultList f.resultTypes.size)[j]?=some r->Value.okWide P W' .any 0 t r) :
 s.post enc P f apart fresh handsOn again W args v W':=by
 have hlt:∀p∈before,p.block<W.heap.size:=fun p hp=>hW.lt p hp;have hold:∀p∈before,(fun b=>decide (b<W.heap.size)) p.block=true:=fun p hp=>by simpa using hlt p hp
 refine⟨ds,gs,before,[],pa,pv,hW,hres _ _ _,hargs _ hold,hvars _ hold,World.keptBut_mono (fun p hp=>⟨hp,?_⟩) (hb.frame (·∈ before)),fun _=>?_⟩
 .rw[hps,mI]at hp;exact Or.inr hp
 .obtain⟨_,_,_,_,_,hz,hn⟩:=hW;refine⟨hok,_,_,([]++pa)++pv,⟨[]++pa,pv,trodAll_append (hargs _ (fun _ _=>rfl)) (hres _ _ _),hvars _ (fun _ _=>rfl),rfl,?_,?_⟩,?_⟩
  .intro b off hp;have hin:MemPlace.cell b off∈before:=by rw[hps];simpa using hp
   rw[hb.frozen (hlt _ hin)];exact hz b off hin
  .intro ha;have:=hn ha;rw[hps]at this;simpa using this
  .intro p hp _;rw[hps];simpa using hp
end
end Go.Ab
