/- Lemmas for the last file. -/
import Derived.Below
import Derived.ChangeSame
import Derived.IntWalk
import Derived.Test.YtbflaciihaijgaaGreatUEC
set_option linter.all false
set_option maxHeartbeats 32000000
namespace Go.Ab
set_option maxRecDepth 20000
open Go
abbrev qC:=List qD
variable{qn:Prop}
def su(h:qn:=by trivial):=h
def tu(h:qn:=by simp[dQ,vz,kQ]):=h
def Gb(h:qn:=by unfold jP;rw[h]):=h
def xc(h:qn:=by rw[Ex.aZ];rfl):=h
def lY(h:qn:=by rw[St.aZ];rfl):=h
def tw(h:qn:=by rw[Fu.aZ];rfl):=h
def Gc(h:qn:=by rw[Ar.aZ];rfl):=h
def Gd(h:qn:=by rw[Pr.aZ];rfl):=h
def Cw(h:qn:=by rw[Tk.aZ];rfl):=h
def Cy(h:qn:=by rw[Nd.aZ];rfl):=h
def yF(h:qn:=by rw[Gr.aZ];rfl):=h
def Ge(h:qn:=by rw[Un.aZ];rfl):=h
def nX:=@Bool.true_or
def dM:=@List.mem_cons_self
def dh:=@List.mem_cons_of_mem
def rF:=@List.map_append
def ng:=@List.getElem?_eq_none
def ur:=@Nat.blt_eq
def KB:=@List.mem_iff_getElem?
def Gf:=@List.map_map
def Gg:=@Nat.one_mul
def j6:=@true_and
def yG:=@Nat.le_max_left
def Am:=@Nat.le_max_right
def jR:=@Int.eq_ofNat_of_zero_le
def nh:=@Bool.false_and
end Go.Ab
namespace Go.Ab
set_option maxRecDepth 20000
open Go Go.RowKit
variable{a:Act}{w w':World}{q p i k N O m s Z:Nat}{l:qE}{o j:Oper}{z y:qO}{P:Program}{Q:aw->Hp->Prop}{L:qG}{x:AX}{Y E:aw}{I:IntKind}{t e:TypeId}{J:Option Tmp}{v r:AV}{ih:zd5->Res}{f:FuncId}{H H':Hp}{G:Gh}{vs:qL}{c b:Code}{fn:Func}{cfg:Cfg}{C:Array (Nat×Operand)}{K:AV->Hp->Prop}{cs:qB}{D:BinOp->Sx->Sx->qK}{V:qU}
def nY(ops:qQ):qG->qO->Prop
 |[],listed=>Region.ready .any ops listed=[]
 |i::L,listed=>i∈Region.ready .any ops listed/\nY ops L (listed.setIfInBounds i true)
theorem PD{ops:qQ}:∀(m t:Nat) (z:qO),z.size=ops.size->z.toList.countP (·=false)<=m->nY ops (Region.linearise.go .any ops m t z []) z
 |0,t,z,hs,hc=>by
  show Region.ready .any ops z=[];apply Cp.2;intro i O;obtain⟨o,I,L,_⟩:=nW.1 O;have Z:i<z.size:=cU;rw[mY,w7 Z]at L;have:=KA Z wV;omega
 |m+1,t,z,hs,hc=>by
  simp only[Region.linearise.go];change nY ops (match (Region.ready .any ops z)[t%(Region.ready .any ops z).length]? with
   |some i=>Region.linearise.go .any ops m (t/(Region.ready .any ops z).length) (z.setIfInBounds i true) [i]
   |none=>[].reverse) z
  cases O:(Region.ready .any ops z)[t%(Region.ready .any ops z).length]? with
  |none=>
   show Region.ready .any ops z=[];cases hr:Region.ready .any ops z with
   |nil=>rfl
   |cons x V=>
    rw[hr]at O;have C:t%(x::V).length<(x::V).length:=Nat.mod_lt _ aB
    grind
  |some i=>
   simp only[];rw[linearise_go_acc,List.reverse_singleton,List.singleton_append];have Y:=cV O;refine⟨Y,PD m _ _ (by simpa using hs) ?_⟩;obtain⟨o,I,L,_⟩:=nW.1 Y;have Z:i<z.size:=by rw[hs];have:=(gR.1 I).1;simpa using this
   rw[mY,w7 Z]at L
   grind
section
variable {P:Program} {Q:Exit -> Act -> World -> Prop}
theorem KC{ops:qQ}:∀(L:qG) (m:Nat) (z:qO) (a:Act) (w:World),wpAny P .any ops Q m z a w->nY ops L z->wpOps P ops Q L a w
 |[],0,z,a,w,h,_=>h.2
 |[],m+1,z,a,w,h,hv=>h.1 hv
 |i::L,0,z,a,w,h,hv=>by
  have j:=hv.1;rw[h.1]at j;simp at j
 |i::L,m+1,z,a,w,h,hv=>by
  rw[wpOps_cons];exact wpOp_mono (fun a w Z=>KC L m _ a w Z hv.2) (h.2 i hv.1)
def zal{ops:qQ}{id:Nat}(Y:P.follows .mixedOrders=true)
 (h:∀L,nY ops L (Array.replicate ops.size false)->wpOps P ops Q L a {w with drawn:=w.drawn+1}):(Code.region id ops true).wp P Q a w:=
 wp_region_draw fun t=>by
  simp only[Region.schedule,Y,nX,dG];exact h _ (PD ops.size t _ aB (dt List.countP_le_length aB))
theorem KD{ops ops':qQ}{φ:Nat->Nat}:∀(L:qG) (a:Act) (w:World),
 (∀i∈L,∃o Y,ops[i]?=some o/\ops'[φ i]?=some Y/\(∃O gd,Y={o with after:=O,guard:=gd})/\∀a:Act,Region.wanted Y (yielded ops' a.tmps)=Region.wanted o (yielded ops a.tmps)) ->
 wpOps P ops' Q (L.map φ) a w->wpOps P ops Q L a w
 |[],_,_,_,h=>h
 |i::L,a,w,hr,h=>by
  rw[eC,wpOps_cons]at h;rw[wpOps_cons];obtain⟨o,Y,V,m,⟨O,gd,C⟩,J⟩:=hr i dM;have Z:∀a w,wpOps P ops' Q (L.map φ) a w->wpOps P ops Q L a w:=fun a w=>KD L a w (fun j I=>hr j (dh _ I));have z:=wpOp_mono Z h;unfold wpOp at z⊢;rw[m]at z;rw[V];simp only[]at z⊢;rw[J a]at z;subst C;exact z
end
def Gi(q p:Nat)(l:qE):(ly q p l).length=l.length:=by
 unfold ly;split<;>simp
theorem Cz(h:l[i]?=some o):
 ∃Z,(ly q p l)[i]?=some Z/\(∃O,Z={o with after:=O})/\(i≠q->Z=o)/\∀j,j∈preds Z↔j∈preds o\/(i=q/\j=p):=by
 unfold ly;have Y:=(gR.1 h).1;by_cases e:i=q
 .subst e;rw[h];refine⟨_,List.getElem?_set_self Y,⟨_,rfl⟩,fun J=>(J rfl).elim,fun j=>?_⟩;unfold preds;have:(o.after.push {on:=p,ground:=.data}).toList=o.after.toList++[{on:=p,ground:=.data}]:=aB;rw[this,List.filter_append,rF,uk];have m:(List.filter (Region.binds .any) [({on:=p,ground:=.data}:Edge)])=[{on:=p,ground:=.data}]:=rfl;rw[m];simp
 .have I:∀V,(l.set q V)[i]?=some o:=fun V=>by grind
  split
  .exact⟨o,I _,⟨o.after,rfl⟩,fun _=>rfl,fun j=>⟨.inl,fun h=>h.elim id (fun h=>(e h.1).elim)⟩⟩
  .exact⟨o,h,⟨o.after,rfl⟩,fun _=>rfl,fun j=>⟨.inl,fun h=>h.elim id (fun h=>(e h.1).elim)⟩⟩
theorem PE(h:(ly q p l)[i]?=some j):∃o,l[i]?=some o:=by
 have:=(gR.1 h).1;rw[Gi]at this;simp_all
theorem zam(j:Nat):((ly q p l)[j]?).bind (·.dst)=(l[j]?).bind (·.dst):=by
 cases h:l[j]? with
 |none=>
  rw[ng (by rw[Gi];simp_all)]
 |some o=>
  obtain⟨Y,Z,⟨O,rfl⟩,_⟩:=Cz (q:=q) (p:=p) h;rw[Z];rfl
def PF(h:i∈Region.ready .any (ly q p l).toArray z):i∈Region.ready .any l.toArray z:=by
 obtain⟨L,Z,m,V⟩:=nW.1 h;simp only[]at Z;obtain⟨o,I⟩:=PE Z;obtain⟨J,C,_,_,O⟩:=Cz (q:=q) (p:=p) I;rw[Z]at C;simp only[am]at C;subst C;exact nW.2 ⟨o,I,m,fun j Y=>V j ((O j).2 (.inl Y))⟩
theorem CA(h:i∈Region.ready .any l.toArray z)(Y:i=q->z.getD p false=true):i∈Region.ready .any (ly q p l).toArray z:=by
 obtain⟨o,Z,m,O⟩:=nW.1 h;simp only[]at Z;obtain⟨V,C,_,_,L⟩:=Cz (q:=q) (p:=p) Z;refine nW.2 ⟨V,C,m,fun j I=>?_⟩
 grind
theorem zan(h:z.getD p false=true):(z.setIfInBounds i true).getD p false=true:=by
 simp only[mY,Cf]at *
 grind
theorem KE{q p:Nat}{l:qE}:∀{L:qG}{z:qO},z.getD p false=true->nY l.toArray L z->nY (ly q p l).toArray L z
 |[],z,_,hv=>by
  show Region.ready .any (ly q p l).toArray z=[];apply Cp.2;intro i O;have:=PF O;rw[show Region.ready .any l.toArray z=[]from hv]at this;simp at this
 |i::L,z,hd,hv=>⟨CA hv.1 (fun _=>hd),KE (zan hd) hv.2⟩
theorem PG{p q:Nat}(Z:p≠q){l:qE}:∀{L:qG}{z:qO},z.size=l.length->nY l.toArray L z->nY (ly q p l).toArray L z\/nY (ly p q l).toArray L z
 |[],z,_,hv=>.inl <|by
  show Region.ready .any (ly q p l).toArray z=[];apply Cp.2;intro i Y;have:=PF Y;rw[show Region.ready .any l.toArray z=[]from hv]at this;simp at this
 |i::L,z,hs,hv=>by
  have m:i<z.size:=by
   obtain⟨o,I,_⟩:=nW.1 hv.1
   grind
  have O:(z.setIfInBounds i true).getD i false=true:=by
   simp_all
  by_cases C:i=q
  .subst C;exact .inr ⟨CA hv.1 (fun e=>(Z e.symm).elim),KE O hv.2⟩
  .by_cases V:i=p
   .subst V;exact .inl ⟨CA hv.1 (fun e=>(C e).elim),KE O hv.2⟩
   .rcases PG Z (by simpa using hs) hv.2 with h|h
    .exact .inl ⟨CA hv.1 (fun e=>(C e).elim),h⟩
    .exact .inr ⟨CA hv.1 (fun e=>(V e).elim),h⟩
theorem KF{ops:qQ}:∀{L:qG}{z:qO},nY ops L z->∀i∈L,∃o,ops.toList[i]?=some o
 |[],_,_,i,O=>by simp at O
 |j::L,z,hv,i,O=>by
  rcases eJ.1 O with rfl|O
  .obtain⟨o,I,_⟩:=nW.1 hv.1;exact⟨o,I⟩
  .exact KF hv.2 i O
theorem PH{Q:Exit->Act->World->Prop}(Z:nY l.toArray L z)
 (h:wpOps P (ly q p l).toArray Q L a w):wpOps P l.toArray Q L a w:=by
 refine KD (ops':=(ly q p l).toArray) (φ:=id) L a w (fun i O=>?_) lV;obtain⟨o,I⟩:=KF Z i O;simp only[]at I;obtain⟨J,C,⟨Y,rfl⟩,_⟩:=Cz (q:=q) (p:=p) I;refine⟨o,_,by simpa using I,by simpa using C,⟨Y,o.guard,rfl⟩,fun a=>?_⟩;have V:yielded (ly q p l).toArray a.tmps=yielded l.toArray a.tmps:=funext fun j=>by
  unfold yielded;have:=zam (q:=q) (p:=p) (l:=l) j;simp_all
 rw[V];rfl
structure zf5 (ord:qG) (l:qE):Prop where
 len:ord.length=l.length
 bk:∀k:Nat,k<l.length->∃i,ord[k]?=some i/\i<l.length/\kC ord i=k
 lt:∀i:Nat,i<l.length->kC ord i<l.length/\ord[kC ord i]?=some i
 ef:∀(i:Nat) o,l[i]?=some o->(∀p∈preds o,p<l.length)/\∀j b,o.guard=some (j,b)->j<l.length
theorem zao{ord:qG}(h:Cb ord l=true):zf5 ord l:=by
 unfold Cb at h;simp only[bT,js,tq]at h;obtain⟨⟨Z,m⟩,C⟩:=h;refine⟨tm Z,fun k z=>?_,fun i O=>?_,fun i o I=>?_⟩
 .simp_all
 .have Y:=(m i O).1.2;have V:=(m i O).2;simp_all
 .have:=C o (cV I);refine⟨fun p hp=>by simpa [ur]using this.1 p hp,fun j b hg=>?_⟩;simp_all
theorem PI{J β:Type}{f:J->Option β}:∀{z:List J},(∀x∈z,(f x).isSome=true)->∀k:Nat,(z.filterMap f)[k]?=(z[k]?).bind f
 |[],_,k=>by simp
 |x::z,h,k=>by
  obtain⟨y,O⟩:=Option.isSome_iff_exists.1 (h x dM);rw[List.filterMap_cons_some O];cases k with
  |zero=>simp[O]
  |succ k=>simp[PI (fun x I=>h x (dh _ I)) k]
section
variable {ord:qG} {l:qE} (hp:zf5 ord l)
include hp
theorem zf5.fb(h:l[i]?=some o):(j5 ord l)[kC ord i]?=some (wS ord o):=by
 have O:=(gR.1 h).1;unfold j5;rw[PI (fun x I=>?_)]
 .rw[(hp.lt i O).2];simp[h]
 .obtain⟨k,z⟩:=KB.1 I;have Z:k<l.length:=by rw[<-hp.len];exact(gR.1 z).1
  obtain⟨Y,j,m,_⟩:=hp.bk k Z;simp_all
theorem zf5.length:(j5 ord l).length=l.length:=by
 have:∀k,k<l.length->((j5 ord l)[k]?).isSome=true:=fun k z=>by
  obtain⟨i,j,m,C⟩:=hp.bk k z;have:=hp.fb (aX m);rw[C]at this;rw[this];rfl
 refine Nat.le_antisymm (dt (List.length_filterMap_le _ _) (by rw[hp.len];exact aG _)) ?_
 grind
theorem zf5.of(h:(j5 ord l)[k]?=some j):∃i o,l[i]?=some o/\kC ord i=k/\j=wS ord o:=by
 have z:k<l.length:=by rw[<-hp.length];exact(gR.1 h).1
 obtain⟨i,Z,m,C⟩:=hp.bk k z;have:=hp.fb (aX m)
 grind
theorem zf5.inj{j:Nat}(O:i<l.length)(I:j<l.length)(h:kC ord i=kC ord j):i=j:=by
 have Z:=(hp.lt i O).2;rw[h,(hp.lt j I).2]at Z;simp_all
theorem zf5.preds:Ab.preds (wS ord o)=(Ab.preds o).map (kC ord):=by
 unfold Ab.preds wS;simp only[Gf];rw[List.filter_map];have:(Region.binds .any ∘ fun e:Edge=>{e with on:=kC ord e.on})=Region.binds .any:=rfl;simp_all
def CB(ord:qG)(l:qE)(x y:qO):Prop:=x.size=l.length/\y.size=l.length/\∀i,i<l.length->y[kC ord i]?=x[i]?
def CB.set{x:qO}(h:CB ord l x y)(O:i<l.length):CB ord l (x.setIfInBounds i true) (y.setIfInBounds (kC ord i) true):=by
 refine⟨by simpa using h.1,by simpa using h.2.1,fun j I=>?_⟩;simp only[Cf];by_cases e:i=j
 .subst e;rw[ai rfl,ai rfl,ai (by rw[h.2.1];exact(hp.lt i O).1),ai (by rw[h.1];exact O)]
 .rw[ah e,ah (fun C=>e (hp.inj O I C))];exact h.2.2 j I
theorem PJ{x:qO}(h:CB ord l x y)(L:i<l.length):kC ord i∈Region.ready .any (j5 ord l).toArray y↔i∈Region.ready .any l.toArray x:=by
 have I:=aX L;have m:=hp.fb I;rw[nW,nW];simp only[];have hd:∀(j:Nat) (b:Bool),j<l.length->y.getD (kC ord j) b=x.getD j b:=fun j b J=>by
  simp only[mY,h.2.2 j J]
 constructor
 .rintro⟨z,C,g2,O⟩;rw[m]at C;simp only[am]at C;subst C;refine⟨_,I,aU,fun p V=>?_⟩;rw[<-hd p false ((hp.ef i _ I).1 p V)];exact O _ (by rw[hp.preds];grind)
 .rintro⟨z,C,g2,O⟩;rw[I]at C;simp only[am]at C;subst C;refine⟨_,m,aU,fun p V=>?_⟩;rw[hp.preds]at V;obtain⟨Y,Z,rfl⟩:=so.1 V;rw[hd Y false ((hp.ef i _ I).1 Y Z)];exact O Y Z
theorem PK:∀{L:qG}{x y:qO},CB ord l x y->nY l.toArray L x->nY (j5 ord l).toArray (L.map (kC ord)) y
 |[],x,y,hs,hv=>by
  show Region.ready .any (j5 ord l).toArray y=[];apply Cp.2;intro k z;obtain⟨Z,C,_⟩:=nW.1 z;simp only[]at C;obtain⟨i,o,j,m,_⟩:=hp.of C;have O:=(gR.1 j).1;rw[<-m]at z;have:=(PJ hp hs O).1 z;rw[show Region.ready .any l.toArray x=[]from hv]at this;simp at this
 |i::L,x,y,hs,hv=>by
  obtain⟨o,I,_⟩:=nW.1 hv.1;have O:i<l.length:=(gR.1 I).1;exact⟨(PJ hp hs O).2 hv.1,PK (hs.set hp O) hv.2⟩
theorem zap{Q:Exit->Act->World->Prop}(V:nY l.toArray L z)
 (h:wpOps P (j5 ord l).toArray Q (L.map (kC ord)) a w):wpOps P l.toArray Q L a w:=by
 refine KD (ops':=(j5 ord l).toArray) (φ:=kC ord) L a w (fun i O=>?_) h;obtain⟨o,I⟩:=KF V i O;simp only[]at I;have m:=hp.fb I;refine⟨o,wS ord o,by simpa using I,by simpa using m,⟨_,_,rfl⟩,fun a=>?_⟩;unfold Region.wanted wS;cases hg:o.guard with
 |none=>rfl
 |some J=>
  obtain⟨j,b⟩:=J;have Z:=(hp.ef i o I).2 j b hg;have Y:=hp.fb (aX Z);simp only[];unfold yielded;simp only[List.getElem?_toArray,Y,aX Z];rfl
end
theorem T.bl{J:Type}{V:J->J->Bool}(Z:∀a b,V a b=true->a=b):∀{x y:T J},T.beq V x y=true->x=y
 | .e,.e,_=>rfl
 | .e,.n _ _ _,h=>by simp[T.beq]at h
 | .n _ _ _,.e,h=>by simp[T.beq]at h
 | .n v l r,.n C Y z,h=>by
   simp only[T.beq,bT]at h;rw[T.bl Z h.1.2,T.bl Z h.2]
   grind
theorem zaq{ops:qE}{I:aw}{Z V:Hp}(h:JO ops Y I Z V=true):(∀o∈ops,∀d,o.dst=some d->Y.at d=I.at d)/\Z=V:=by
 unfold JO at h;simp only[bT,js]at h;refine⟨fun o O d hd=>?_,?_⟩
 .have:=h.1.1 o O;rw[hd]at this;exact AV.bl this
 .have j:=tm h.1.2;have m:=T.bl (fun a b=>HB.bl) h.2;cases Z;simp_all
section
variable {P:Program} {B:Bs} {cfg:Cfg}
theorem zar{t:Nat}(h:gI N E J v=some Y)(m:J≠some t):Y.at t=E.at t:=by
 unfold gI at h;split at h
 .rename_i d;split at h
  .simp only[am]at h;rw[<-h,Ae,ah (fun e=>m oF)]
  .simp at h
 simp_all
theorem PL{ih:zd5->Res}{f N t:Nat}{C:qE}:∀{rs:List Rec}{l:qE}{E E':aw}{H H':Hp},rE P cfg ih f N C rs l E H E' H'->(∀o∈l,o.dst≠some t)->E'.at t=E.at t
 |[],[],_,_,_,_,h,_=>by rw[h.1]
 |[],_::_,_,_,_,_,h,_=>by simp[rE]at h
 |_::_,[],_,_,_,_,h,_=>by simp[rE]at h
 |r::rs,o::l,E,E',H,H',h,ht=>by
  obtain⟨_,_,_,_,_,_,E1,hp,V⟩:=h;rw[PL V (fun o I=>ht o (dh _ I)),zar hp (ht o dM)]
def PM{f t:Nat}{ops:qE}(h:pB P cfg ih f N ops E H=.done x Y H')(m:∀o∈ops,o.dst≠some t):x=.normal/\Y.at t=E.at t:=by
 unfold pB at h;split at h
 .split at h
  .rename_i E1 H1 rs L;split at h
   .simp only[Res.done.injEq]at h;obtain⟨rfl,rfl,rfl⟩:=h;exact⟨rfl,PL (Cv L) m⟩
   .simp at h
  .simp at h
 .simp at h
def zas{ord:qG}(h:o∈j5 ord l):∃j∈l,o.dst=j.dst:=by
 unfold j5 at h;rw[List.mem_filterMap]at h;obtain⟨i,_,m⟩:=h;split at m
 .rename_i j I;simp only[am]at m;subst m;exact⟨j,cV I,rfl⟩
 .simp at m
theorem PN(h:o∈ly q p l):∃j∈l,o.dst=j.dst:=by
 obtain⟨i,O⟩:=KB.1 h;obtain⟨Y,Z⟩:=PE O;obtain⟨V,C,⟨L,J⟩,_⟩:=Cz (q:=q) (p:=p) Z
 grind
theorem PO{ops:qE}{aq r2:Res}(h:yr ops aq r2=.done x Y H'):
 x=.normal/\aq=.done .normal Y H'/\∃I,r2=.done .normal I H'/\∀o∈ops,∀d,o.dst=some d->Y.at d=I.at d:=by
 unfold yr at h;split at h
 .split at h
  .rename_i V;simp only[Res.done.injEq]at h;obtain⟨rfl,rfl,rfl⟩:=h;obtain⟨j,m⟩:=zaq V;subst m
   grind
  .simp at h
 .simp at h
theorem KG{ih:zd5->Res}{f N t:Nat}{E Y:aw}{H H':Hp}{x:AX}:∀{z:zf1}{ops:qE},lQ P cfg ih f N E H z ops=.done x Y H'->(∀o∈ops,o.dst≠some t)->Y.at t=E.at t
 | .text,ops,h,ht=>(PM h ht).2
 | .b7 ord,ops,h,ht=>by
   simp only[lQ]at h;split at h
   .exact(PM h (fun o I=>by obtain⟨Z,j,m⟩:=zas I;simp_all)).2
   .simp at h
 | .split p q a b,ops,h,ht=>by
   simp only[lQ]at h;split at h
   .simp at h
   .obtain⟨_,j,_⟩:=PO h;exact KG j (fun o I=>by obtain⟨Z,j,m⟩:=PN I;simp_all)
def m1.same{I:aw}(m:∀t,Y.at t=I.at t){e:Exit}(h:m1 B N O G w x I H' e a w'):m1 B N O G w x Y H' e a w':=by
 obtain⟨j,V,Z,C,L⟩:=h;exact⟨j,V,⟨Z.size,fun t=>by rw[m];exact Z.ca t⟩,C,L⟩
theorem KH(fit:Fit P){n:Nat}{ih:zd5->Res}(C:Snd P B n ih){f N:Nat}{E:aw}{H:Hp}{G:Gh}{w:World}{a:Act}(h:R B H w G)(m:TR N G E a)(hd:a.defers=[]){Q:Exit->Act->World->Prop}:
 ∀(pl:zf1) (l:qE) {E':aw}{H':Hp}{x:AX},lQ P B.cy ih f N E H pl l=.done x E' H'->(∀e Y V,m1 B N H.next G w x E' H' e Y V->Q e Y V)->∀L,nY l.toArray L (Array.replicate l.length false) ->
  wpOps P l.toArray Q L a {w with drawn:=w.drawn+1}
 | .text,l,E',H',x,hr,hQ,L,hv=>KC L _ _ a _ (by
  have:=PC (ops:=l.toArray) fit C hr h m hd hQ;simpa using this) hv
 | .b7 ord,l,E',H',x,hr,hQ,L,hv=>by
   simp only[lQ]at hr;split at hr
   .rename_i hp;have hp:=zao hp;refine zap hp hv (KC _ _ _ a _ (PC (ops:=(j5 ord l).toArray) fit C hr h m hd hQ) ?_);refine PK hp ⟨aB,by simp[hp.length],fun i hi=>?_⟩ hv;have:=(hp.lt i hi).1;simp[hp.length,hi,this]
   .simp at hr
 | .split p q pa pb,l,E',H',x,hr,hQ,L,hv=>by
   simp only[lQ]at hr;split at hr
   .simp at hr
   .rename_i O;have j:p≠q:=JV O;obtain⟨rfl,h1,E2,h2,h3⟩:=PO hr;rcases PG j aB hv with z|J
    .exact PH hv (KH fit C h m hd pa _ h1 hQ L (by rw[Gi];exact z))
    .have hat:∀t,E'.at t=E2.at t:=fun t=>by
      by_cases m:∃o∈l,o.dst=some t
      .grind
      .have hno:∀o∈l,o.dst≠some t:=fun o I hd=>m ⟨o,I,hd⟩;have Z:∀q p,∀o∈ly q p l,o.dst≠some t:=fun q p o I=>by obtain⟨o',g1,g2⟩:=PN I;simp_all
       rw[KG h1 (Z _ _),KG h2 (Z _ _)]
     exact PH hv (KH fit C h m hd pb _ h2 (fun e Y V hp=>hQ _ _ _ (m1.same hat hp)) L (by rw[Gi];exact J))
def zat(fit:Fit P){n:Nat}(C:Snd P B n ih){f id:Nat}{ops:qQ}{z:zf1}(hr:lQ P B.cy ih f N E H z ops.toList=.done x Y H')
 (h:R B H w G) (m:TR N G E a) (hd:a.defers=[]):Code.wp P (.region id ops true) (m1 B N H.next G w x Y H') a w:=by
 refine zal fit.mixed fun L Z=>?_;have:=KH fit C h m hd z ops.toList hr (fun _ _ _ hp=>hp) L (by simpa using Z);simpa using this
end
structure Grow (w:World) (F:Nat->Nat->qW) (w':World) (F':Nat->Nat->qW):Prop where
 below:Below w.heap.size w w'
 more:∀b o v,F b o=some v->F' b o=some v
 dB:∀b o v,F' b o=some v->F b o=some v\/w.heap.size<=b
 dv:∀b o v,F' b o=some v->w'.cell? ⟨b,o,none⟩=some v
def bA(P:Program)(ρ:Nat->Int)(f:FuncId)(args:qB)(r:AV):Prop:=
 (∃fn,P.funcs[f]?=some fn/\fn.body.isSome=true)/\∀(G:Gh) (w:World) (vs:qL),G.ρ=ρ->(∀b o v,G.F b o=some v->w.cell? ⟨b,o,none⟩=some v)->cq G args vs ->
   Calls P f vs.toArray w (fun e L=>∃v I,e=.returned v/\VR {G with F:=I} r v/\Grow w G.F L I)
def zau(P:Program)(B:Bs):Prop:=∀f I r,B.cy.call f I=some r->bA P B.ρ f I r
def KI(h:Below w.heap.size w w'){b o:Nat}(hb:b<w.heap.size):w'.cell? ⟨b,o,none⟩=w.cell? ⟨b,o,none⟩/\w'.frozen? ⟨b,o,none⟩=w.frozen? ⟨b,o,none⟩:=
 ⟨by simp only[World.cell?,h.block b hb],h.frozen (p:=⟨b,o,none⟩) hb⟩
theorem R.fS{B:Bs}{O:Nat->Nat->qW}(h:R B H w G)(g:Grow w G.F w' O):Step B H.next G w H w' {G with F:=O}:=by
 have I:Ext G {G with F:=O}:=⟨fun _ _ h=>h,g.more,rfl⟩;have Z:∀{b o:Nat}{v:Value},w.cell? ⟨b,o,none⟩=some v->w'.cell? ⟨b,o,none⟩=some v:=fun hc=>by rw[(KI g.below (tj hc)).1];exact hc
 refine⟨?_,I,⟨g.below.os,g.below.tape,g.below.output,g.below.size,fun k hk _=>g.below.block k hk⟩,fun r b o x hr=>.inl hr,fun _ _ h=>.inl h,aG _,fun b o v hv=>(g.dB b o v hv).imp id fun hb=>dt h.cc hb⟩;exact{
  cc:=dt h.cc g.below.size
  dz:=h.dz
  lt:=fun r b o x hr=>⟨(h.lt r b o x hr).1,iy (h.lt r b o x hr).2 g.below.size⟩
  cells:=fun r b o x L imm z hr hc j c J=>by
   obtain⟨v,C,m⟩:=h.cells r b o x L imm z hr hc j c J;exact⟨v,Z C,m.mono I⟩
  aP:=fun r b o x L imm z hr hc j J Y=>let ⟨v,hv⟩:=h.aP r b o x L imm z hr hc j J Y;⟨v,g.more _ _ _ hv⟩
  ext:=h.ext
  b9:=h.b9
  b0:=fun r b o x L imm z hr hc j J Y=>by
   obtain⟨⟨v,C⟩,m,h3⟩:=h.b0 r b o x L imm z hr hc j J Y;have hb:=(h.lt r b o x hr).2;refine⟨⟨v,Z C⟩,by rw[(KI g.below hb).2];exact m,?_⟩;show O b (o+j)=none;cases hF:O b (o+j)with
   |none=>rfl
   |some u=>rcases g.dB _ _ _ hF with h4|h4
            ·simp_all
            .omega
  apart:=h.apart
  map:=fun r b o x es hr hc=>by
   obtain⟨ms,V,C,m⟩:=h.map r b o x es hr hc;exact⟨ms,V,by rw[g.below.block b (h.lt r b o x hr).2];exact C,m.mono I⟩
  a7:=h.a7
  dv:=g.dv
  val:=h.val
  ec:=h.ec}
def zav{Y:Gh}{v:Value}(h:JP r=true)(k:VR G r v):VR Y r v:=by
 cases k<;>first|exact .int _ _|exact .bool _|exact .ay _ _ mX|cases h
theorem KJ(z:Nat):∀(n:Nat) (l:qB),(iw z n l).length=n
 |0,_=>rfl
 |n+1,l=>by simp[iw,KJ z n]
theorem CC(z:Nat):∀(n:Nat) (l:qB) (i:Nat) (Z:qB),l.length=n*z->(iw z n l)[i]?=some Z->Z.length=z/\∀(j:Nat) c,Z[j]?=some c->l[i*z+j]?=some c
 |0,_,i,Z,_,h=>by simp[iw]at h
 |n+1,l,i,Z,hl,h=>by
  rw[th,Gg]at hl;simp only[iw]at h;cases i with
  |zero=>
   grind
  |succ i=>
   obtain⟨Y,m⟩:=CC z n (l.drop z) i Z (by rw[ui];omega) lV
   grind
theorem Gj{B:Bs}{w:World}{g:AV->Hp->Option (AV×Hp)}
 (hg:∀(v:AV) (H:Hp) (q:AV) (H':Hp) (G:Gh) (x:Value),R B H w G->VR G v x->g v H=some (q,H')->∃Y,Step B H.next G w H' w Y/\VR Y q x) :
 ∀(O:qB) (vs:qL) (H:Hp) (J:qB) (H':Hp) (G:Gh),R B H w G->cq G O vs->iV g O H=some (J,H')->∃Y,Step B H.next G w H' w Y/\cq Y J vs
 |[],vs,H,J,H',G,h,hv,hi=>by
  simp only[iV,dB]at hi;obtain⟨rfl,rfl⟩:=hi;exact⟨G,lU h,hv⟩
 |c::O,[],H,J,H',G,h,hv,hi=>by have:=hv.1;simp at this
 |c::O,v::vs,H,J,H',G,h,hv,hi=>by
  simp only[iV]at hi;split at hi
  .rename_i d H1 j;split at hi
   .rename_i Z I m;simp only[dB]at hi;obtain⟨rfl,rfl⟩:=hi;obtain⟨C,z⟩:=hv.bv;obtain⟨G1,V,aq⟩:=hg c H d H1 G v h C j;obtain⟨G2,L,r2⟩:=Gj hg O vs H1 Z I G1 V.r (z.mono V.ext) m;exact⟨G2,V.trans L,lT (aq.mono L.ext) r2⟩
   .simp at hi
  .simp at hi
theorem Gk{B:Bs}{w:World}:∀(n:Nat) (v:AV) (H:Hp) (q:AV) (H':Hp) (G:Gh) (x:Value),R B H w G->VR G v x->fJ n v H=some (q,H')->∃G',Step B H.next G w H' w G'/\VR G' q x
 |0,_,_,_,_,_,_,_,_,h=>by simp[fJ]at h
 |n+1,v,H,q,H',G,x,h,hv,O=>by
  unfold fJ at O;split at O
  .rename_i r L Y z;split at O
   .rename_i cs imm tip hget;split at O
    .rename_i hle;simp only[bT]at hle;have hle1:=FU hle.1;have hle2:=FU hle.2;split at O
     .rename_i l H1 hil;simp only[dB]at O;obtain⟨rfl,rfl⟩:=O;cases hv with
      |sl hr hl hcx=>
       rename_i b o xx cap;have J:=h.cells r b o xx cs imm tip hr hget;have s1:=Cm h hr hget (n:=max imm (L+Y*z)) ac ac tip id;obtain⟨Z,ho1,ho2⟩:=J.list;have hlen:((cs.drop L).take (Y*z)).length=Y*z:=by rw[oE,ui];omega
       obtain⟨G2,s2,r2⟩:=Gj (Gk n) _ ((Z.drop L).take (Y*z)) _ l H1 _ s1.r (((ho1.drop L).take (Y*z)).mono s1.ext) hil;refine⟨G2,s1.trans s2,?_⟩;have hll:l.length=Y*z:=by
        have e1:=r2.1;have e2:=((ho1.drop L).take (Y*z)).1;rw[hlen]at e2;omega
       have hlc:=KJ z Y l;have hovl:Z.length=cs.length:=ho1.1.symm;have hat:∀m,m<Y*z->∃v,Z[L+m]?=some v/\G2.F b (o+L+m)=some v/\∀c,l[m]?=some c->VR G2 c v:=fun m hm=>by
        have C:L+m<Z.length:=ac;refine⟨Z[L+m],aX C,?_,fun c hc=>?_⟩
        .refine s2.ext.F _ _ _ ?_;have V:=ho2 (L+m) Z[L+m] (aX C);show(G.bU w b o (max imm (L+Y*z))).F b (o+L+m)=some Z[L+m];simp only[Gh.bU];rw[<-lS]at V;split
         .rename_i v' hv';have:=h.dv _ _ _ hv';rw[V]at this;exact this.symm
         .rw[ai ⟨su,ac,ac⟩];exact V
        .refine r2.2 m c _ hc ?_;rw[ry,ai hm,wW];exact aX C
       have hin:∀i j,i<Y->j<z->i*z+j<Y*z:=fun i j O hj=>by
        calc i*z+j<i*z+z:=by omega
         _=(i+1)*z:=by rw[th,Gg]
         _<=Y*z:=Ch _ O
       have key:VR G2 (.aE (iw z Y l)) (.slice (some ⟨b,o+L,none⟩) (iw z Y l).length cap):=by
        refine .aE (fun i j=>(Z[L+(i*z+j)]?).getD undef) (z:=z) (fun i row I=>(CC z Y l i row hll I).1) (fun i j O hj=>?_) (fun i j row c I hcj=>?_) (by rw[hlc];exact hl)
        .rw[hlc]at O;obtain⟨v,e1,e2,_⟩:=hat _ (hin i j O hj);rw[e1,lS (o+L)];exact e2
        .have hm:=(CC z Y l i row hll I).2 j c hcj;have C:=(gR.1 hm).1;obtain⟨v,e1,_,e3⟩:=hat (i*z+j) ac;rw[e1];exact e3 c hm
       simp_all
     .simp at O
    .simp at O
   .simp at O
  .rename_i cs;split at O
   .rename_i ds H1 hil;simp only[dB]at O;obtain⟨rfl,rfl⟩:=O;cases hv with
    |agg hl hvs=>
     obtain⟨G',s,r⟩:=Gj (Gk n) cs _ H ds H1 G h ⟨hl,hvs⟩ hil;exact⟨G',s,.agg r.1 r.2⟩
   .simp at O
  .simp at O
  .simp at O
  .simp only[dB]at O;obtain⟨rfl,rfl⟩:=O;exact⟨G,lU h,hv⟩
section
variable {P:Program} {B:Bs} {G:Gh} {H H':Hp} {w:World}
theorem PP:∀(I:qB) (i:Nat) (E:aw) (t:Nat),(a1 i I E).at t=if i<=t/\t<i+I.length then I.getD (t-i) dq else E.at t
 |[],i,E,t=>by
  simp only[a1,jQ,wY]
  grind
 |v::vs,i,E,t=>by
  simp only[a1,PP vs (i+1),fc];by_cases j:i+1<=t/\t<i+1+vs.length
  .grind
  .rw[ah j,Ae]
   grind
theorem KK:∀(d t:Nat),aw.at (Cc d) t=dq
 |0,_=>rfl
 |d+1,t=>by
  unfold aw.at Cc;rw[yy];cases h:Nat.beq t 0 with
  |true=>rfl
  |false=>
   rw[pE];cases m:Nat.beq (Nat.mod t 2) 1 with
   |true=>exact KK d _
   |false=>exact KK d _
def zaw(N t:Nat):aw.at (yu N) t=dq:=KK _ _
theorem TR.start{args:qB}(h:cq G args vs)(C:Nat):
 TR (max C args.length) G (a1 0 args (yu (max C args.length))) {tmps:=vs.toArray++Array.replicate (C-vs.toArray.size) undef,defers:=[] }:=by
 have L:=h.1;refine⟨cZ,fun t=>?_⟩;rw[PP];simp only[eR,j6,bR,FW];by_cases m:t<args.length
 .rw[ai m];have Z:args.getD t dq=args[t]:=cU;rw[Z];have:(vs.toArray++Array.replicate (C-vs.toArray.size) undef).getD t undef=vs[t]' ac:=by
   rw[mY,Array.getElem?_append_left cZ]
   grind
  rw[this];exact h.2 t _ _ (aX m) (aX ac)
 .rw[ah m,zaw];have:(vs.toArray++Array.replicate (C-vs.toArray.size) undef).getD t undef=undef:=by
   rw[mY,Array.getElem?_append_right cZ]
   grind
  rw[this];exact Ck G
def zax(h:R B H w G)(m:TR N G E a){r:ResultVar}{c:AV}(hr:eh P E H r=some c):
 ∃v,(match r with
  | .tmp t=>pure (a.tmps.getD t undef)
  | .cell x t=>do loadVar t (<-asAddr (a.tmps.getD x undef)):Sem Value).run P w=.ok v w/\VR G c v:=by
 cases r with
 |tmp t=>
  simp only[eh,am]at hr;subst hr;exact⟨_,rfl,m.ca t⟩
 |cell x t=>
  simp only[eh]at hr;have I:=m.ca x;obtain⟨v,j,Z⟩:=Pa (P:=P) h I hr;refine⟨v,?_,Z⟩;show(do loadVar t (<-asAddr (a.tmps.getD x undef)):Sem Value).run P w=.ok v w;generalize a.tmps.getD x undef=Y at I j⊢;generalize E.at x=z at I hr;cases I<;>simp[eP]at hr<;>simpa [Instr.loadAt,Instr.sureAddr,asAddr]using j
theorem PQ(h:R B H w G){N:Nat}{E:aw}{a:Act}(m:TR N G E a):∀{rs:List ResultVar}{O:qB},dR P E H rs=some O ->
 ∃vs,(rs.mapM (fun
  | .tmp t=>pure (a.tmps.getD t undef)
  | .cell x t=>do loadVar t (<-asAddr (a.tmps.getD x undef)):ResultVar->Sem Value)).run P w=.ok vs w/\cq G O vs
 |[],O,hr=>by
  simp only[dR,am]at hr;subst hr;exact⟨[],aB,ti G⟩
 |r::rs,O,hr=>by
  simp only[dR]at hr;split at hr
  .rename_i c C j Z;simp only[am]at hr;subst hr;obtain⟨v,V,Y⟩:=zax (P:=P) h m j;obtain⟨vs,k1,k2⟩:=PQ h m Z;refine⟨v::vs,?_,lT Y k2⟩;simp_all
  .simp at hr
def PR(h:R B H w G)(Y:TR N G E a)(hr:z5 P fn.results.toList E H=.val r H'):
 H'=H/\∃v,(results fn a.tmps).run P w=.ok v w/\VR G r v:=by
 unfold z5 at hr;split at hr
 .rename_i O J;simp only[Res.val.injEq]at hr;obtain⟨rfl,rfl⟩:=hr;obtain⟨vs,j,m⟩:=PQ (P:=P) h Y J;refine⟨rfl,?_⟩;have L:(results fn a.tmps).run P w=.ok (if h:vs.toArray.size=1 then vs.toArray[0]else .tuple vs.toArray) w:=by
   unfold results;rw[Array.mapM_eq_mapM_toList];simp only[gS,Sem.run_map];exact pC (fun r:Result qL=>(r.andThen fun a Z=>Result.ok a.toArray Z).andThen fun a Z=>Sem.run P (pure (if h:a.size=1 then a[0]else Value.tuple a)) Z) j
  refine⟨_,L,?_⟩
  match O,vs,m with
  |[],[],m=>exact .bH (vs:=[]) rfl aB
  |[c],[v],m=>exact m.bv.1
  |c::c'::O,v::v'::vs,m=>
   have:¬(v::v'::vs).toArray.size=1:=aB;rw[dif_neg this];exact .bH m.1 m.2
  |[],_::_,m=>have:=m.1;simp at this
  |[_],[],m=>have:=m.1;simp at this
  |[_],_::_::_,m=>have:=m.1;simp at this
  |_::_::_,[],m=>have:=m.1;simp at this
  |_::_::_,[_],m=>have:=m.1;simp at this
 .simp at hr
def KL(_fit:Fit P){n:Nat}(C:Snd P B n ih){args:qB}(V:sh P ih f args H=.val r H')(h:R B H w G)(hv:cq G args vs):
 (∃fn,P.funcs[f]?=some fn/\fn.body.isSome=true)/\Calls P f vs.toArray w (fun e L=>∃v Y,e=.returned v/\VR Y r v/\Step B H.next G w H' L Y):=by
 unfold sh at V;split at V
 .rename_i fn j;split at V
  .rename_i c hc;refine⟨⟨fn,j,by rw[hc];rfl⟩,calls_of_wp j hc ?_⟩;have O:=TR.start hv fn.ntmps;split at V
   .rename_i E1 H1 I;refine w6 (fun e a' L J=>?_) (C.aT _ _ _ _ _ _ _ _ I G w _ h O rfl);obtain⟨rfl,Y,m,Z,hd⟩:=J;obtain⟨rfl,v,z,h2⟩:=PR (P:=P) Z.r m V;exact⟨hd,v,z,v,Y,rfl,h2,Z⟩
   .rename_i E1 H1 I;refine w6 (fun e a' L J=>?_) (C.aT _ _ _ _ _ _ _ _ I G w _ h O rfl);obtain⟨rfl,Y,m,Z,hd⟩:=J;obtain⟨rfl,v,z,h2⟩:=PR (P:=P) Z.r m V;exact⟨hd,v,z,v,Y,rfl,h2,Z⟩
   .simp at V
  .simp at V
 .simp at V
theorem KM{n:Nat}(Z:Snd P B n ih){f:Nat}{r:Res}(V:sk ih f N b r=.done x Y H'):
 ∃J E1 H1,r=.done J E1 H1/\((J=.normal/\ih (.aT f N b E1 H1)=.done x Y H')\/(J≠.normal/\x=J/\Y=E1/\H'=H1)):=by
 unfold sk at V
 grind
theorem zay(fit:Fit P){n:Nat}(C:Snd P B n ih){f:Nat}{E':aw}(V:step P B.cy ih (.aT f N c E H)=.done x E' H')
  (h:R B H w G) (Y:TR N G E a) (hd:a.defers=[]):Code.wp P c (m1 B N H.next G w x E' H') a w:=by
 cases c with
 |skip=>
  simp only[step,Res.done.injEq]at V;obtain⟨rfl,rfl,rfl⟩:=V;exact wp_skip ⟨rfl,G,Y,lU h,hd⟩
 |region id ops draw=>
  cases draw with
  |false=>
   exact wp_region_list (Kp fit C ops.toList V h Y hd (fun _ _ _ hp=>hp))
  |true=>exact zat fit C V h Y hd
 |seq p q=>
  obtain⟨x1,E1,H1,j,J⟩:=KM C V;refine wp_seq (w6 (fun e I w' L=>?_) (C.aT _ _ _ _ _ _ _ _ j G w a h Y hd));obtain⟨rfl,O,m,Z,z⟩:=L;rcases J with⟨rfl,J⟩|⟨hne,rfl,rfl,rfl⟩
  .exact w6 (fun e a w L=>F3 Z L) (C.aT _ _ _ _ _ _ _ _ J O w' I Z.r m z)
  .cases x with
   |normal=>simp_all
   |exit id=>exact⟨rfl,O,m,Z,z⟩
   |ret=>exact⟨rfl,O,m,Z,z⟩
 |cond y p q=>
  simp only[step,yw]at V;split at V
  .rename_i hy;have hb:=Ko Y hy;have:a.eval y=.bool true:=by generalize a.eval y=v at hb;cases hb;rfl
   exact wp_cond_true this (C.aT _ _ _ _ _ _ _ _ V G w a h Y hd)
  .rename_i hy;have hb:=Ko Y hy;have:a.eval y=.bool false:=by generalize a.eval y=v at hb;cases hb;rfl
   exact wp_cond_false this (C.aT _ _ _ _ _ _ _ _ V G w a h Y hd)
  .simp at V
 |block id p=>
  simp only[step]at V;cases j:ih (.aT f N p E H)with
  |done x1 E1 H1=>
   rw[j]at V;refine wp_block (w6 (fun e I w' L=>?_) (C.aT _ _ _ _ _ _ _ _ j G w a h Y hd));obtain⟨rfl,O,m,Z,z⟩:=L;cases x1 with
   |normal=>
    simp only[rx,Res.done.injEq]at V;obtain⟨rfl,rfl,rfl⟩:=V;exact⟨rfl,O,m,Z,z⟩
   |ret=>
    simp only[rx,Res.done.injEq]at V;obtain⟨rfl,rfl,rfl⟩:=V;exact⟨rfl,O,m,Z,z⟩
   |exit id'=>
    simp only[rx]at V;cases hb:Nat.beq id' id with
    |true=>
     rw[hb]at V;simp only[Res.done.injEq]at V;obtain⟨rfl,rfl,rfl⟩:=V;have:=tm hb;subst this;simp only[Km,Exit.inBlock,dG];exact⟨rfl,O,m,Z,z⟩
    |false=>
     rw[hb]at V;simp only[Res.done.injEq]at V;obtain⟨rfl,rfl,rfl⟩:=V;have:=JV hb;simp only[Km,Exit.inBlock];rw[ah this];exact⟨rfl,O,m,Z,z⟩
  |val v H1=>rw[j]at V;simp[rx]at V
  |a5=>rw[j]at V;simp[rx]at V
 |loop p=>
  refine wp_loop_rounds (n+1) ?_;rw[rounds_succ];obtain⟨x1,E1,H1,j,J⟩:=KM C V;refine w6 (fun e I w' L=>?_) (C.aT _ _ _ _ _ _ _ _ j G w a h Y hd);obtain⟨rfl,O,m,Z,z⟩:=L;rcases J with⟨rfl,J⟩|⟨hne,rfl,rfl,rfl⟩
  .exact Kn (fun e a w L=>F3 Z L) (C.loop _ _ _ _ _ _ _ _ J O w' I Z.r m z)
  .cases x with
   |normal=>simp_all
   |exit id=>exact⟨rfl,O,m,Z,z⟩
   |ret=>exact⟨rfl,O,m,Z,z⟩
 |exit id=>
  simp only[step,Res.done.injEq]at V;obtain⟨rfl,rfl,rfl⟩:=V;exact wp_exit ⟨rfl,G,Y,lU h,hd⟩
 |ret=>
  simp only[step,Res.done.injEq]at V;obtain⟨rfl,rfl,rfl⟩:=V;exact wp_ret ⟨rfl,G,Y,lU h,hd⟩
 |rangeFunc _ _ _ _=>simp[step]at V
 |scope _=>simp[step]at V
 |label _=>simp[step]at V
 |goto _=>simp[step]at V
 |refuse _=>simp[step]at V
theorem zaz(L:Fit P){n:Nat}(C:Snd P B n ih){f:Nat}{J:aw}(I:step P B.cy ih (.aT f N (.loop c) E H)=.done x J H')
  (h:R B H w G) (j:TR N G E a) (hd:a.defers=[]):Code.rounds P c (m1 B N H.next G w x J H') (n+1) a w:=by
 rw[rounds_succ];obtain⟨x1,E1,H1,h1,Y⟩:=KM C I;refine w6 (fun e a' w' V=>?_) (C.aT _ _ _ _ _ _ _ _ h1 G w a h j hd);obtain⟨rfl,O,m,Z,z⟩:=V;rcases Y with⟨rfl,Y⟩|⟨hne,rfl,rfl,rfl⟩
 .exact Kn (fun e a w V=>F3 Z V) (C.loop _ _ _ _ _ _ _ _ Y O w' a' Z.r m z)
 .cases x with
  |normal=>simp_all
  |exit id=>exact⟨rfl,O,m,Z,z⟩
  |ret=>exact⟨rfl,O,m,Z,z⟩
theorem PS(fit:Fit P)(hc:zau P B):∀n,Snd P B n (bG P B.cy n)
 |0=>⟨fun _ _ _ _ _ h=>by simp[bG]at h,fun _ _ _ _ _ _ _ _ h=>by simp[bG]at h,fun _ _ _ _ _ _ _ _ h=>by simp[bG]at h⟩
 |n+1=>by
  have C:=PS fit hc n;have he:bG P B.cy (n+1)=step P B.cy (bG P B.cy n):=rfl;rw[he];refine⟨fun f I H r H' V G w vs h j=>?_,fun f N c E H x E' H' V G w a h ht hd=>zay fit C V h ht hd,fun f N c E H x E' H' V G w a h ht hd=>zaz fit C V h ht hd⟩;have L:∀{G:Gh}{I:qB}{vs:qL}{H:Hp}{m:AV},B.cy.call f I=some m->R B H w G->cq G I vs ->
   (∃fn,P.funcs[f]?=some fn/\fn.body.isSome=true)/\Calls P f vs.toArray w (fun e J=>∃v Y,e=.returned v/\VR Y m v/\Step B H.next G w H J Y):=fun{G I vs H m} hr h j=>by
   obtain⟨h1,h2⟩:=hc f I m hr;refine⟨h1,(h2 G w vs h.val h.dv j).mono fun e J z=>?_⟩;obtain⟨v,F',rfl,Z,hg⟩:=z;exact⟨v,_,rfl,Z,h.fS hg⟩
  have hany:∀{G:Gh}{I:qB}{vs:qL}{H H':Hp}{r:AV},sm P B.cy (bG P B.cy n) f I H=.val r H'->R B H w G->cq G I vs ->
   (∃fn,P.funcs[f]?=some fn/\fn.body.isSome=true)/\Calls P f vs.toArray w (fun e J=>∃v Y,e=.returned v/\VR Y r v/\Step B H.next G w H' J Y):=fun{G I vs H H' r} V h j=>by
   unfold sm at V;split at V
   .unfold Cd at V;split at V
    .rename_i asx H1 hice;split at V
     .rename_i m hr;simp only[Res.val.injEq]at V;obtain⟨rfl,rfl⟩:=V;obtain⟨G1,s1,aq⟩:=Gj (Gk 100) I vs H asx H1 G h j hice;unfold Fy;split
      .rename_i hfl;obtain⟨h1,h2⟩:=hc f asx m hr;refine⟨h1,(h2 G1 w vs s1.r.val s1.r.dv aq).mono fun e J z=>?_⟩;obtain⟨v,F',rfl,Z,hg⟩:=z;exact⟨v,{G with F:=G.F},rfl,zav hfl Z,h.fS ⟨hg.below,fun _ _ _ h=>h,fun _ _ _ h=>.inl h,fun b o v hF=>hg.dv b o v (hg.more b o v (s1.ext.F b o v hF))⟩⟩
      .obtain⟨h1,h2⟩:=L hr s1.r aq;refine⟨h1,h2.mono fun e J z=>?_⟩;obtain⟨v,Y,rfl,Z,O⟩:=z;exact⟨v,Y,rfl,Z,s1.trans O⟩
     .exact KL fit C V h j
    .exact KL fit C V h j
   .exact KL fit C V h j
  simp only[step]at V;split at V
  .grind
  .unfold z6 at V;split at V
   .rename_i v1 H1 hz hv1;obtain⟨g1,g2⟩:=hany hv1 h j;refine⟨g1,g2.mono fun e J z=>?_⟩;obtain⟨v,Y,rfl,Z,O⟩:=z;cases hi:fJ 100 v1 H1 with
    |none=>rw[hi]at V;simp[jr]at V
    |some p=>
     obtain⟨q,H2⟩:=p;rw[hi]at V;simp only[jr,Res.val.injEq]at V;obtain⟨rfl,rfl⟩:=V;obtain⟨G2,s2,r2⟩:=Gk 100 v1 H1 _ _ Y v O.r Z hi;exact⟨v,G2,rfl,r2,O.trans s2⟩
   grind
end
open Go Go.RowKit Go.WideShapes Go.ChangeShapes
theorem zaA(r:Nat):bZ.get r=none:=rfl
theorem R.start(z:∀b o v,G.F b o=some v->w.cell? ⟨b,o,none⟩=some v)(hb:∀r,G.β r=none)(J:rA cfg.cS G.ρ):R ⟨w.heap.size,G.ρ,cfg⟩ bZ w G:=by
 refine⟨aG _,?_,?_,?_,?_,?_,?_,?_,?_,?_,z,rfl,J,?_⟩<;>intros<;>simp_all
theorem An{g:AV->qI}:∀{O J:qB},iceL g O=some J->J.length=O.length/\∀(i:Nat) d,J[i]?=some d->∃c,O[i]?=some c/\g c=some d
 |[],J,h=>by
  simp only[iceL,am]at h;simp_all
 |c::O,J,h=>by
  simp only[iceL]at h;split at h
  .rename_i d Y j m;simp only[am]at h;subst h;obtain⟨C,Z⟩:=An m
   grind
  .simp at h
theorem PT{g:AV->qI}:∀{O J:List qB},wT g O=some J->J.length=O.length/\∀(i:Nat) d,J[i]?=some d->∃c,O[i]?=some c/\iceL g c=some d
 |[],J,h=>by
  simp only[wT,am]at h;simp_all
 |c::O,J,h=>by
  simp only[wT]at h;split at h
  .rename_i d Y j m;simp only[am]at h;subst h;obtain⟨C,Z⟩:=PT m
   grind
  .simp at h
theorem CD{H:Hp}{G G2:Gh}{w:World}(hρ:G2.ρ=G.ρ)(hF:∀b o v,G.F b o=some v->G2.F b o=some v)
 (O:∀r b o x cs imm tip,G.β r=some (b,o,x)->H.get r=some (.cells cs imm tip)->kR G w b o cs/\∀j v,w.cell? ⟨b,o+j,none⟩=some v->G2.F b (o+j)=some v) :
 ∀(n:Nat) (v:AV) (x:Value) (q:AV),VR G v x->iceV H n v=some q->VR G2 q x
 |0,_,_,_,_,h=>by simp[iceV]at h
 |n+1,v,x,q,hv,h=>by
  have hlist:∀{cs ds:qB}{vs:qL},cq G cs vs->iceL (iceV H n) cs=some ds->cq G2 ds vs:=fun{cs ds vs} C hi=>by
   obtain⟨h1,h2⟩:=An hi;refine⟨by rw[h1];exact C.1,fun i d u hd hu=>?_⟩;obtain⟨c,hc,hcd⟩:=h2 i d hd;exact CD hρ hF O n c u d (C.2 i c u hc hu) hcd
  cases hv with
  |int k a=>simp only[iceV,am]at h;subst h;exact .int _ _
  |sx k e=>simp only[iceV,am]at h;subst h;rw[<-hρ];exact .sx _ _
  |bool b=>simp only[iceV,am]at h;subst h;exact .bool _
  |ay s l hs=>simp only[iceV,am]at h;subst h;exact .ay _ _ hs
  |aF=>simp only[iceV,am]at h;subst h;exact .aF
  |bV=>simp only[iceV,am]at h;subst h;exact .bV
  |cj=>simp only[iceV,am]at h;subst h;exact .cj
  |ao=>simp only[iceV,am]at h;subst h;exact .ao
  |ptr _=>simp[iceV]at h
  |bP _ _ _=>simp[iceV]at h
  |map _=>simp[iceV]at h
  |cw _ _=>simp[iceV]at h
  |agg hl C=>
   simp only[iceV]at h;split at h
   .rename_i ds hds;simp only[am]at h;subst h;have:=hlist ⟨hl,C⟩ hds;exact .agg this.1 this.2
   .simp at h
  |bH hl C=>
   simp only[iceV]at h;split at h
   .rename_i ds hds;simp only[am]at h;subst h;have:=hlist ⟨hl,C⟩ hds;exact .bH this.1 this.2
   .simp at h
  |cL a cap=>
   simp only[iceV,wT,am]at h;subst h;exact .cL _ _
  |aE vs hz hFx hvx hc=>
   rename_i xs b o cap z;simp only[iceV]at h;split at h
   .rename_i ys hys;simp only[am]at h;subst h;obtain⟨h1,h2⟩:=PT hys;rw[<-h1];refine .aE vs (z:=z) (fun i Y hr=>?_) (fun i j hi hj=>hF _ _ _ (hFx i j ac hj)) (fun i j Y c hr hcj=>?_) (by rw[h1];exact hc)
    .obtain⟨c,hc1,hc2⟩:=h2 i Y hr;rw[(An hc2).1];exact hz i c hc1
    .obtain⟨c0,hc1,hc2⟩:=h2 i Y hr;obtain⟨c1,hc3,hc4⟩:=(An hc2).2 j c hcj;exact CD hρ hF O n c1 (vs i j) c (hvx i j c0 c1 hc1 hc3) hc4
   .simp at h
  |sl hr hl hcx=>
   rename_i r L V z b o xx cap;simp only[iceV]at h;split at h
   .rename_i cs imm tip hg;split at h
    .rename_i l hil;split at h
     .rename_i hlen;simp only[am]at h;subst h;obtain⟨hh,hnew⟩:=O r b o xx cs imm tip hr hg;obtain⟨h1,h2⟩:=An hil;have Z:∀(m:Nat) c,l[m]?=some c->∃v,w.cell? ⟨b,o+L+m,none⟩=some v/\VR G2 c v:=fun m c hm=>by
       obtain⟨c0,hc0,hc1⟩:=h2 m c hm;rw[ry]at hc0;split at hc0
       .rw[wW]at hc0;obtain⟨v,J,hv2⟩:=hh _ _ hc0;exact⟨v,by rw[lS];exact J,CD hρ hF O n c0 v c hv2 hc1⟩
       .simp at hc0
      have hlc:=KJ z V l;have hin:∀i j,i<V->j<z->i*z+j<l.length:=fun i j hi hj=>by
       rw[hlen]
       calc i*z+j<i*z+z:=by omega
        _=(i+1)*z:=by rw[th,Gg]
        _<=V*z:=Ch _ hi
      have key:VR G2 (.aE (iw z V l)) (.slice (some ⟨b,o+L,none⟩) (iw z V l).length cap):=by
       refine .aE (fun i j=>(w.cell? ⟨b,o+L+(i*z+j),none⟩).getD undef) (z:=z) (fun i Y I=>(CC z V l i Y hlen I).1) (fun i j hi hj=>?_) (fun i j Y c I hcj=>?_) (by rw[hlc];exact hl)
       .rw[hlc]at hi;have hm:=hin i j hi hj;obtain⟨v,J,_⟩:=Z (i*z+j) _ (aX hm);rw[J];have:=hnew (L+(i*z+j)) v (by rw[<-lS];exact J);rw[show o+L+i*z+j=o+(L+(i*z+j)) by omega];exact this
       .have hm:=(CC z V l i Y hlen I).2 j c hcj;obtain⟨v,J,hv2⟩:=Z (i*z+j) c hm;rw[J];exact hv2
      simp_all
     .simp at h
    .simp at h
   .simp at h
def zaB(w:World){G2:Gh}(I:G2.ρ=G.ρ)(Y:∀b o v,G.F b o=some v->G2.F b o=some v){args:qB}(h:vB m args=true)(j:cq G args vs):cq G2 args vs:=by
 unfold vB at h;split at h
 .rename_i C Z;have:=tt h;subst this;obtain⟨h1,h2⟩:=An Z;refine⟨j.1,fun i c v hc L=>?_⟩;obtain⟨c0,J,O⟩:=h2 i c hc;rw[hc]at J;simp only[am]at J;subst J;exact CD (H:=bZ) (w:=w) I Y (fun r b o x cs V z _ hg=>by simp[zaA]at hg) m c v c (j.2 i c v hc L) O
 .simp at h
theorem KN{args:qB}(h:sh P ih f args H=.val r H'):∃fn,P.funcs[f]?=some fn/\fn.body.isSome=true:=by
 unfold sh at h
 grind
theorem zaC{ρ:Nat->Int}(L:∀f args r,cfg.call f args=some r->bA P ρ f args r){n:Nat}{f:FuncId}{args:qB}{r:AV}(h:bG P cfg n (.call f args H)=.val r H'):
 ∃fn,P.funcs[f]?=some fn/\fn.body.isSome=true:=by
 cases n with
 |zero=>simp[bG]at h
 |succ n=>
  have V:bG P cfg (n+1)=step P cfg (bG P cfg n):=rfl;rw[V]at h;simp only[step]at h;split at h
  .rename_i z hr;exact(L f args z hr).1
  .have C:∀{r:AV}{H':Hp},sm P cfg (bG P cfg n) f args H=.val r H'->∃fn,P.funcs[f]?=some fn/\fn.body.isSome=true:=fun{r H'} h=>by
    unfold sm at h;split at h
    .unfold Cd at h;split at h
     .split at h
      .rename_i hr;exact(L _ _ _ hr).1
      .exact KN h
     .exact KN h
    .exact KN h
   unfold z6 at h
   grind
theorem PU(fit:Fit P){ρ:Nat->Int}(hD:rA cfg.cS ρ)(hc:∀f args r,cfg.call f args=some r->bA P ρ f args r){n:Nat}{f:FuncId}{args:qB}{r:AV}
 (hp:vB k args=true) (h:Fz P cfg n m f args=some r):bA P ρ f args r:=by
 unfold Fz at h;split at h
 .rename_i v0 H' z;refine⟨zaC hc z,fun G w vs I O Z=>?_⟩;subst I;have hv0:cq {G with β:=fun _=>none} args vs:=zaB w (G:=G) (G2:={G with β:=fun _=>none}) rfl (fun _ _ _ h=>h) hp Z;have hr0:R ⟨w.heap.size,G.ρ,cfg⟩ bZ w {G with β:=fun _=>none}:=R.start (G:={G with β:=fun _=>none}) O (fun _=>rfl) hD;refine((PS (B:=⟨w.heap.size,G.ρ,cfg⟩) fit hc n).call f args bZ _ H' z _ w vs hr0 hv0).2.mono fun e L hh=>?_;obtain⟨x,G',rfl,hx,V⟩:=hh;have C:Below w.heap.size w L:=⟨V.fr.os,V.fr.tape,V.fr.output,V.fr.size,fun k hk=>V.fr.block k hk (fun r b o x hr=>by simp at hr)⟩;refine⟨x,fun b o=>if b<w.heap.size then G.F b o else L.cell? ⟨b,o,none⟩,rfl,?_,C,fun b o v Z=>?_,fun b o v Z=>?_,fun b o v Z=>?_⟩
  .refine CD (G:=G') (w:=L) (H:=H') ?_ (fun b o v Z=>?_) (fun r b o x cs J tip hr hg=>?_) m v0 x r hx h
   .exact V.ext.ρ.symm
   .rcases V.dB b o v Z with Y|Y
    .show(if b<w.heap.size then G.F b o else L.cell? ⟨b,o,none⟩)=some v;rw[ai (tj (O b o v Y))];exact Y
    .show(if b<w.heap.size then G.F b o else L.cell? ⟨b,o,none⟩)=some v;rw[ah aU];exact V.r.dv b o v Z
   .refine⟨V.r.cells r b o x cs J tip hr hg,fun j v hj=>?_⟩;have Y:w.heap.size<=b:=(V.r.lt r b o x hr).1
    grind
  .rw[ai (tj (O b o v Z))];exact Z
  .grind
  .split at Z
   .rename_i hb;rw[(KI C hb).1];simp_all
   .exact Z
 .simp at h
def zaD{ρ:Nat->Int}{args:qB}{b:Bool}(h:bA P ρ f args (.bool b)){F:Nat->Nat->qW}
 (Z:∀b o v,F b o=some v->w.cell? ⟨b,o,none⟩=some v) (j:cq ⟨fun _=>none,F,ρ⟩ args vs) :
 Calls P f vs.toArray w (fun e L=>e=.returned (.bool b)/\Below w.heap.size w L):=by
 refine(h.2 ⟨fun _=>none,F,ρ⟩ w vs rfl Z j).mono fun e L Y=>?_;obtain⟨v,I,rfl,hr,hg⟩:=Y;cases hr;exact⟨rfl,hg.below⟩
def PV(fit:Fit P){ρ:Nat->Int}(J:rA cfg.cS ρ)(L:∀f args r,cfg.call f args=some r->bA P ρ f args r){n:Nat}{f:FuncId}{args:qB}{r:AV}
 (Z:vB k args=true) (h:FA P cfg n m f args r=true):bA P ρ f args r:=by
 unfold FA at h;split at h
 .rename_i q Y;rw[<-AV.bl h];exact PU fit J L Z Y
 .simp at h
def rG(ρ:Nat->Int):rA (fun _ _ _=>none) ρ:=fun _ _ _ _ _ h=>rD
def oI(P:Program)(ρ:Nat->Int):List (FuncId×qB×AV)->Prop
 |[]=>True
 |p::l=>bA P ρ p.1 p.2.1 p.2.2/\oI P ρ l
theorem CE{P:Program}{ρ:Nat->Int}:∀{l:List (FuncId×qB×AV)},oI P ρ l->∀f I r,wU l f I=some r->bA P ρ f I r
 |[],_,_,_,_,h=>by simp[wU]at h
 |p::l,hk,f,I,r,h=>by
  simp only[wU]at h;split at h
  .rename_i z;split at h
   .rename_i m;simp only[am]at h;subst h;rw[<-tm z,<-tt m];exact hk.1
   .exact CE hk.2 f I r h
  .exact CE hk.2 f I r h
def yH:List (Nat×Nat×zf1)->FuncId->Nat->zf1
 |[],_,_=>.text
 |p::l,f,id=>match Nat.beq p.1 f with
  |true=>match Nat.beq p.2.1 id with
   |true=>p.2.2
   |false=>yH l f id
  |false=>yH l f id
def zaE(pls:List (Nat×Nat×zf1))(l:List (FuncId×qB×AV)):Cfg:={keep:=fun _=>false,call:=wU l,bU:=fun f=>l.any fun p=>Nat.beq p.1 f,cD:=yH pls}
def ut(fit:Fit P){ρ:Nat->Int}{pls:List (Nat×Nat×zf1)}{l:List (FuncId×qB×AV)}(L:oI P ρ l){n:Nat}{args:qB}
 (Z:vB k args=true) (h:FA P (zaE pls l) n m f args r=true):bA P ρ f args r:=PV fit (rG ρ) (CE L) Z h
def PW(P:Program):Bool:=P.funcs.all (fun fn=>!(fn.body.isSome&&fn.name == "runtime.NumGoroutine"))&&P.follows .mixedOrders
theorem Fit.of(h:PW P=true):Fit P:=by
 simp only[PW,bT]at h;refine⟨fun f fn z hb=>?_,h.2⟩
 grind
section
variable {H:Type} {enc:TypeId × Value -> H} {P:Program}
theorem zaF{f:Func}{s:ChangeSpec}{apart Y J L:Bool}{W m:World}{args:Array Value}{v:Value}{ds gs:List (DataW H)}{O pa pv:List MemPlace}
 (hW:DataW.Whole enc P f.params.toList s.vars apart W args.toList ds gs O)
 (V:∀(b:Nat) (z:Nat->Bool) (hd:Bool),DataW.TrodAll enc P m b z hd f.resultTypes.toList (v.resultList f.resultTypes.size) (s.fn H (ds++gs)).results [])
 (I:∀z:Nat->Bool,(∀p∈O,z p.block=true)->DataW.TrodAll enc P m 0 z true f.params.toList args.toList (s.fn H (ds++gs)).args pa)
 (C:∀z:Nat->Bool,(∀p∈O,z p.block=true)->DataW.TrodVars enc P m z s.vars (s.fn H (ds++gs)).vars pv)
 (hps:O=pa++pv) (hb:Below W.heap.size W m)
 (hok:∀(j:Nat) (t:TypeId) (r:Value),f.resultTypes[j]?=some t->(v.resultList f.resultTypes.size)[j]?=some r->Value.okWide P m .any 0 t r) :
 s.post enc P f apart Y J L W args v m:=by
 have hlt:∀p∈O,p.block<W.heap.size:=fun p hp=>hW.lt p hp;have Z:∀p∈O,(fun b=>decide (b<W.heap.size)) p.block=true:=fun p hp=>aU;refine⟨ds,gs,O,[],pa,pv,hW,V _ _ _,I _ Z,C _ Z,World.keptBut_mono (fun p hp=>⟨hp,?_⟩) (hb.frame (·∈ O)),fun _=>?_⟩
 .simp_all
 .obtain⟨_,_,_,_,_,hz,hn⟩:=hW;refine⟨hok,_,_,([]++pa)++pv,⟨[]++pa,pv,trodAll_append (I _ (fun _ _=>rfl)) (V _ _ _),C _ (fun _ _=>rfl),rfl,?_,?_⟩,?_⟩
  .intro b off hp;have hin:MemPlace.cell b off∈O:=by rw[hps];simpa using hp
   rw[hb.frozen (hlt _ hin)];exact hz b off hin
  .intro ha;have:=hn ha;rw[hps]at this;simpa using this
  simp_all
end
open Go
def eD(ih ih':zd5->Res):Prop:=∀t,ih t≠.a5->ih' t=ih t
section
variable {P:Program} {cfg:Cfg} {ih ih':zd5 -> Res}
def Gl(h:eD ih ih'){op:Op}(J:eQ P cfg ih f E H op≠.a5):eQ P cfg ih' f E H op=eQ P cfg ih f E H op:=by
 unfold eQ at *;split
 .rename_i c;unfold wP at *;split
  .rename_i g hg;simp only[hg]at J;split
   .rename_i k L vs j m;simp only[j,m]at J;exact h _ J
   .rfl
  .rfl
  .rfl
 .rfl
theorem CF{f:Nat}{C:qE}:lR P cfg ih f N C (o::l) E H=match lj C E o with
 |true=>match eQ P cfg ih f E H o.op with
  | .val v H=>mD (lR P cfg ih f N C l) H (gI N E o.dst v)
  |_=>.a5
 |false=>mD (lR P cfg ih f N C l) H (gI N E o.dst dq):=rfl
theorem Gm(h:eD ih ih'){f N:Nat}{C:qE}:∀{l:qE}{E:aw}{H:Hp},lR P cfg ih f N C l E H≠.a5->lR P cfg ih' f N C l E H=lR P cfg ih f N C l E H
 |[],_,_,_=>rfl
 |o::l,E,H,hn=>by
  rw[CF]at hn⊢;rw[CF];cases hw:lj C E o with
  |true=>
   simp only[hw]at hn⊢;cases I:eQ P cfg ih f E H o.op with
   |a5=>simp[I]at hn
   |done x E1 H1=>simp[I]at hn
   |val v H1=>
    rw[Gl h (by rw[I];simp),I];simp only[I]at hn⊢;cases hp:gI N E o.dst v with
    |none=>rfl
    |some E1=>
     rw[hp]at hn;exact Gm h hn
  |false=>
   simp only[hw]at hn⊢;cases hp:gI N E o.dst dq with
   |none=>rfl
   |some E1=>
    rw[hp]at hn;exact Gm h hn
theorem Gn(h:eD ih ih'){f N:Nat}{C:qE}:∀{l:qE}{E:aw}{H:Hp},lw P cfg ih f N C l E H≠.a5->lw P cfg ih' f N C l E H=lw P cfg ih f N C l E H
 |[],_,_,_=>rfl
 |o::l,E,H,hn=>by
  have O:∀{r:Rec}{x:zf9},se r x≠.a5->x≠.a5:=fun{r x} Z e=>Z (by rw[e];rfl);simp only[lw]at hn⊢;cases hw:lj C E o with
  |true=>
   simp only[hw]at hn⊢;cases I:eQ P cfg ih f E H o.op with
   |a5=>simp[I]at hn
   |done x E1 H1=>simp[I]at hn
   |val v H1=>
    rw[Gl h (by rw[I];simp),I];simp only[I]at hn⊢;cases hp:gI N E o.dst v with
    |none=>rfl
    |some E1=>
     rw[hp]at hn;have:=Gn h (O hn);simp only[sf,this]
  |false=>
   simp only[hw]at hn⊢;cases hp:gI N E o.dst dq with
   |none=>rfl
   |some E1=>
    rw[hp]at hn;have:=Gn h (O hn);simp only[sf,this]
def PX(h:eD ih ih'){f:Nat}{ops:qE}(J:pB P cfg ih f N ops E H≠.a5):pB P cfg ih' f N ops E H=pB P cfg ih f N ops E H:=by
 unfold pB at *;split
 .rename_i hc;simp only[hc]at J;cases hr:lw P cfg ih f N ops ops E H with
  |a5=>simp[hr]at J
  |done E1 H1 rs=>rw[Gn h (by rw[hr];simp),hr]
 .rfl
theorem zaG{ops:qE}{aq r2 m V:Res}(j:aq≠.a5->m=aq)(Z:r2≠.a5->V=r2)(J:yr ops aq r2≠.a5):yr ops m V=yr ops aq r2:=by
 have C:aq≠.a5:=fun e=>J (by rw[e];rfl);have Y:r2≠.a5:=fun e=>J (by rw[e];unfold yr;simp_all);rw[j C,Z Y]
theorem KO(h:eD ih ih'){f N:Nat}{E:aw}{H:Hp}:∀{z:zf1}{ops:qE},lQ P cfg ih f N E H z ops≠.a5->lQ P cfg ih' f N E H z ops=lQ P cfg ih f N E H z ops
 | .text,ops,hn=>PX h hn
 | .b7 ord,ops,hn=>by
   simp only[lQ]at *;split
   .rename_i hp;simp only[hp]at hn;exact PX h hn
   .rfl
 | .split p q a b,ops,hn=>by
   simp only[lQ]at *;split
   .rfl
   .rename_i hp;simp only[hp]at hn;exact zaG (fun j=>KO h j) (fun m=>KO h m) hn
theorem KP(h:eD ih ih'){args:qB}(J:sh P ih f args H≠.a5):sh P ih' f args H=sh P ih f args H:=by
 unfold sh at *;split
 .rename_i fn z;simp only[z]at J;split
  .rename_i c hb;simp only[hb]at J;cases hr:ih (.aT f (max fn.ntmps args.length) c (a1 0 args (yu (max fn.ntmps args.length))) H)with
   |a5=>simp[hr]at J
   |val v H1=>simp_all
   |done x E1 H1=>rw[h _ (by rw[hr];simp),hr]
  .rfl
 .rfl
def zaH(h:eD ih ih'){args:qB}(J:sm P cfg ih f args H≠.a5):sm P cfg ih' f args H=sm P cfg ih f args H:=by
 unfold sm at *;split
 .rename_i O;simp only[O]at J;unfold Cd at *;split
  .rename_i Z H' V;simp only[V]at J;split
   .rfl
   .rename_i j;simp only[j]at J;exact KP h J
  .rename_i V;simp only[V]at J;exact KP h J
 .rename_i O;simp only[O]at J;exact KP h J
theorem PY(h:eD ih ih'){f:Nat}{r z:Res}(hr:r≠.a5->z=r)(J:sk ih f N b r≠.a5):sk ih' f N b z=sk ih f N b r:=by
 cases r with
 |a5=>simp[sk]at J
 |val v H1=>rw[hr aB];rfl
 |done x E1 H1=>
  rw[hr aB];cases x with
  |normal=>exact h _ J
  |exit id=>rfl
  |ret=>rfl
theorem zaI(h:eD ih ih'){t:zd5}(J:step P cfg ih t≠.a5):step P cfg ih' t=step P cfg ih t:=by
 cases t with
 |call f I H=>
  simp only[step]at *;split
  .rfl
  .rename_i hc;simp only[hc]at J;have C:sm P cfg ih f I H≠.a5:=fun e=>J (by rw[e];unfold z6;simp_all);rw[zaH h C]
 |aT f N c E H=>
  cases c with
  |region id ops draw=>cases draw with
   |false=>exact Gm h J
   |true=>exact KO h J
  |seq a b=>exact PY h (h _) J
  |loop a=>exact PY h (h _) J
  |cond x a b=>
   simp only[step]at *;unfold yw at *;split
   .rename_i hc;simp only[hc]at J;exact h _ J
   .rename_i hc;simp only[hc]at J;exact h _ J
   .rfl
  |block id a=>
   simp only[step]at *;cases hr:ih (.aT f N a E H)with
   |a5=>simp[hr,rx]at J
   |val v H1=>rw[h _ (by rw[hr];simp),hr]
   |done x E1 H1=>rw[h _ (by rw[hr];simp),hr]
  |_=>rfl
theorem PZ:∀n,eD (bG P cfg n) (bG P cfg (n+1))
 |0=>fun _ J=>(J rfl).elim
 |n+1=>fun _ J=>zaI (PZ n) J
theorem KQ{n:Nat}(Y:n<=m){t:zd5}(J:bG P cfg n t≠.a5):bG P cfg m t=bG P cfg n t:=by
 induction m with
 |zero=>simp_all
 |succ m ih=>
  by_cases h:n=m+1
  .rw[h]
  .have:=ih ac;rw[PZ m t aU,this]
def Gp{n:Nat}(Y:n<=m){t:zd5}{r:Res}(h:bG P cfg n t=r)(hr:r≠.a5):bG P cfg m t=r:=by
 rw[KQ Y (by rw[h];exact hr),h]
def dH(P:Program)(cfg:Cfg)(t:zd5)(r:Res):Prop:=r≠.a5/\∃n,bG P cfg n t=r
def dH.step{t:zd5}{r:Res}(hr:r≠.a5){n:Nat}(h:Ab.step P cfg (bG P cfg n) t=r):dH P cfg t r:=⟨hr,n+1,h⟩
def mF:=@dH.step
section
variable {f N id:Nat} {a b:Code} {x:Operand} {E E1:aw} {H H1:Hp} {r:Res} {ex:AX}
def dH.seq(j:dH P cfg (.aT f N a E H) (.done .normal E1 H1))(Z:dH P cfg (.aT f N b E1 H1) r):dH P cfg (.aT f N (.seq a b) E H) r:=by
 obtain⟨_,n,j⟩:=j;obtain⟨hr,m,Z⟩:=Z;refine mF hr (n:=max n m) ?_;show sk (bG P cfg (max n m)) f N b (bG P cfg (max n m) (.aT f N a E H))=r;rw[Gp (yG n m) j aB];exact Gp (Am n m) Z hr
theorem P1(j:dH P cfg (.aT f N a E H) (.done ex E1 H1))(I:ex≠.normal):dH P cfg (.aT f N (.seq a b) E H) (.done ex E1 H1):=by
 obtain⟨hr,n,j⟩:=j;refine mF hr (n:=n) ?_;show sk (bG P cfg n) f N b (bG P cfg n (.aT f N a E H))=_;rw[j];cases ex with
 |normal=>simp_all
 |exit id=>rfl
 |ret=>rfl
def dH.loop(j:dH P cfg (.aT f N a E H) (.done .normal E1 H1))(Z:dH P cfg (.aT f N (.loop a) E1 H1) r):dH P cfg (.aT f N (.loop a) E H) r:=by
 obtain⟨_,n,j⟩:=j;obtain⟨hr,m,Z⟩:=Z;refine mF hr (n:=max n m) ?_;show sk (bG P cfg (max n m)) f N (.loop a) (bG P cfg (max n m) (.aT f N a E H))=r;rw[Gp (yG n m) j aB];exact Gp (Am n m) Z hr
theorem P2(j:dH P cfg (.aT f N a E H) (.done ex E1 H1))(I:ex≠.normal):dH P cfg (.aT f N (.loop a) E H) (.done ex E1 H1):=by
 obtain⟨hr,n,j⟩:=j;refine mF hr (n:=n) ?_;show sk (bG P cfg n) f N (.loop a) (bG P cfg n (.aT f N a E H))=_;rw[j];cases ex with
 |normal=>simp_all
 |exit id=>rfl
 |ret=>rfl
def zaJ(I:aM E x=some (.bool true))(h:dH P cfg (.aT f N a E H) r):dH P cfg (.aT f N (.cond x a b) E H) r:=by
 obtain⟨hr,n,h⟩:=h;refine mF hr (n:=n) ?_;show yw (bG P cfg n) f N x a b E H=r;unfold yw;rw[I];exact h
def zaK(I:aM E x=some (.bool false))(h:dH P cfg (.aT f N b E H) r):dH P cfg (.aT f N (.cond x a b) E H) r:=by
 obtain⟨hr,n,h⟩:=h;refine mF hr (n:=n) ?_;show yw (bG P cfg n) f N x a b E H=r;unfold yw;rw[I];exact h
def dH.block(h:dH P cfg (.aT f N a E H) (.done (.exit id) E1 H1)):dH P cfg (.aT f N (.block id a) E H) (.done .normal E1 H1):=by
 obtain⟨hr,n,h⟩:=h;refine mF aB (n:=n) ?_;show rx id (bG P cfg n (.aT f N a E H))=_;rw[h];simp[rx]
theorem zaL(h:dH P cfg (.aT f N a E H) (.done .normal E1 H1)):dH P cfg (.aT f N (.block id a) E H) (.done .normal E1 H1):=by
 obtain⟨hr,n,h⟩:=h;refine mF aB (n:=n) ?_;show rx id (bG P cfg n (.aT f N a E H))=_;rw[h];rfl
theorem zaM(h:dH P cfg (.aT f N a E H) (.done .ret E1 H1)):dH P cfg (.aT f N (.block id a) E H) (.done .ret E1 H1):=by
 obtain⟨hr,n,h⟩:=h;refine mF aB (n:=n) ?_;show rx id (bG P cfg n (.aT f N a E H))=_;rw[h];rfl
def zaN(J:Nat.beq O id=false)(h:dH P cfg (.aT f N a E H) (.done (.exit O) E1 H1)):dH P cfg (.aT f N (.block id a) E H) (.done (.exit O) E1 H1):=by
 obtain⟨hr,n,h⟩:=h;refine mF aB (n:=n) ?_;show rx id (bG P cfg n (.aT f N a E H))=_;rw[h];simp only[rx,J]
theorem dH.skip:dH P cfg (.aT f N .skip E H) (.done .normal E H):=mF aB (n:=0) rfl
theorem dH.exit:dH P cfg (.aT f N (.exit id) E H) (.done (.exit id) E H):=mF aB (n:=0) rfl
theorem dH.ret:dH P cfg (.aT f N .ret E H) (.done .ret E H):=mF aB (n:=0) rfl
def dH.region{ops:qQ}{n:Nat}(h:lR P cfg (bG P cfg n) f N ops.toList ops.toList E H=r)(hr:r≠.a5):dH P cfg (.aT f N (.region id ops false) E H) r:=mF hr (n:=n) h
def dH.co{ops:qQ}{n:Nat}(h:lQ P cfg (bG P cfg n) f N E H (cfg.cD f id) ops.toList=r)(hr:r≠.a5):dH P cfg (.aT f N (.region id ops true) E H) r:=mF hr (n:=n) h
theorem dH.call{args:qB}{fn:Func}{c:Code}{v:AV}(z:cfg.call f args=none)(O:cfg.bU f=false)(j:cfg.cm f=false)(Z:P.funcs[f]?=some fn)(hb:fn.body=some c)
 (h:dH P cfg (.aT f (max fn.ntmps args.length) c (a1 0 args (yu (max fn.ntmps args.length))) H) (.done ex E1 H1)) (I:ex=.normal\/ex=.ret) (V:z5 P fn.results.toList E1 H1=.val v H1):dH P cfg (.call f args H) (.val v H1):=by
 obtain⟨_,n,h⟩:=h;refine mF aB (n:=n) ?_;simp only[Ab.step,z,O,j,sm,z6];unfold sh
 grind
end
end
structure SOp where
 d:qN
 op:Op
 g:Option (Nat×Bool)
inductive SC where
 |skip|ret|fX
 |fI (l:List SOp)
 |co (id:Nat) (l:qE)
 |seq (a b:SC)
 |cond (x:Operand) (a b:SC)
 |block (id:Nat) (a:SC)
 |loop (a:SC)
 |exit (id:Nat)
variable{d:TypeDesc}{g:FuncId}
def bI(N:Nat):Option Tmp->Option qN
 |none=>some none
 |some d=>match Nat.blt d N with
  |true=>some (some d)
  |false=>none
def bJ(C:qE):Option (Nat×Bool)->Option (Option (Nat×Bool))
 |none=>some none
 |some (j,b)=>match (C[j]?).bind (·.dst)with
  |some d=>some (some (d,b))
  |none=>none
def bw(N:Nat)(C:qE):qE->Option (List SOp)
 |[]=>some []
 |o::l=>match bI N o.dst,bJ C o.guard,bw N C l with
  |some d,some g,some r=>some (⟨d,o.op,g⟩::r)
  |_,_,_=>none
def bE(l:Option (List SOp)):SC:=match l with
 |some l=>.fI l
 |none=>.fX
def aJ(N:Nat):Code->SC
 | .skip=>.skip
 | .region id ops draw=>match draw with
   |false=>bE (bw N ops.toList ops.toList)
   |true=>.co id ops.toList
 | .seq a b=>.seq (aJ N a) (aJ N b)
 | .cond x a b=>.cond x (aJ N a) (aJ N b)
 | .block id a=>.block id (aJ N a)
 | .loop a=>.loop (aJ N a)
 | .exit id=>.exit id
 | .ret=>.ret
 |_=>.fX
section
variable (P:Program) (cfg:Cfg) (f N:Nat)
def aR(g:FuncId)(args:qB)(H:Hp)(Q:AV->Hp->Prop):Prop:=∃v H',dH P cfg (.call g args H) (.val v H')/\Q v H'
def j7(op:Op)(E:aw)(H:Hp)(K:AV->Hp->Prop):Prop:=∃n v H',eQ P cfg (bG P cfg n) f E H op=.val v H'/\K v H'
noncomputable def a0(E:aw):qN->AV->aw
 |some d,v=>T.set E d (some v)
 |none,_=>E
def aH:List SOp->aw->Hp->(aw->Hp->Prop)->Prop
 |[],E,H,Q=>Q E H
 |o::l,E,H,Q=>match o.g with
  |none=>j7 P cfg f o.op E H fun v H'=>aH l (a0 E o.d v) H' Q
  |some (s,b)=>(E.at s=.bool b/\j7 P cfg f o.op E H fun v H'=>aH l (a0 E o.d v) H' Q)\/((E.at s=.bool (!b)\/E.at s=dq)/\aH l (a0 E o.d dq) H Q)
def bX(c:SC)(E:aw)(H:Hp)(Q:AX->aw->Hp->Prop):Prop:=∀code,aJ N code=c->∃x E' H',dH P cfg (.aT f N code E H) (.done x E' H')/\Q x E' H'
end
section
variable {P:Program} {cfg:Cfg} {f N:Nat}
def j7.mono{op:Op}{z:AV->Hp->Prop}(h:∀v H',K v H'->z v H')(Z:j7 P cfg f op E H K):j7 P cfg f op E H z:=by
 obtain⟨n,v,H',j,m⟩:=Z;exact⟨n,v,H',j,h v H' m⟩
theorem bX.mono{c:SC}{E:aw}{H:Hp}{Q J:AX->aw->Hp->Prop}(h:∀x E H,Q x E H->J x E H)(j:bX P cfg f N c E H Q):bX P cfg f N c E H J:=fun code hc=>by
 obtain⟨x,E',H',Z,m⟩:=j code hc
 grind
def Ao:=@bX.mono
theorem bX.skip{E:aw}{H:Hp}{Q:AX->aw->Hp->Prop}(h:Q .normal E H):bX P cfg f N .skip E H Q:=fun code hc=>by
 cases code with
 |skip=>exact⟨_,_,_,dH.skip,h⟩
 |region id ops draw=>cases draw<;>simp only[aJ,bE,reduceCtorEq]at hc;grind
 |_=>simp[aJ]at hc
theorem bX.ret{E:aw}{H:Hp}{Q:AX->aw->Hp->Prop}(h:Q .ret E H):bX P cfg f N .ret E H Q:=fun code hc=>by
 cases code with
 |ret=>exact⟨_,_,_,dH.ret,h⟩
 |region id ops draw=>cases draw<;>simp only[aJ,bE,reduceCtorEq]at hc;grind
 |_=>simp[aJ]at hc
theorem bX.exit{id:Nat}{E:aw}{H:Hp}{Q:AX->aw->Hp->Prop}(h:Q (.exit id) E H):bX P cfg f N (.exit id) E H Q:=fun code hc=>by
 cases code with
 |exit O=>simp only[aJ,SC.exit.injEq]at hc;subst hc;exact⟨_,_,_,dH.exit,h⟩
 |region id ops draw=>cases draw<;>simp only[aJ,bE,reduceCtorEq]at hc;grind
 |_=>simp[aJ]at hc
def oJ(Q:AX->aw->Hp->Prop)(K:aw->Hp->Prop):AX->aw->Hp->Prop
 | .normal,E,H=>K E H
 | .exit id,E,H=>Q (.exit id) E H
 | .ret,E,H=>Q .ret E H
theorem bX.seq{a b:SC}{E:aw}{H:Hp}{Q:AX->aw->Hp->Prop}(h:bX P cfg f N a E H (oJ Q fun E H=>bX P cfg f N b E H Q)):bX P cfg f N (.seq a b) E H Q:=fun code hc=>by
 cases code with
 |seq p q=>
  simp only[aJ,SC.seq.injEq]at hc;obtain⟨x,E1,H1,j,m⟩:=h p hc.1;cases x with
  |normal=>
   obtain⟨x,I,Z,C,Y⟩:=m q hc.2;exact⟨x,I,Z,dH.seq j C,Y⟩
  |exit id=>exact⟨_,_,_,P1 j aB,m⟩
  |ret=>exact⟨_,_,_,P1 j aB,m⟩
 |region id ops draw=>cases draw<;>simp only[aJ,bE,reduceCtorEq]at hc;grind
 |_=>simp[aJ]at hc
def Ap:=@bX.seq
theorem bX.cond{x:Operand}{a b:SC}{E:aw}{H:Hp}{Q:AX->aw->Hp->Prop}{t:Bool}(I:aM E x=some (.bool t))(j:t=true->bX P cfg f N a E H Q)(m:t=false->bX P cfg f N b E H Q):
 bX P cfg f N (.cond x a b) E H Q:=fun code hc=>by
 cases code with
 |cond y p q=>
  simp only[aJ,SC.cond.injEq]at hc;obtain⟨rfl,Z,V⟩:=hc;cases t with
  |true=>
   obtain⟨x,E1,H1,C,Y⟩:=j rfl p Z;exact⟨x,E1,H1,zaJ I C,Y⟩
  |false=>
   obtain⟨x,E1,H1,C,Y⟩:=m rfl q V;exact⟨x,E1,H1,zaK I C,Y⟩
 |region id ops draw=>cases draw<;>simp only[aJ,bE,reduceCtorEq]at hc;grind
 |_=>simp[aJ]at hc
def uu(id:Nat)(Q:AX->aw->Hp->Prop):AX->aw->Hp->Prop
 | .normal,E,H=>Q .normal E H
 | .exit O,E,H=>if O=id then Q .normal E H else Q (.exit O) E H
 | .ret,E,H=>Q .ret E H
theorem bX.block{id:Nat}{a:SC}{E:aw}{H:Hp}{Q:AX->aw->Hp->Prop}(h:bX P cfg f N a E H (uu id Q)):bX P cfg f N (.block id a) E H Q:=fun code hc=>by
 cases code with
 |block O p=>
  simp only[aJ,SC.block.injEq]at hc;obtain⟨rfl,Z⟩:=hc;obtain⟨x,E1,H1,C,Y⟩:=h p Z;cases x with
  |normal=>exact⟨_,_,_,zaL C,Y⟩
  |ret=>exact⟨_,_,_,zaM C,Y⟩
  |exit k=>
   simp only[uu]at Y;split at Y
   .rename_i e;subst e;exact⟨_,_,_,dH.block C,Y⟩
   .rename_i e;exact⟨_,_,_,zaN (by cases hb:Nat.beq k O with|true=>simp_all|false=>rfl) C,Y⟩
 |region id ops draw=>cases draw<;>simp only[aJ,bE,reduceCtorEq]at hc;grind
 |_=>simp[aJ]at hc
theorem bX.loop{a:SC}{Q:AX->aw->Hp->Prop}(I:Nat->aw->Hp->Prop)(h:∀n E H,I n E H->bX P cfg f N a E H (oJ Q fun E H=>∃m,m<n/\I m E H)){n:Nat}{E:aw}{H:Hp}(L:I n E H):bX P cfg f N (.loop a) E H Q:=by
 induction n using Nat.strongRecOn generalizing E H with
 |_ n ih=>
  intro code hc;cases code with
  |loop p=>
   simp only[aJ,SC.loop.injEq]at hc;obtain⟨x,E1,H1,C,Y⟩:=h n E H L p hc;cases x with
   |normal=>
    obtain⟨m,Z,V⟩:=Y;obtain⟨x,O,J,z,j⟩:=ih m Z V (.loop p) (by simp[aJ,hc]);exact⟨x,O,J,dH.loop C z,j⟩
   |exit id=>exact⟨_,_,_,P2 C aB,Y⟩
   |ret=>exact⟨_,_,_,P2 C aB,Y⟩
  |region id ops draw=>cases draw<;>simp only[aJ,bE,reduceCtorEq]at hc;grind
  |_=>simp[aJ]at hc
def CG:=@bX.loop
theorem zaO{a:SC}{Q:AX->aw->Hp->Prop}(I:Nat->aw->Hp->Prop)(j:Nat)(h:∀i E H,i<=j->I i E H->bX P cfg f N a E H (oJ Q fun E H=>i<j/\I (i+1) E H)){E:aw}{H:Hp}(L:I 0 E H):bX P cfg f N (.loop a) E H Q:=
 CG (fun n E H=>n<=j/\I (j-n) E H) (fun n E H C=>Ao (fun x E' H' J=>by
  cases x with
  |normal=>
   obtain⟨Z,m⟩:=J;have:=C.1;refine⟨n-1,ac,ac,?_⟩
   grind
  |exit id=>exact J
  |ret=>exact J) (h (j-n) E H (Nat.sub_le _ _) C.2)) (n:=j) ⟨aG _,aU⟩
def Gs{N:Nat}{d:qN}(h:bI N J=some d)(E:aw)(v:AV):gI N E J v=some (a0 E d v):=by
 cases J with
 |none=>simp only[bI,am]at h;subst h;rfl
 |some t=>
  simp only[bI]at h;split at h
  .rename_i hb;simp only[am]at h;subst h;simp only[gI,hb,a0]
  .simp at h
theorem P3{C:qE}{g:Option (Nat×Bool)}(h:bJ C o.guard=some g):
 (g=none->lj C E o=true)/\∀s b,g=some (s,b)->(E.at s=.bool b->lj C E o=true)/\(E.at s=.bool (!b)\/E.at s=dq->lj C E o=false):=by
 unfold lj;cases hg:o.guard with
 |none=>
  rw[hg]at h;simp only[bJ,am]at h
  grind
 |some O=>
  obtain⟨j,b⟩:=O;rw[hg]at h;simp only[bJ]at h;split at h
  .rename_i d hd;simp only[am]at h;subst h;refine⟨fun e=>by simp at e,fun s J e=>?_⟩;simp only[dB]at e;obtain⟨rfl,rfl⟩:=e;simp only[Fx,hd];refine⟨fun e=>by rw[e];simp,fun e=>by rcases e with e|e<;>rw[e]<;>simp[dq]⟩
  .simp at h
theorem aH.run{C:qE}{Q:aw->Hp->Prop}:∀{l:qE}{r:List SOp}{E:aw}{H:Hp},bw N C l=some r->aH P cfg f r E H Q ->
 ∃n E' H',lR P cfg (bG P cfg n) f N C l E H=.done .normal E' H'/\Q E' H'
 |[],r,E,H,hs,J=>by
  simp only[bw,am]at hs;subst hs;exact⟨0,E,H,rfl,J⟩
 |o::l,r,E,H,hs,J=>by
  simp only[bw]at hs;split at hs
  .rename_i d g r' j h2 z;simp only[am]at hs;subst hs;obtain⟨dI,w2⟩:=P3 (E:=E) h2;have hop:∀{K:Prop},j7 P cfg f o.op E H (fun v H'=>aH P cfg f r' (a0 E d v) H' Q)->lj C E o=true->∃n E' H',lR P cfg (bG P cfg n) f N C (o::l) E H=.done .normal E' H'/\Q E' H':=fun{K} hw I=>by
    obtain⟨n,v,H1,g1,g2⟩:=hw;obtain⟨m,Y,V,O,L⟩:=aH.run z g2;refine⟨max n m,Y,V,?_,L⟩;have Z:∀k k',k<=k'->eD (bG P cfg k) (bG P cfg k'):=fun k k' hk t ht=>KQ hk ht;rw[CF,I];simp only[];rw[Gl (Z n (max n m) (yG _ _)) (by rw[g1];simp),g1];simp only[Gs j,mD];rw[Gm (Z m (max n m) (Am _ _)) (by rw[O];simp),O]
   unfold aH at J;cases hg:g with
   |none=>
    simp_all
   |some sb=>
    obtain⟨s,b⟩:=sb;rw[hg]at J;simp only[]at J;rcases J with⟨e,J⟩|⟨e,J⟩
    .simp_all
    .obtain⟨m,Y,V,O,L⟩:=aH.run z J;refine⟨m,Y,V,?_,L⟩;rw[CF,(w2 s b hg).2 e];simp only[Gs j,mD];exact O
  .simp at hs
def bX.fI{l:List SOp}{E:aw}{H:Hp}{Q:AX->aw->Hp->Prop}(h:aH P cfg f l E H (Q .normal)):bX P cfg f N (.fI l) E H Q:=fun code hc=>by
 cases code with
 |region id ops draw=>
  cases draw with
  |true=>simp[aJ]at hc
  |false=>
   simp only[aJ,bE]at hc;split at hc
   .rename_i r hr;simp only[SC.fI.injEq]at hc;subst hc;obtain⟨n,E',H',j,m⟩:=aH.run hr h;exact⟨_,_,_,dH.region j aB,m⟩
   .simp at hc
 |_=>simp[aJ]at hc
def az{l:List SOp}{Q:AX->aw->Hp->Prop}(h:∀K:aw->Hp->Prop,(∀E' H',Q .normal E' H'->K E' H')->aH P cfg f l E H K):bX P cfg f N (.fI l) E H Q:=
 bX.fI (h _ fun _ _ h=>h)
def aH.nil(h:Q E H):aH P cfg f [] E H Q:=h
def CH:=@aH.nil
def j7.plain{op:Op}(h:dL P cfg.cS E H op=some (v,H'))(J:∀c,op≠.call c)(z:K v H'):j7 P cfg f op E H K:=
 ⟨0,v,H',(yE J).2 h,z⟩
def Gt:Op->Bool
 | .call _=>false
 |_=>true
def P4{op:Op}(h:Gt op=true):∀c,op≠.call c:=fun c e=>by subst e;simp[Gt]at h
def aH.op{d:Nat}{op:Op}{l:List SOp}{E:aw}{H H':Hp}{v:AV}{Q:aw->Hp->Prop}(J:Gt op=true)(h:dL P cfg.cS E H op=some (v,H'))(z:aH P cfg f l (T.set E d (some v)) H' Q):aH P cfg f (⟨some d,op,none⟩::l) E H Q:=
 j7.plain h (P4 J) z
def kF:=@aH.op
def P5{op:Op}{l:List SOp}(J:Gt op=true)(h:dL P cfg.cS E H op=some (v,H'))(z:aH P cfg f l E H' Q):aH P cfg f (⟨none,op,none⟩::l) E H Q:=
 j7.plain h (P4 J) z
theorem aH.guard{d:qN}{op:Op}{b t:Bool}{l:List SOp}(h:E.at s=.bool t)(j:t=b->aH P cfg f (⟨d,op,none⟩::l) E H Q)(m:t=!b->aH P cfg f l (a0 E d dq) H Q):
 aH P cfg f (⟨d,op,some (s,b)⟩::l) E H Q:=by
 unfold aH;by_cases e:t=b
 .exact .inl ⟨by rw[h,e],j e⟩
 .have:t=!b:=by cases t<;>cases b<;>simp_all
  simp_all
theorem aH.cN{d:qN}{op:Op}{b:Bool}{l:List SOp}(h:some (E.at s)=some v)(j:v=dq)(m:aH P cfg f l (a0 E d dq) H Q):
 aH P cfg f (⟨d,op,some (s,b)⟩::l) E H Q:=by
 subst j;unfold aH;simp_all
def aH.call{d:qN}{c:Call}{g:Operand}{k:FuncId}{cap vs:qB}{l:List SOp}{E:aw}{H:Hp}{Q:aw->Hp->Prop}(L:c.callee=.value g)(hg:aM E g=some (.cw k cap))(j:jE E c.args.toList=some vs)
 (h:aR P cfg k (vs++cap) H fun v H'=>aH P cfg f l (a0 E d v) H' Q):aH P cfg f (⟨d,.call c,none⟩::l) E H Q:=by
 obtain⟨v,H',⟨_,n,Z⟩,m⟩:=h;refine⟨n,v,H',?_,m⟩;simp only[eQ,wP,L,hg,j];exact Z
def bc:=@aH.call
def aH.builtin{d:qN}{c:Call}{b:Builtin}{vs:qB}{l:List SOp}(L:c.callee=.builtin b)(j:jE E c.args.toList=some vs)
 (h:uf P (cfg.keep f) H b c.argTypes.toList vs=some (v,H')) (z:aH P cfg f l (a0 E d v) H' Q):aH P cfg f (⟨d,.call c,none⟩::l) E H Q:=by
 refine⟨0,v,H',?_,z⟩;simp only[eQ,wP,L,j,h]
def Gu:=@aH.builtin
def aR.bj{args:qB}{Q:AV->Hp->Prop}(h:cfg.call g args=some r)(J:Q r H):aR P cfg g args H Q:=
 ⟨r,H,mF aB (n:=0) (by simp only[step,h]),J⟩
def P6{args V:qB}{Q:AV->Hp->Prop}(L:cfg.call g args=none)(O:cfg.bU g=true)(j:cfg.cm g=false)(m:iV (fJ 100) args H=some (V,H'))(h:cfg.call g V=some r)(J:Q r H')(z:JP r=true->Q r H):aR P cfg g args H Q:=
 ⟨r,Fy r H H',mF aB (n:=0) (by simp only[step,L,sm,O,j,z6,Cd,m,h]),by
  unfold Fy;split
  .rename_i h;exact z h
  .exact J⟩
def aR.mono{args:qB}{Q J:AV->Hp->Prop}(h:∀v H',Q v H'->J v H')(j:aR P cfg g args H Q):aR P cfg g args H J:=by
 obtain⟨v,H',Z,m⟩:=j;exact⟨v,H',Z,h _ _ m⟩
def a8:=@aR.mono
def aR.body{args:qB}{Q:AV->Hp->Prop}(z:cfg.call g args=none)(O:cfg.bU g=false)(j:cfg.cm g=false)(Z:P.funcs[g]?=some fn)(hb:fn.body=some c)
 (h:bX P cfg g (max fn.ntmps args.length) (aJ (max fn.ntmps args.length) c) (a1 0 args (yu (max fn.ntmps args.length))) H (fun x E' H'=>(x=.normal\/x=.ret)/\∃vs,dR P E' H' fn.results.toList=some vs/\Q (aD vs) H')):aR P cfg g args H Q:=by
 obtain⟨x,E',H',Y,I,vs,m,C⟩:=h c rfl;exact⟨aD vs,H',dH.call z O j Z hb Y I (by unfold z5;rw[m]),C⟩
def a4{args:qB}{s:SC}{M:Nat}{rs:List ResultVar}{Q:AV->Hp->Prop}(z:cfg.call g args=none)(O:cfg.bU g=false)(j:cfg.cm g=false)(Z:P.funcs[g]?=some fn)(hb:fn.body=some c)(L:max fn.ntmps args.length=M)
 (V:aJ M c=s) (hr:fn.results.toList=rs) (h:bX P cfg g M s (a1 0 args (yu M)) H (fun x E' H'=>(x=.normal\/x=.ret)/\∃vs,dR P E' H' rs=some vs/\Q (aD vs) H')):aR P cfg g args H Q:=by
 subst L V hr;exact aR.body z O j Z hb h
theorem P7(fit:Fit P){ρ:Nat->Int}(J:rA cfg.cS ρ)(L:∀f args r,cfg.call f args=some r->bA P ρ f args r){args:qB}{r:AV}
 (Z:vB k args=true) (h:aR P cfg g args bZ fun v H'=>iceV H' m v=some r):bA P ρ g args r:=by
 obtain⟨v,H',⟨_,n,j⟩,Y⟩:=h;exact PU fit J L (n:=n) (m:=m) Z (by unfold Fz;simp_all)
section
variable {l:List SOp} {E:aw} {H H':Hp} {Q:aw -> Hp -> Prop} {d:Nat} {v a b:AV} {x y:Operand} {t u:TypeId}
def aH.move(h:aM E x=some v)(z:aH P cfg f l (T.set E d (some v)) H Q):aH P cfg f (⟨some d,.move x,none⟩::l) E H Q:=kF rfl (by simp only[dL,Go.Ab.ret,h]) z
def aH.assign(h:aM E x=some v)(z:aH P cfg f l (T.set E d (some v)) H Q):aH P cfg f (⟨some d,.assign x,none⟩::l) E H Q:=kF rfl (by simp only[dL,Go.Ab.ret,h]) z
def aH.pick{z:Operand}{t:Bool}(h:aM E x=some (.bool t))(j:aM E y=some a)(m:aM E z=some b)(Z:aH P cfg f l (T.set E d (some (mU t a b))) H Q):aH P cfg f (⟨some d,.pick x y z,none⟩::l) E H Q:=
 kF rfl (by cases t<;>simp only[dL,Fa,Go.Ab.ret,h,j,m]<;>rfl) Z
def aH.load(h:aM E x=some a)(j:eP P H t a=some v)(z:aH P cfg f l (T.set E d (some v)) H Q):aH P cfg f (⟨some d,.load t x,none⟩::l) E H Q:=kF rfl (by simp only[dL,B4,Go.Ab.ret,h,j]) z
def aH.store(h:aM E x=some a)(j:aM E y=some b)(m:jY P H t a b=some H')(z:aH P cfg f l E H' Q):aH P cfg f (⟨none,.store t x y,none⟩::l) E H Q:=P5 rfl (by simp only[dL,Fe,h,j,m];rfl) z
def oK:=@aH.store
def aH.nilCheck{r o:Nat}(h:aM E x=some (.ptr r o))(z:aH P cfg f l (T.set E d (some (.ptr r o))) H Q):aH P cfg f (⟨some d,.nilCheck x,none⟩::l) E H Q:=kF rfl (by simp only[dL,Fh,h]) z
def aH.de{op:BinOp}(h:aM E x=some a)(j:aM E y=some b)(m:dQ P cfg.cS op t a b=some v)(z:aH P cfg f l (T.set E d (some v)) H Q):aH P cfg f (⟨some d,.binOp op t x y u,none⟩::l) E H Q:=
 kF rfl (by simp only[dL,Fk,Go.Ab.ret,h,j,m]) z
def aH.un{op:UnOp}(h:aM E x=some a)(m:vA op a=some v)(z:aH P cfg f l (T.set E d (some v)) H Q):aH P cfg f (⟨some d,.unOp op t x,none⟩::l) E H Q:=kF rfl (by simp only[dL,Fl,Go.Ab.ret,h,m]) z
def aH.convert(h:aM E x=some a)(m:mW P H t u a=some v)(z:aH P cfg f l (T.set E d (some v)) H Q):aH P cfg f (⟨some d,.convert t u x,none⟩::l) E H Q:=kF rfl (by simp only[dL,B5,Go.Ab.ret,h,m]) z
def aH.fieldAddr(h:aM E x=some a)(m:wL P t a i=some v)(z:aH P cfg f l (T.set E d (some v)) H Q):aH P cfg f (⟨some d,.fieldAddr t x i,none⟩::l) E H Q:=kF rfl (by simp only[dL,Fo,Go.Ab.ret,h,m]) z
def P8:=@aH.fieldAddr
def aH.field(h:aM E x=some a)(m:yk P t a i=some v)(z:aH P cfg f l (T.set E d (some v)) H Q):aH P cfg f (⟨some d,.field t x i,none⟩::l) E H Q:=kF rfl (by simp only[dL,Fp,Go.Ab.ret,h,m]) z
def aH.indexAddr(h:aM E x=some a)(j:aM E y=some b)(m:dK P t a b=some v)(z:aH P cfg f l (T.set E d (some v)) H Q):aH P cfg f (⟨some d,.indexAddr t x y,none⟩::l) E H Q:=kF rfl (by simp only[dL,Fs,Go.Ab.ret,h,j,m]) z
def P9:=@aH.indexAddr
def aH.index(h:aM E x=some a)(j:aM E y=some b)(m:ud P t a b=some v)(z:aH P cfg f l (T.set E d (some v)) H Q):aH P cfg f (⟨some d,.index t x y,none⟩::l) E H Q:=kF rfl (by simp only[dL,Ft,Go.Ab.ret,h,j,m]) z
def aH.extract(h:aM E x=some a)(m:Ab.extract a i=some v)(z:aH P cfg f l (T.set E d (some v)) H Q):aH P cfg f (⟨some d,.extract x i,none⟩::l) E H Q:=kF rfl (by simp only[dL,Fw,Go.Ab.ret,h,m]) z
def aH.alloc{z:qB}{n:Nat}(h:cC P t=some z)(J:some H.next=some n)(Z:aH P cfg f l (T.set E d (some (.ptr n 0))) (H.alloc (.cells z 0 true)) Q):aH P cfg f (⟨some d,.alloc t,none⟩::l) E H Q:=by
 simp only[am]at J;subst J;exact kF rfl (by simp only[dL,BZ,h]) Z
def aH.box{n:Nat}(h:aM E x=some a)(L:some a.cells=some cs)(J:some H.next=some n)(z:aH P cfg f l (T.set E d (some (.ptr n 0))) (H.alloc (.cells cs 0 true)) Q):aH P cfg f (⟨some d,.box t x,none⟩::l) E H Q:=by
 simp only[am]at L J;subst L J;exact kF rfl (by simp only[dL,B0,h]) z
def aH.build{ps:qP}(h:mV E C.toList=some ps)(m:eg P t ps=some v)(z:aH P cfg f l (T.set E d (some v)) H Q):aH P cfg f (⟨some d,.build t C,none⟩::l) E H Q:=kF rfl (by simp only[dL,Fc,Go.Ab.ret,h,m]) z
def aH.buildSlice{n:Nat}{ps:qP}(h:mV E C.toList=some ps)(m:eW P H t n ps=some (v,H'))(z:aH P cfg f l (T.set E d (some v)) H' Q):aH P cfg f (⟨some d,.buildSlice t n C,none⟩::l) E H Q:=
 kF rfl (by simp only[dL,B3,h,m]) z
def Qa:=@aH.buildSlice
def aH.makeMap{n:Nat}(J:some H.next=some n)(z:aH P cfg f l (T.set E d (some (.map n))) (H.alloc (.map [])) Q):aH P cfg f (⟨some d,.makeMap t none,none⟩::l) E H Q:=by
 simp only[am]at J;subst J;exact kF rfl (by simp only[dL,B6]) z
def aH.lookup{ok:Bool}(h:aM E x=some a)(j:aM E y=some b)(m:sd P H t a b ok=some v)(z:aH P cfg f l (T.set E d (some v)) H Q):aH P cfg f (⟨some d,.lookup t x y ok,none⟩::l) E H Q:=kF rfl (by simp only[dL,B9,Go.Ab.ret,h,j,m]) z
def aH.mapUpdate{z:Operand}{c:AV}(h:aM E x=some a)(j:aM E y=some b)(m:aM E z=some c)(C:te P H t a b c=some H')(Z:aH P cfg f l E H' Q):aH P cfg f (⟨none,.mapUpdate t x y z,none⟩::l) E H Q:=
 P5 rfl (by simp only[dL,Fv,h,j,m,C];rfl) Z
def Qb:=@aH.mapUpdate
def aH.makeFunc{cap:Array Operand}{vs:qB}(h:jE E cap.toList=some vs)(z:aH P cfg f l (T.set E d (some (.cw g vs))) H Q):aH P cfg f (⟨some d,.makeFunc (.func g) #[] cap,none⟩::l) E H Q:=kF rfl (by simp only[dL,Fm,h]) z
def aH.slice{lo O:Option Operand}{lv j:qI}(h:aM E x=some a)(Z:mB E lo=some lv)(m:mB E O=some j)(C:sc P H t a lv j=some v)(z:aH P cfg f l (T.set E d (some v)) H Q):aH P cfg f (⟨some d,.slice t x lo O none,none⟩::l) E H Q:=
 kF rfl (by simp only[dL,B8,Go.Ab.ret,h,Z,m,C]) z
def aH.makeSlice(h:aM E x=some a)(j:aM E y=some b)(m:jq P H t a b=some (v,H'))(z:aH P cfg f l (T.set E d (some v)) H' Q):aH P cfg f (⟨some d,.makeSlice t x y,none⟩::l) E H Q:=kF rfl (by simp only[dL,B7,h,j,m]) z
def Qc:=@aH.makeSlice
def aH.len{c:AV}(h:aM E x=some a)(j:jP P H t a=some c)(z:aH P cfg f l (T.set E d (some c)) H Q):aH P cfg f (⟨some d,.call ⟨.builtin .len,#[x],#[t]⟩,none⟩::l) E H Q:=
 Gu (c:=⟨.builtin .len,#[x],#[t]⟩) rfl (vs:=[a]) (by simp only[jE,h]) (by simp only[uf,j]) z
def aH.append(h:aM E x=some a)(j:aM E y=some b)(m:dr P (cfg.keep f) H t u a b=some (v,H'))(z:aH P cfg f l (T.set E d (some v)) H' Q):aH P cfg f (⟨some d,.call ⟨.builtin .append,#[x,y],#[t,u]⟩,none⟩::l) E H Q:=
 Gu (c:=⟨.builtin .append,#[x,y],#[t,u]⟩) rfl (vs:=[a,b]) (by simp only[jE,h,j]) (by simp only[uf,m]) z
def mG:=@aH.append
end
theorem KR(E:aw)(d t:Nat)(v:AV):aw.at (T.set E d (some v)) t=bif t == d then v else E.at t:=by
 rw[Ae];simp_all
theorem get_set(H:Hp)(d t:Nat)(b:HB):(H.set d b).get t=bif t == d then some b else H.get t:=by
 rw[aQ];simp_all
theorem zaP(E:aw)(t:Nat):aM E (.tmp t)=some (E.at t):=rfl
theorem zaQ(E:aw)(k:IntKind)(n:Int):aM E (.const (.int k n))=some (.int k n):=rfl
theorem zaR(E:aw)(b:Bool):aM E (.const (.bool b))=some (.bool b):=rfl
theorem zaS(E:aw)(g:FuncId):aM E (.func g)=some (.cw g []):=rfl
theorem zaT(E:aw)(s:ByteArray):aM E (.const (.string s))=some (.ay s.data.toList):=rfl
section
variable {D:BinOp -> Sx -> Sx -> qK} {t:TypeId} {k:IntKind} {a b:Int} {s u:qD}
def zaU:dQ P D .add t (.int k a) (.int k b)=some (.int k (k.wrap (a+b))):=tu
def zaV:dQ P D .sub t (.int k a) (.int k b)=some (.int k (k.wrap (a-b))):=tu
def zaW:dQ P D .mul t (.int k a) (.int k b)=some (.int k (k.wrap (a*b))):=tu
def sw(h:b≠0):dQ P D .quo t (.int k a) (.int k b)=some (.int k (k.wrap (a.tdiv b))):=by simp[dQ,vz,kQ,h]
def xd(h:b≠0):dQ P D .rem t (.int k a) (.int k b)=some (.int k (a.tmod b)):=by simp[dQ,vz,kQ,h]
def zaX:dQ P D .and t (.int k a) (.int k b)=some (.int k (k.wrap (BitVec.ofInt k.bits a &&& BitVec.ofInt k.bits b).toNat)):=tu
def zaY:dQ P D .or t (.int k a) (.int k b)=some (.int k (k.wrap (BitVec.ofInt k.bits a |||BitVec.ofInt k.bits b).toNat)):=tu
def zaZ:dQ P D .xor t (.int k a) (.int k b)=some (.int k (k.wrap (BitVec.ofInt k.bits a^^^ BitVec.ofInt k.bits b).toNat)):=tu
theorem za0:dQ P D .eql t (.int k a) (.int k b)=some (.bool (decide (a=b))):=by simp[dQ,vz,kQ];rfl
theorem za1:dQ P D .neq t (.int k a) (.int k b)=some (.bool (!decide (a=b))):=by simp[dQ,vz,kQ];rfl
def za2:dQ P D .lss t (.int k a) (.int k b)=some (.bool (decide (a<b))):=tu
def za3:dQ P D .leq t (.int k a) (.int k b)=some (.bool (decide (a<=b))):=tu
def za4:dQ P D .gtr t (.int k a) (.int k b)=some (.bool (decide (b<a))):=tu
def za5:dQ P D .geq t (.int k a) (.int k b)=some (.bool (decide (b<=a))):=tu
theorem za6:dQ P D .eql t (.ay s) (.ay u)=some (.bool (decide (s=u))):=by
 simp only[dQ,BY]
 grind
theorem za7:dQ P D .neq t (.ay s) (.ay u)=some (.bool (!decide (s=u))):=by
 simp only[dQ,BY]
 grind
theorem za8{x:Bool}:vA .not (.bool x)=some (.bool !x):=rfl
theorem za9:vA .neg (.int k a)=some (.int k (k.wrap (0-a))):=rfl
end
theorem uw(h:i<2^62):IntKind.wrap .i64 ((i:Int)+1)=((i+1:Nat):Int):=by
 rw[vD _ ac];rfl
def Qd(h:P.underlying t=some (.slice e))(xs:List qB):jP P H t (.aE xs)=some (.int .i64 xs.length):=Gb
def CI(h:P.underlying t=some (.slice e))(r o n z:Nat):jP P H t (.sl r o n z)=some (.int .i64 n):=Gb
def Gv(h:P.underlying t=some (.slice e)):jP P H t .ao=some (.int .i64 0):=Gb
def zba(h:P.underlying t=some .string)(s:qD):jP P H t (.ay s)=some (.int .i64 s.length):=Gb
def pG(h:P.underlying t=some (.slice e))(V:bp P e=some s){r o n z:Nat}(O:i<n):dK P t (.sl r o n z) (.int .i64 (i:Int))=some (.ptr r (o+i*s)):=by
 show dK P t (.sl r o n z) (.int .i64 (Int.ofNat i))=_;simp only[dK,h,V,O,dG]
def CJ:TypeDesc->Bool
 | .struct _|.array _ _=>false
 |_=>true
theorem gU(h:P.underlying t=some d)(hd:CJ d=true)(cs:qB)(o:Nat):cF P t cs o=cs[o]?:=by
 unfold cF;rw[h];cases d<;>simp_all[CJ]
def yI(h:P.underlying t=some d)(hd:CJ d=true){r o:Nat}{imm:Nat}{tip:Bool}(hg:H.get r=some (.cells cs imm tip)):eP P H t (.ptr r o)=cs[o]?:=by
 simp only[eP,hg,gU h hd]
def Gw(z:Nat):Option qB->qI
 |some Z=>if Z.length=z then some (.bP Z)else none
 |none=>none
theorem zbb(z:Nat)(row:qB):Gw z (some row)=if row.length=z then some (.bP row)else none:=rfl
def Gx:Option UInt8->qI
 |some b=>some (.int .u8 b.toNat)
 |none=>none
theorem zbc(b:UInt8):Gx (some b)=some (.int .u8 b.toNat):=rfl
def cr(s:Nat)(cs:qB):qI:=if (cs.take s).length=s then some (.agg (cs.take s))else none
theorem lC(h:P.underlying t=some d)(hd:CJ d=false)(V:bp P t=some s)(cs:qB)(o:Nat):cF P t cs o=cr s (cs.drop o):=by
 unfold cF cr;rw[h];cases d<;>simp_all[CJ]
theorem zbd(h:P.underlying t=some (.slice e))(V:bp P e=some s)(xs:List qB){n:Int}(J:0<=n)(k:IntKind):dK P t (.aE xs) (.int k n)=Gw s (xs[n.toNat]?):=by
 obtain⟨m,rfl⟩:=jR J;show dK P t (.aE xs) (.int k (Int.ofNat m))=Gw s (xs[m]?);simp only[dK,h,V];cases xs[m]? <;>rfl
theorem nn(h:P.underlying t=some (.slice e))(V:bp P e=some s)(r o l z:Nat){n:Int}(J:0<=n)(k:IntKind):dK P t (.sl r o l z) (.int k n)=bif decide (n.toNat<l)then some (.ptr r (o+n.toNat*s))else none:=by
 obtain⟨m,rfl⟩:=jR J;show dK P t (.sl r o l z) (.int k (Int.ofNat m))=bif decide (m<l)then some (.ptr r (o+m*s))else none
 simp only[dK,h,V];simp_all
theorem zbe(h:P.underlying t=some .string)(s:qD){n:Int}(J:0<=n)(k:IntKind):ud P t (.ay s) (.int k n)=Gx (s[n.toNat]?):=by
 obtain⟨m,rfl⟩:=jR J;show ud P t (.ay s) (.int k (Int.ofNat m))=Gx (s[m]?);simp only[ud,h];cases s[m]? <;>rfl
def sy(P:Program)(t:TypeId)(o:Nat):Option HB->qI
 |some (.cells O _ _)=>cF P t O o
 |_=>none
theorem zbf(t:TypeId)(o:Nat)(cs:qB)(imm:Nat)(tip:Bool):sy P t o (some (.cells cs imm tip))=cF P t cs o:=rfl
theorem nr(H:Hp)(t:TypeId)(r o:Nat):eP P H t (.ptr r o)=sy P t o (H.get r):=rfl
theorem zbg(H:Hp)(t:TypeId)(cs:qB):eP P H t (.bP cs)=cF P t cs 0:=rfl
theorem zbh(H:Hp)(b:HB)(t:Nat):(H.alloc b).get t=bif t == H.next then some b else H.get t:=by
 rw[aL];simp_all
noncomputable def Qe(H:Hp)(r o:Nat)(C:qB):qN->Option HB->Option Hp
 |some s,some (.cells O Y z)=>if C.length=s/\Y<=o/\o+s<=O.length/\C.all AV.one=true then some (H.set r (.cells (splice O o C) Y z))else none
 |_,_=>none
theorem CK(H:Hp)(r o:Nat)(C:qB)(s:Nat)(cs:qB)(imm:Nat)(tip:Bool):Qe H r o C (some s) (some (.cells cs imm tip))=if C.length=s/\imm<=o/\o+s<=cs.length/\C.all AV.one=true then some (H.set r (.cells (splice cs o C) imm tip))else none:=rfl
theorem yJ(H:Hp)(t:TypeId)(r o:Nat)(v:AV):jY P H t (.ptr r o) v=Qe H r o v.cells (bp P t) (H.get r):=by
 unfold jY;simp only[];cases j:H.get r with
 |none=>cases bp P t<;>rfl
 |some b=>cases b with
  |map V=>cases bp P t<;>rfl
  |cells O Y z=>cases bp P t with
   |none=>rfl
   |some s=>rfl
theorem Qf(cs:qB)(o:Nat)(L:qB):splice cs o L=cs.take o++L++cs.drop (o+L.length):=rfl
theorem zbi(cs:qB):AV.cells (.agg cs)=cs:=rfl
theorem cells_int(k:IntKind)(n:Int):AV.cells (.int k n)=[.int k n]:=rfl
theorem Qg(b:Bool):AV.cells (.bool b)=[.bool b]:=rfl
theorem zbj(b:qD):AV.cells (.ay b)=[.ay b]:=rfl
theorem zbk(b:List qB):AV.cells (.aE b)=[.aE b]:=rfl
theorem zbl(r o l z:Nat):AV.cells (.sl r o l z)=[.sl r o l z]:=rfl
theorem zbm:AV.cells .ao=[.ao]:=rfl
theorem zbn(r o:Nat):AV.cells (.ptr r o)=[.ptr r o]:=rfl
theorem zbo(r:Nat):AV.cells (.map r)=[.map r]:=rfl
theorem zbp(g:Nat)(cap:qB):AV.cells (.cw g cap)=[.cw g cap]:=rfl
theorem Qh(k:IntKind)(n:Int):AV.one (.int k n)=true:=rfl
theorem zbq(b:Bool):AV.one (.bool b)=true:=rfl
theorem zbr(b:qD):AV.one (.ay b)=true:=rfl
theorem zbs(b:List qB):AV.one (.aE b)=true:=rfl
theorem zbt(r o l z:Nat):AV.one (.sl r o l z)=true:=rfl
theorem zbu:AV.one .ao=true:=rfl
theorem zbv(r o:Nat):AV.one (.ptr r o)=true:=rfl
theorem zbw(r:Nat):AV.one (.map r)=true:=rfl
theorem zbx(g:Nat)(cap:qB):AV.one (.cw g cap)=true:=rfl
theorem cL:bZ.next=0:=rfl
theorem zby(H:Hp)(t:TypeId)(s:qD)(lo O:qI):sc P H t (.ay s) lo O=jZ P t (.ay s) lo O:=rfl
theorem zbz(H:Hp)(t:TypeId)(s:List qB)(lo O:qI):sc P H t (.aE s) lo O=jZ P t (.aE s) lo O:=rfl
theorem zbA(H:Hp)(t:TypeId)(r o n z:Nat)(lo O:qI):sc P H t (.sl r o n z) lo O=jZ P t (.sl r o n z) lo O:=rfl
theorem zbB(H:Hp)(t:TypeId)(lo O:qI):sc P H t .ao lo O=jZ P t .ao lo O:=rfl
def zbC(n k:Nat):(n == n+(k+1))=false:=aB
def zbD(n k:Nat):(n+(k+1) == n)=false:=aB
theorem zbE(n a b:Nat):(n+a == n+b)=(a == b):=by
 grind
end
attribute [irreducible] aH bX aR j7
abbrev gV(l:qC):AV:=.aE (l.map fun s=>[.ay s])
abbrev iz(l:qA):AV:=.aE (l.map fun n=>[.int .i64 n])
inductive Ex where
 |mk (kind:Int) (n:Int) (name:qD) (op:Int) (kids:List Ex)
abbrev qM:=List Ex
def Ex.az:Ex->Int|.mk x _ _ _ _=>x
def Ex.n:Ex->Int|.mk _ x _ _ _=>x
def Ex.name:Ex->qD|.mk _ _ x _ _=>x
def Ex.op:Ex->Int|.mk _ _ _ x _=>x
def Ex.ak:Ex->qM|.mk _ _ _ _ x=>x
mutual
def Ex.cells:Ex->qB
 | .mk fD aI a6 cp dO=>[.int .i64 fD,.int .i64 aI,.ay a6,.int .i64 cp,.aE (Gy dO)]
def Gy:qM->List qB
 |[]=>[]
 |x::xs=>Ex.cells x::Gy xs
end
theorem Qi:∀l:qM,Gy l=l.map Ex.cells
 |[]=>rfl
 |x::xs=>by rw[Gy,Qi xs];rfl
def Ex.aZ(x:Ex):x.cells=[.int .i64 x.az,.int .i64 x.n,.ay x.name,.int .i64 x.op,.aE (x.ak.map Ex.cells)]:=by
 cases x;simp only[Ex.cells,Qi,Ex.az,Ex.n,Ex.name,Ex.op,Ex.ak]
def tx:=@Ex.aZ
def Ex.bY(x:Ex):x.cells.length=5:=xc
def Ex.c0(x:Ex):x.cells[0]?=some (.int .i64 x.az):=xc
def Ex.c1(x:Ex):x.cells[1]?=some (.int .i64 x.n):=xc
def Ex.c2(x:Ex):x.cells[2]?=some (.ay x.name):=xc
def Ex.c3(x:Ex):x.cells[3]?=some (.int .i64 x.op):=xc
def Ex.c4(x:Ex):x.cells[4]?=some (.aE (x.ak.map Ex.cells)):=xc
theorem Ex.bB(x:Ex):cr 5 x.cells=some (.agg x.cells):=by unfold cr;rw[tx];rfl
def Ex.one(x:Ex):x.cells.all AV.one=true:=xc
inductive St where
 |mk (kind:Int) (name:qD) (to:qD) (n:Int) (at_:Ex) (value:Ex) (args:qM) (thn:List St) (els:List St)
abbrev qJ:=List St
def St.az:St->Int|.mk x _ _ _ _ _ _ _ _=>x
def St.name:St->qD|.mk _ x _ _ _ _ _ _ _=>x
def St.to:St->qD|.mk _ _ x _ _ _ _ _ _=>x
def St.n:St->Int|.mk _ _ _ x _ _ _ _ _=>x
def St.bz:St->Ex|.mk _ _ _ _ x _ _ _ _=>x
def St.value:St->Ex|.mk _ _ _ _ _ x _ _ _=>x
def St.args:St->qM|.mk _ _ _ _ _ _ x _ _=>x
def St.bm:St->qJ|.mk _ _ _ _ _ _ _ x _=>x
def St.bO:St->qJ|.mk _ _ _ _ _ _ _ _ x=>x
mutual
def St.cells:St->qB
 | .mk fD aI a6 cp dO cI eO nN sZ=>[.int .i64 fD,.ay aI,.ay a6,.int .i64 cp,.int .i64 dO.az,.int .i64 dO.n,.ay dO.name,.int .i64 dO.op,.aE (dO.ak.map Ex.cells),.int .i64 cI.az,.int .i64 cI.n,.ay cI.name,.int .i64 cI.op,.aE (cI.ak.map Ex.cells),.aE (eO.map Ex.cells),.aE (CL nN),.aE (CL sZ)]
def CL:qJ->List qB
 |[]=>[]
 |x::xs=>St.cells x::CL xs
end
theorem Qj:∀l:qJ,CL l=l.map St.cells
 |[]=>rfl
 |x::xs=>by rw[CL,Qj xs];rfl
def St.aZ(x:St):x.cells=[.int .i64 x.az,.ay x.name,.ay x.to,.int .i64 x.n,.int .i64 x.bz.az,.int .i64 x.bz.n,.ay x.bz.name,.int .i64 x.bz.op,.aE (x.bz.ak.map Ex.cells),.int .i64 x.value.az,.int .i64 x.value.n,.ay x.value.name,.int .i64 x.value.op,.aE (x.value.ak.map Ex.cells),.aE (x.args.map Ex.cells),.aE (x.bm.map St.cells),.aE (x.bO.map St.cells)]:=by
 cases x;simp only[St.cells,Qj,St.az,St.name,St.to,St.n,St.bz,St.value,St.args,St.bm,St.bO]
def yK:=@St.aZ
def St.bY(x:St):x.cells.length=17:=lY
def St.c0(x:St):x.cells[0]?=some (.int .i64 x.az):=lY
def St.c1(x:St):x.cells[1]?=some (.ay x.name):=lY
def St.c2(x:St):x.cells[2]?=some (.ay x.to):=lY
def St.c3(x:St):x.cells[3]?=some (.int .i64 x.n):=lY
def St.c4(x:St):x.cells[4]?=some (.int .i64 x.bz.az):=lY
def St.c5(x:St):x.cells[5]?=some (.int .i64 x.bz.n):=lY
def St.c6(x:St):x.cells[6]?=some (.ay x.bz.name):=lY
def St.c7(x:St):x.cells[7]?=some (.int .i64 x.bz.op):=lY
def St.c8(x:St):x.cells[8]?=some (.aE (x.bz.ak.map Ex.cells)):=lY
def St.c9(x:St):x.cells[9]?=some (.int .i64 x.value.az):=lY
def St.c10(x:St):x.cells[10]?=some (.int .i64 x.value.n):=lY
def St.c11(x:St):x.cells[11]?=some (.ay x.value.name):=lY
def St.c12(x:St):x.cells[12]?=some (.int .i64 x.value.op):=lY
def St.c13(x:St):x.cells[13]?=some (.aE (x.value.ak.map Ex.cells)):=lY
def St.c14(x:St):x.cells[14]?=some (.aE (x.args.map Ex.cells)):=lY
def St.c15(x:St):x.cells[15]?=some (.aE (x.bm.map St.cells)):=lY
def St.c16(x:St):x.cells[16]?=some (.aE (x.bO.map St.cells)):=lY
theorem St.bB(x:St):cr 17 x.cells=some (.agg x.cells):=by unfold cr;rw[yK];rfl
def St.one(x:St):x.cells.all AV.one=true:=lY
theorem zbF(x:St):cr 5 (x.cells.drop 4)=some (.agg x.bz.cells):=by unfold cr;rw[yK,tx];rfl
theorem St.cb(x:St):cr 5 (x.cells.drop 9)=some (.agg x.value.cells):=by unfold cr;rw[yK,tx];rfl
structure Fu where
 name:qD
 params:qC
 aK:qC
 body:qJ
 value:Ex
abbrev qV:=List Fu
def Fu.cells(x:Fu):qB:=[.ay x.name,gV x.params,gV x.aK,.aE (x.body.map St.cells),.int .i64 x.value.az,.int .i64 x.value.n,.ay x.value.name,.int .i64 x.value.op,.aE (x.value.ak.map Ex.cells)]
theorem Fu.aZ(x:Fu):x.cells=[.ay x.name,gV x.params,gV x.aK,.aE (x.body.map St.cells),.int .i64 x.value.az,.int .i64 x.value.n,.ay x.value.name,.int .i64 x.value.op,.aE (x.value.ak.map Ex.cells)]:=rfl
def CM:=@Fu.aZ
def Fu.bY(x:Fu):x.cells.length=9:=tw
def Fu.c0(x:Fu):x.cells[0]?=some (.ay x.name):=tw
def Fu.c1(x:Fu):x.cells[1]?=some (gV x.params):=tw
def Fu.c2(x:Fu):x.cells[2]?=some (gV x.aK):=tw
def Fu.c3(x:Fu):x.cells[3]?=some (.aE (x.body.map St.cells)):=tw
def Fu.c4(x:Fu):x.cells[4]?=some (.int .i64 x.value.az):=tw
def Fu.c5(x:Fu):x.cells[5]?=some (.int .i64 x.value.n):=tw
def Fu.c6(x:Fu):x.cells[6]?=some (.ay x.value.name):=tw
def Fu.c7(x:Fu):x.cells[7]?=some (.int .i64 x.value.op):=tw
def Fu.c8(x:Fu):x.cells[8]?=some (.aE (x.value.ak.map Ex.cells)):=tw
theorem Fu.bB(x:Fu):cr 9 x.cells=some (.agg x.cells):=by unfold cr;rw[CM];rfl
def Fu.one(x:Fu):x.cells.all AV.one=true:=tw
theorem Fu.cb(x:Fu):cr 5 (x.cells.drop 4)=some (.agg x.value.cells):=by unfold cr;rw[CM,tx];rfl
structure Ar where
 name:qD
 len:Int
abbrev qT:=List Ar
def Ar.cells(x:Ar):qB:=[.ay x.name,.int .i64 x.len]
theorem Ar.aZ(x:Ar):x.cells=[.ay x.name,.int .i64 x.len]:=rfl
def Ar.bY(x:Ar):x.cells.length=2:=Gc
def Ar.c0(x:Ar):x.cells[0]?=some (.ay x.name):=Gc
def Ar.c1(x:Ar):x.cells[1]?=some (.int .i64 x.len):=Gc
theorem Ar.bB(x:Ar):cr 2 x.cells=some (.agg x.cells):=by unfold cr;rw[Ar.aZ];rfl
def Ar.one(x:Ar):x.cells.all AV.one=true:=Gc
structure Pr where
 ab:qT
 funcs:qV
def Pr.cells(x:Pr):qB:=[.aE (x.ab.map Ar.cells),.aE (x.funcs.map Fu.cells)]
theorem Pr.aZ(x:Pr):x.cells=[.aE (x.ab.map Ar.cells),.aE (x.funcs.map Fu.cells)]:=rfl
def Pr.bY(x:Pr):x.cells.length=2:=Gd
def Pr.c0(x:Pr):x.cells[0]?=some (.aE (x.ab.map Ar.cells)):=Gd
def Pr.c1(x:Pr):x.cells[1]?=some (.aE (x.funcs.map Fu.cells)):=Gd
theorem Pr.bB(x:Pr):cr 2 x.cells=some (.agg x.cells):=by unfold cr;rw[Pr.aZ];rfl
def Pr.one(x:Pr):x.cells.all AV.one=true:=Gd
structure Tk where
 az:Int
 text:qD
 bz:Int
def Tk.cells(x:Tk):qB:=[.int .i64 x.az,.ay x.text,.int .i64 x.bz]
theorem Tk.aZ(x:Tk):x.cells=[.int .i64 x.az,.ay x.text,.int .i64 x.bz]:=rfl
def Tk.bY(x:Tk):x.cells.length=3:=Cw
def Tk.c0(x:Tk):x.cells[0]?=some (.int .i64 x.az):=Cw
def Tk.c1(x:Tk):x.cells[1]?=some (.ay x.text):=Cw
def Tk.c2(x:Tk):x.cells[2]?=some (.int .i64 x.bz):=Cw
theorem Tk.bB(x:Tk):cr 3 x.cells=some (.agg x.cells):=by unfold cr;rw[Tk.aZ];rfl
def Tk.one(x:Tk):x.cells.all AV.one=true:=Cw
structure Nd where
 op:Int
 aP:Int
 ak:qA
abbrev qF:=List Nd
def Nd.cells(x:Nd):qB:=[.int .i64 x.op,.int .i64 x.aP,iz x.ak]
theorem Nd.aZ(x:Nd):x.cells=[.int .i64 x.op,.int .i64 x.aP,iz x.ak]:=rfl
def Nd.bY(x:Nd):x.cells.length=3:=Cy
def Nd.c0(x:Nd):x.cells[0]?=some (.int .i64 x.op):=Cy
def Nd.c1(x:Nd):x.cells[1]?=some (.int .i64 x.aP):=Cy
def Nd.c2(x:Nd):x.cells[2]?=some (iz x.ak):=Cy
theorem Nd.bB(x:Nd):cr 3 x.cells=some (.agg x.cells):=by unfold cr;rw[Nd.aZ];rfl
def Nd.one(x:Nd):x.cells.all AV.one=true:=Cy
structure Gr where
 name:qD
 params:Int
 af:qF
 value:Int
 aa:Int
def Gr.cells(x:Gr):qB:=[.ay x.name,.int .i64 x.params,.aE (x.af.map Nd.cells),.int .i64 x.value,.int .i64 x.aa]
theorem Gr.aZ(x:Gr):x.cells=[.ay x.name,.int .i64 x.params,.aE (x.af.map Nd.cells),.int .i64 x.value,.int .i64 x.aa]:=rfl
def Gr.bY(x:Gr):x.cells.length=5:=yF
def Gr.c0(x:Gr):x.cells[0]?=some (.ay x.name):=yF
def Gr.c1(x:Gr):x.cells[1]?=some (.int .i64 x.params):=yF
def Gr.c2(x:Gr):x.cells[2]?=some (.aE (x.af.map Nd.cells)):=yF
def Gr.c3(x:Gr):x.cells[3]?=some (.int .i64 x.value):=yF
def Gr.c4(x:Gr):x.cells[4]?=some (.int .i64 x.aa):=yF
theorem Gr.bB(x:Gr):cr 5 x.cells=some (.agg x.cells):=by unfold cr;rw[Gr.aZ];rfl
def Gr.one(x:Gr):x.cells.all AV.one=true:=yF
structure Un where
 ab:qT
 funcs:List Gr
def Un.cells(x:Un):qB:=[.aE (x.ab.map Ar.cells),.aE (x.funcs.map Gr.cells)]
theorem Un.aZ(x:Un):x.cells=[.aE (x.ab.map Ar.cells),.aE (x.funcs.map Gr.cells)]:=rfl
def Un.bY(x:Un):x.cells.length=2:=Ge
def Un.c0(x:Un):x.cells[0]?=some (.aE (x.ab.map Ar.cells)):=Ge
def Un.c1(x:Un):x.cells[1]?=some (.aE (x.funcs.map Gr.cells)):=Ge
theorem Un.bB(x:Un):cr 2 x.cells=some (.agg x.cells):=by unfold cr;rw[Un.aZ];rfl
def Un.one(x:Un):x.cells.all AV.one=true:=Ge
abbrev cy(n:Int):Int:=IntKind.wrap .i64 n
section
variable (q:Ex -> Int -> Bool)
end
section
variable {σ:Type} (q:St -> Int -> σ -> Bool × σ)
end
mutual
def Ex.sz:Ex->Nat
 | .mk _ _ s _ L=>1+s.length+fg L
def fg:qM->Nat
 |[]=>0
 |e::es=>1+e.sz+fg es
end
mutual
def St.sz:St->Nat
 | .mk _ L O _ a v I Z V=>1+L.length+O.length+a.sz+v.sz+fg I+bF Z+bF V
def bF:qJ->Nat
 |[]=>0
 |x::l=>1+x.sz+bF l
end
def gl:qC->Nat
 |[]=>0
 |s::l=>1+s.length+gl l
def Fu.sz(f:Fu):Nat:=1+f.name.length+gl f.params+gl f.aK+bF f.body+f.value.sz
def iA:qV->Nat
 |[]=>0
 |f::l=>1+f.sz+iA l
def jt:qT->Nat
 |[]=>0
 |a::l=>1+a.name.length+jt l
def Pr.sz(p:Pr):Nat:=1+jt p.ab+iA p.funcs
theorem xe:∀l:qM,l.length<=fg l
 |[]=>aG _
 |e::es=>by have:=xe es;simp only[fc,fg];omega
theorem yL:∀l:qJ,l.length<=bF l
 |[]=>aG _
 |e::es=>by have:=yL es;simp only[fc,bF];omega
theorem oL:∀l:qC,l.length<=gl l
 |[]=>aG _
 |e::es=>by have:=oL es;simp only[fc,gl];omega
theorem vJ:∀l:qV,l.length<=iA l
 |[]=>aG _
 |e::es=>by have:=vJ es;simp only[fc,iA];omega
theorem vK:∀l:qT,l.length<=jt l
 |[]=>aG _
 |e::es=>by have:=vK es;simp only[fc,jt];omega
theorem ux:∀{l:qM}{x:Ex},x∈l->x.sz<fg l
 |[],_,h=>by simp at h
 |e::es,x,h=>by
  rcases eJ.1 h with rfl|h
  .simp only[fg];omega
  .have:=ux h;simp only[fg];omega
theorem tz:∀{l:qJ}{x:St},x∈l->x.sz<bF l
 |[],_,h=>by simp at h
 |e::es,x,h=>by
  rcases eJ.1 h with rfl|h
  .simp only[bF];omega
  .have:=tz h;simp only[bF];omega
theorem KS:∀{l:qC}{x:qD},x∈l->x.length<gl l
 |[],_,h=>by simp at h
 |e::es,x,h=>by
  rcases eJ.1 h with rfl|h
  .simp only[gl];omega
  .have:=KS h;simp only[gl];omega
theorem uy:∀{l:qV}{x:Fu},x∈l->x.sz<iA l
 |[],_,h=>by simp at h
 |e::es,x,h=>by
  rcases eJ.1 h with rfl|h
  .simp only[iA];omega
  .have:=uy h;simp only[iA];omega
def Ex.a9(e:Ex):e.sz=1+e.name.length+fg e.ak:=by cases e;simp only[Ex.sz,Ex.name,Ex.ak]
def St.a9(x:St):x.sz=1+x.name.length+x.to.length+x.bz.sz+x.value.sz+fg x.args+bF x.bm+bF x.bO:=by cases x;simp only[St.sz,St.name,St.to,St.bz,St.value,St.args,St.bm,St.bO]
def vL(b:Int):Int:=IntKind.wrap .u64 (IntKind.wrap .i64 (BitVec.ofInt (IntKind.bits .i64) b &&& BitVec.ofInt (IntKind.bits .i64) 63).toNat)
def KT(k:IntKind)(a b:Int):Int:=k.wrap (a*2^ min b.toNat k.bits)
def CN(k:IntKind)(a b:Int):Int:=a.fdiv (2^ min b.toNat k.bits)
def xf(a b:Int):Int:=if b=0 then 0 else if b=-1 then cy (0-a)else cy (a.tdiv b)
def pH(b:Bool):Int:=if b=true then 1 else 0
def Gz(op a b:Int):Int:=
 if op=12 then KT .i64 a (vL b)else if op=13 then IntKind.wrap .i64 (CN .u64 (IntKind.wrap .u64 a) (vL b))else if op=14 then CN .i64 a (vL b)
 else if op=15 then pH (decide (a=b))else if op=16 then pH (!decide (a=b))else if op=17 then pH (decide (a<b))else if op=18 then pH (decide (a<=b))
 else if op=19 then pH (decide (IntKind.wrap .u64 a<IntKind.wrap .u64 b))else 0
def lZ(op a b:Int):Int:=
 if op=4 then cy (a+b)else if op=5 then cy (a-b)else if op=6 then cy (a*b)else if op=7 then xf a b else if op=8 then (if b=0 then 0 else cy (a-cy (xf a b*b)))
 else if op=9 then IntKind.wrap .i64 (BitVec.ofInt (IntKind.bits .i64) a &&& BitVec.ofInt (IntKind.bits .i64) b).toNat
 else if op=10 then IntKind.wrap .i64 (BitVec.ofInt (IntKind.bits .i64) a |||BitVec.ofInt (IntKind.bits .i64) b).toNat
 else if op=11 then IntKind.wrap .i64 (BitVec.ofInt (IntKind.bits .i64) a^^^ BitVec.ofInt (IntKind.bits .i64) b).toNat
 else Gz op a b
def sA(op a:Int):Int:=if op=20 then cy (0-a)else if op=21 then IntKind.wrap .i64 (BitVec.ofInt (IntKind.bits .i64) (-1)^^^ BitVec.ofInt (IntKind.bits .i64) a).toNat else 0
theorem zbG{a:Int}:vA .xor (.int .i64 a)=some (.int .i64 (IntKind.wrap .i64 (BitVec.ofInt (IntKind.bits .i64) (-1)^^^ BitVec.ofInt (IntKind.bits .i64) a).toNat)):=rfl
def zbH(n:Int):0<=IntKind.wrap .u64 n:=by
 unfold IntKind.wrap;simp only[IntKind.signed,nh,dV,fK];omega
def zbI(b:Int):0<=vL b:=zbH _
def zbJ{k:IntKind}{a b:Int}(hb:0<=b):dQ P D .shl t (.int k a) (.int I b)=some (.int k (KT k a b)):=by
 obtain⟨m,rfl⟩:=jR hb;simp only[dQ,vz];show wN .shl k a (Int.ofNat m)=_;simp[wN,KT]
def bin_shr{k:IntKind}{a b:Int}(hb:0<=b):dQ P D .shr t (.int k a) (.int I b)=some (.int k (CN k a b)):=by
 obtain⟨m,rfl⟩:=jR hb;simp only[dQ,vz];show wN .shr k a (Int.ofNat m)=_;simp[wN,CN]
abbrev aY:=qD
structure MS where
 a2:Int
 a4:Int
 aT:Int
 cells:List (aY×qA)
 out:qA
def di:List (aY×Int)->aY->Int
 |[],_=>0
 |p::l,nm=>if nm=p.1 then p.2 else di l nm
def setV:List (aY×Int)->aY->Int->List (aY×Int)
 |[],nm,x=>[(nm,x)]
 |p::l,nm,x=>if nm=p.1 then (nm,x)::l else p::setV l nm x
def iZ:List (aY×qA)->aY->qA
 |[],_=>[]
 |p::l,nm=>if nm=p.1 then p.2 else iZ l nm
def vM:List (aY×qA)->aY->Nat->Int->List (aY×qA)
 |[],_,_,_=>[]
 |p::l,nm,i,x=>if nm=p.1 then (p.1,p.2.set i x)::l else p::vM l nm i x
def fo(c:Int)(s:MS):MS:=if s.a4=0 then {s with a4:=2,aT:=c}else s
def dw(s:MS):MS:=if s.a4≠0 then s else if s.a2=0 then {s with a4:=3}else {s with a2:=cy (s.a2-1) }
def nu(v:Int)(s:MS):MS:=if s.a4=0 then {s with out:=s.out++[v] }else s
def sB(a:Int)(l:qA):Bool:=decide (a<0)||decide ((l.length:Int)<=a)
def kG(nm:aY)(a v:Int)(s:MS):MS:=
 let J:=if sB a (iZ s.cells nm)=true then fo 2 s else s
 if J.a4=0 then {J with cells:=vM J.cells nm a.toNat v}else J
def eL:Nat->Ex->List (aY×Int)->MS->Option (Int×MS)
 |0,_,_,_=>none
 |n+1,x,vs,s=>
  if s.a4≠0 then some (0,s)
  else if x.az=1 then some (x.n,s)
  else if x.az=2 then some (di vs x.name,s)
  else if x.az=3 then
   (x.ak[0]?).bind fun k=>(eL n k vs s).bind fun r=>
     if sB r.1 (iZ r.2.cells x.name)=true then some (0,fo 2 r.2)else some ((iZ r.2.cells x.name).getD r.1.toNat 0,r.2)
  else if x.az=5 then
   (x.ak[0]?).bind fun k=>(eL n k vs s).bind fun r=>
     if r.1≠0 then (x.ak[1]?).bind fun k=>eL n k vs r.2 else (x.ak[2]?).bind fun k=>eL n k vs r.2
  else
   (x.ak[0]?).bind fun k=>(eL n k vs s).bind fun r=>
     if x.ak.length=1 then some (sA x.op r.1,r.2)
     else (x.ak[1]?).bind fun k=>(eL n k vs r.2).bind fun r2=>
      if r2.1=0/\(x.op=7\/x.op=8)then some (0,fo 1 r2.2)else some (lZ x.op r.1 r2.1,r2.2)
def j8(n:Nat):qM->List (aY×Int)->MS->Option (qA×MS)
 |[],_,s=>some ([],s)
 |x::l,vs,s=>(eL n x vs s).bind fun r=>(j8 n l vs r.2).bind fun r2=>some (r.1::r2.1,r2.2)
def yM:List aY->qA->List (aY×Int)->Option (List (aY×Int))
 |[],_,vs=>some vs
 |_::_,[],_=>none
 |nm::l,a::asx,vs=>yM l asx (setV vs nm a)
section
variable (p:Pr) (fi:List (aY × Int))
mutual
def jS:Nat->St->List (aY×Int)->MS->Option (List (aY×Int)×MS)
 |0,_,_,_=>none
 |n+1,x,vs,s=>
  if x.az=1 then (eL n x.value vs s).bind fun r=>some (setV vs x.name r.1,r.2)
  else if x.az=2 then (eL n x.bz vs s).bind fun r=>(eL n x.value vs r.2).bind fun r2=>some (vs,kG x.name r.1 r2.1 r2.2)
  else if x.az=3 then (eL n x.value vs s).bind fun r=>if r.1≠0 then fL n x.bm vs r.2 else fL n x.bO vs r.2
  else if x.az=4 then fE n x vs s
  else if x.az=5 then (eL n x.value vs s).bind fun r=>some (vs,nu r.1 r.2)
  else if x.az=6 then (j8 n x.args vs s).bind fun r=>
   if (dw r.2).a4=0 then (fM n (di fi x.to) r.1 (dw r.2)).bind fun r2=>some (setV vs x.name r2.1,r2.2)else some (vs,dw r.2)
  else if x.az=7 then some (vs,fo (cy (16+x.n)) s)
  else some (vs,s)
def fL:Nat->qJ->List (aY×Int)->MS->Option (List (aY×Int)×MS)
 |0,_,_,_=>none
 |n+1,l,vs,s=>match l with
  |[]=>some (vs,s)
  |x::l=>if s.a4≠0 then some (vs,s)else (jS n x vs s).bind fun r=>fL n l r.1 r.2
def fE:Nat->St->List (aY×Int)->MS->Option (List (aY×Int)×MS)
 |0,_,_,_=>none
 |n+1,x,vs,s=>(eL n x.value vs s).bind fun r=>
  if r.1≠0/\r.2.a4=0 then
   if (dw r.2).a4=0 then (fL n x.bm vs (dw r.2)).bind fun r2=>fE n x r2.1 r2.2 else fE n x vs (dw r.2)
  else some (vs,r.2)
def fM:Nat->Int->qA->MS->Option (Int×MS)
 |0,_,_,_=>none
 |n+1,k,asx,s=>if k<0 then none else (p.funcs[k.toNat]?).bind fun f=>(yM f.params asx []).bind fun vs=>(fL n f.body vs s).bind fun r=>eL n f.value r.1 r.2
end
end
def cM(l:qA):qB:=l.map fun n=>.int .i64 n
def cEs:List (aY×qA)->qG->qU
 |p::l,r::rs=>(.ay p.1,.sl r 0 p.2.length 1)::cEs l rs
 |_,_=>[]
def vN(l:qA):(cM l).length=l.length:=by simp[cM]
def zbK{t e r:Nat}{nm:aY}{z:AV}(m:P.underlying t=some (.map Z e))(Y:vy P Z=some .string)(j:zX P e=some z)(hg:H.get r=some (.map V)):
 (lP .string (.ay nm) V 0=some none->sd P H t (.map r) (.ay nm) false=some z)/\∀i v,lP .string (.ay nm) V 0=some (some (i,v))->sd P H t (.map r) (.ay nm) false=some v:=by
 refine⟨fun h=>?_,fun i v h=>?_⟩<;>simp only[sd,m,Y,j,BX,hg,h,JI]
def zbL{t e r:Nat}{nm:aY}{x:AV}(m:P.underlying t=some (.map Z e))(z:vy P Z=some .string)(hg:H.get r=some (.map V)):
 (lP .string (.ay nm) V 0=some none->te P H t (.map r) (.ay nm) x=some (H.set r (.map (V++[(.ay nm,x)]))))/\∀i v,lP .string (.ay nm) V 0=some (some (i,v))->te P H t (.map r) (.ay nm) x=some (H.set r (.map (V.set i (.ay nm,x)))):=by
 refine⟨fun h=>?_,fun i v h=>?_⟩<;>simp only[te,m,z,hg,h]
end Go.Ab
