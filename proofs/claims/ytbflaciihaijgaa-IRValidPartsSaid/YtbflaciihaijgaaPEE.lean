/- Lemmas for the last file. -/
import Derived.IntWalk
import Derived.KernelRfl
import Derived.Test.YtbflaciihaijgaaPED
import Derived.Test.YtbflaciihaijgaaRows
set_option linter.all false
set_option maxHeartbeats 32000000
namespace Go.Ab
set_option maxRecDepth 20000
open Go
abbrev qt:=List qw
variable{qd:Prop}
def xm(h:qd:=by rw[U];simp):=h
def FJ(h:qd:=by simp only[iQ,h,h1]):=h
def pN(h:qd:=by simp[em,tq,jZ]):=h
def BS(h:qd:=by unfold ij;rw[h]):=h
def Kd(h:qd:=by simp only[aZ,jK,beq_self_eq_true,cond_true]):=h
def tJ(h:qd:=by rw[Ex.aA];rfl):=h
def kh(h:qd:=by rw[St.aA];rfl):=h
def pO(h:qd:=by rw[Fu.aA];rfl):=h
def BT(h:qd:=by rw[Ar.aA];rfl):=h
def BU(h:qd:=by rw[Pr.aA];rfl):=h
def yW(h:qd:=by rw[Tk.aA];rfl):=h
def yX(h:qd:=by rw[Nd.aA];rfl):=h
def vp(h:qd:=by rw[Gr.aA];rfl):=h
def BV(h:qd:=by rw[Un.aA];rfl):=h
def aG(h:qd:=by kernel_rfl):=h
def xn(h:qd:=by cases k<;>kernel_rfl):=h
def sy:=@cond_false
def kq:=@Int.eq_ofNat_of_zero_le
def kW:=@Bool.and_true
def pP:=@and_self
def ad:=@And.intro
def oh:=@Bool.not_false
def fT:=@Bool.true_and
def aU:=@and_true
def iK:=@Int.toNat_natCast
end Go.Ab
namespace Go.Ab
set_option maxRecDepth 20000
open Go
structure SOp where
 d:qI
 op:Op
 g:Option (Nat×Bool)
inductive SC where
 |skip|ret|dV
 |dw (l:List SOp)
 |bD (id:Nat) (l:qx)
 |seq (a b:SC)
 |cond (x:Operand) (a b:SC)
 |block (id:Nat) (a:SC)
 |loop (a:SC)
 |exit (id:Nat)
variable{K:AV->Hp->Prop}{Q:AX->aB->Hp->Prop}{d:qI}{l:List SOp}{v a:AV}{s r m i:Nat}{b:Bool}{t e:TypeId}{c:Call}{vs C Y cs:qs}{g:FuncId}{V:Func}{z lo:Option Operand}{O:Array (Nat×Operand)}{ih:zd2->Res}{ops:qx}{I:Hp}{x:Operand}
def bT(N:Nat):Option Tmp->Option qI
 |none=>some none
 |some d=>match Nat.blt d N with
  |true=>some (some d)
  |false=>none
def bU(Z:qx):Option (Nat×Bool)->Option (Option (Nat×Bool))
 |none=>some none
 |some (j,b)=>match (Z[j]?).bind (·.dst)with
  |some d=>some (some (d,b))
  |none=>none
def bI(N:Nat)(Z:qx):qx->Option (List SOp)
 |[]=>some []
 |o::l=>match bT N o.dst,bU Z o.guard,bI N Z l with
  |some d,some g,some r=>some (⟨d,o.op,g⟩::r)
  |_,_,_=>none
def bM(l:Option (List SOp)):SC:=match l with
 |some l=>.dw l
 |none=>.dV
def aI(N:Nat):Code->SC
 | .skip=>.skip
 | .region id ops draw=>match draw with
   |false=>bM (bI N ops.toList ops.toList)
   |true=>.bD id ops.toList
 | .seq a b=>.seq (aI N a) (aI N b)
 | .cond x a b=>.cond x (aI N a) (aI N b)
 | .block id a=>.block id (aI N a)
 | .loop a=>.loop (aI N a)
 | .exit id=>.exit id
 | .ret=>.ret
 |_=>.dV
section
variable (P:Program) (cfg:Cfg) (f N:Nat)
def aY(g:FuncId)(C:qs)(H:Hp)(Q:AV->Hp->Prop):Prop:=∃v H',dA P cfg (.call g C H) (.val v H')/\Q v H'
def iT(op:Op)(E:aB)(H:Hp)(K:AV->Hp->Prop):Prop:=∃n v H',en P cfg (dM P cfg n) f E H op=.val v H'/\K v H'
noncomputable def aZ(E:aB):qI->AV->aB
 |some d,v=>T.set E d (some v)
 |none,_=>E
def aL:List SOp->aB->Hp->(aB->Hp->Prop)->Prop
 |[],E,H,Q=>Q E H
 |o::l,E,H,Q=>match o.g with
  |none=>iT P cfg f o.op E H fun v H'=>aL l (aZ E o.d v) H' Q
  |some (s,b)=>(E.at s=.bool b/\iT P cfg f o.op E H fun v H'=>aL l (aZ E o.d v) H' Q)\/((E.at s=.bool (!b)\/E.at s=ed)/\aL l (aZ E o.d ed) H Q)
def cb(c:SC)(E:aB)(H:Hp)(Q:AX->aB->Hp->Prop):Prop:=∀code,aI N code=c->∃x E' H',dA P cfg (.aE f N code E H) (.done x E' H')/\Q x E' H'
end
section
variable {P:Program} {cfg:Cfg} {f N:Nat}
def iT.mono{op:Op}{E:aB}{H:Hp}{I:AV->Hp->Prop}(h:∀v H',K v H'->I v H')(j:iT P cfg f op E H K):iT P cfg f op E H I:=by
 obtain⟨n,v,H',i,g⟩:=j;exact⟨n,v,H',i,h v H' g⟩
def cb.mono{c:SC}{E:aB}{H:Hp}{V:AX->aB->Hp->Prop}(h:∀x E H,Q x E H->V x E H)(L:cb P cfg f N c E H Q):cb P cfg f N c E H V:=fun code hc=>by
 obtain⟨x,E',H',i,g⟩:=L code hc;exact⟨x,E',H',i,h _ _ _ g⟩
def cb.skip{E:aB}{H:Hp}{Q:AX->aB->Hp->Prop}(h:Q .normal E H):cb P cfg f N .skip E H Q:=fun code hc=>by
 cases code with
 |skip=>exact⟨_,_,_,dA.skip,h⟩
 |region id ops draw=>cases draw<;>simp only[aI,bM,reduceCtorEq]at hc;split at hc<;>simp at hc
 |_=>simp[aI]at hc
def cb.ret{E:aB}{H:Hp}{Q:AX->aB->Hp->Prop}(h:Q .ret E H):cb P cfg f N .ret E H Q:=fun code hc=>by
 cases code with
 |ret=>exact⟨_,_,_,dA.ret,h⟩
 |region id ops draw=>cases draw<;>simp only[aI,bM,reduceCtorEq]at hc;split at hc<;>simp at hc
 |_=>simp[aI]at hc
def cb.exit{id:Nat}{E:aB}{H:Hp}{Q:AX->aB->Hp->Prop}(h:Q (.exit id) E H):cb P cfg f N (.exit id) E H Q:=fun code hc=>by
 cases code with
 |exit J=>simp only[aI,SC.exit.injEq]at hc;subst hc;exact⟨_,_,_,dA.exit,h⟩
 |region id ops draw=>cases draw<;>simp only[aI,bM,reduceCtorEq]at hc;split at hc<;>simp at hc
 |_=>simp[aI]at hc
def nr(Q:AX->aB->Hp->Prop)(K:aB->Hp->Prop):AX->aB->Hp->Prop
 | .normal,E,H=>K E H
 | .exit id,E,H=>Q (.exit id) E H
 | .ret,E,H=>Q .ret E H
def cb.seq{a b:SC}{E:aB}{H:Hp}{Q:AX->aB->Hp->Prop}(h:cb P cfg f N a E H (nr Q fun E H=>cb P cfg f N b E H Q)):cb P cfg f N (.seq a b) E H Q:=fun code hc=>by
 cases code with
 |seq p q=>
  simp only[aI,SC.seq.injEq]at hc;obtain⟨x,E1,H1,i,g⟩:=h p hc.1;cases x with
  |normal=>
   obtain⟨x,j,Z,m,U⟩:=g q hc.2;exact⟨x,j,Z,dA.seq i m,U⟩
  |exit id=>exact⟨_,_,_,Kb i az,g⟩
  |ret=>exact⟨_,_,_,Kb i az,g⟩
 |region id ops draw=>cases draw<;>simp only[aI,bM,reduceCtorEq]at hc;split at hc<;>simp at hc
 |_=>simp[aI]at hc
def ah:=@cb.seq
def cb.cond{x:Operand}{a b:SC}{E:aB}{H:Hp}{Q:AX->aB->Hp->Prop}{t:Bool}(I:aV E x=some (.bool t))(h1:t=true->cb P cfg f N a E H Q)(h2:t=false->cb P cfg f N b E H Q):
 cb P cfg f N (.cond x a b) E H Q:=fun code hc=>by
 cases code with
 |cond y p q=>
  simp only[aI,SC.cond.injEq]at hc;obtain⟨rfl,m,U⟩:=hc;cases t with
  |true=>
   obtain⟨x,E1,H1,K,Z⟩:=h1 rfl p m;exact⟨x,E1,H1,T9 I K,Z⟩
  |false=>
   obtain⟨x,E1,H1,K,Z⟩:=h2 rfl q U;exact⟨x,E1,H1,Ua I K,Z⟩
 |region id ops draw=>cases draw<;>simp only[aI,bM,reduceCtorEq]at hc;split at hc<;>simp at hc
 |_=>simp[aI]at hc
def tK(id:Nat)(Q:AX->aB->Hp->Prop):AX->aB->Hp->Prop
 | .normal,E,H=>Q .normal E H
 | .exit J,E,H=>if J=id then Q .normal E H else Q (.exit J) E H
 | .ret,E,H=>Q .ret E H
def cb.block{id:Nat}{a:SC}{E:aB}{H:Hp}{Q:AX->aB->Hp->Prop}(h:cb P cfg f N a E H (tK id Q)):cb P cfg f N (.block id a) E H Q:=fun code hc=>by
 cases code with
 |block J p=>
  simp only[aI,SC.block.injEq]at hc;obtain⟨rfl,m⟩:=hc;obtain⟨x,E1,H1,K,Z⟩:=h p m;cases x with
  |normal=>exact⟨_,_,_,Ub K,Z⟩
  |ret=>exact⟨_,_,_,Uc K,Z⟩
  |exit k=>
   simp only[tK]at Z;split at Z
   .rename_i e;subst e;exact⟨_,_,_,dA.block K,Z⟩
   .rename_i e;exact⟨_,_,_,Ud (by cases o:Nat.beq k J with|true=>exact(e (jn o)).elim|false=>rfl) K,Z⟩
 |region id ops draw=>cases draw<;>simp only[aI,bM,reduceCtorEq]at hc;split at hc<;>simp at hc
 |_=>simp[aI]at hc
def ak:=@cb.block
def cb.loop{a:SC}{Q:AX->aB->Hp->Prop}(I:Nat->aB->Hp->Prop)(h:∀n E H,I n E H->cb P cfg f N a E H (nr Q fun E H=>∃m,m<n/\I m E H)){n:Nat}{E:aB}{H:Hp}(O:I n E H):cb P cfg f N (.loop a) E H Q:=by
 induction n using Nat.strongRecOn generalizing E H with
 |_ n ih=>
  intro code hc;cases code with
  |loop p=>
   simp only[aI,SC.loop.injEq]at hc;obtain⟨x,E1,H1,K,Z⟩:=h n E H O p hc;cases x with
   |normal=>
    obtain⟨m,Y,C⟩:=Z;obtain⟨x,j,V,U,M⟩:=ih m Y C (.loop p) (by simp[aI,hc]);exact⟨x,j,V,dA.loop K U,M⟩
   |exit id=>exact⟨_,_,_,Kc K az,Z⟩
   |ret=>exact⟨_,_,_,Kc K az,Z⟩
  |region id ops draw=>cases draw<;>simp only[aI,bM,reduceCtorEq]at hc;split at hc<;>simp at hc
  |_=>simp[aI]at hc
def yY:=@cb.loop
def pQ{a:SC}(I:Nat->aB->Hp->Prop)(O:Nat)(h:∀i E H,i<=O->I i E H->cb P cfg f N a E H (nr Q fun E H=>i<O/\I (i+1) E H)){E:aB}{H:Hp}(Z:I 0 E H):cb P cfg f N (.loop a) E H Q:=
 yY (fun n E H=>n<=O/\I (O-n) E H) (fun n E H C=>cb.mono (fun x E' H' K=>by
  cases x with
  |normal=>
   obtain⟨Y,g⟩:=K;have:=C.1;refine⟨n-1,ac,ac,?_⟩;rw[show O-(n-1)=O-n+1 by omega];exact g
  |exit id=>exact K
  |ret=>exact K) (h (O-n) E H (Nat.sub_le _ _) C.2)) (n:=O) ⟨aO _,by rw[lU];exact Z⟩
def BW{N:Nat}{U:Option Tmp}(h:bT N U=some d)(E:aB)(v:AV):fE N E U v=some (aZ E d v):=by
 cases U with
 |none=>simp only[bT,aJ]at h;subst h;rfl
 |some t=>
  simp only[bT]at h;split at h
  .rename_i o;simp only[aJ]at h;subst h;simp only[fE,o,aZ]
  .simp at h
def Ke{Z:qx}{E:aB}{o:Oper}{g:Option (Nat×Bool)}(h:bU Z o.guard=some g):
 (g=none->jC Z E o=true)/\∀s b,g=some (s,b)->(E.at s=.bool b->jC Z E o=true)/\(E.at s=.bool (!b)\/E.at s=ed->jC Z E o=false):=by
 unfold jC;cases J:o.guard with
 |none=>
  rw[J]at h;simp only[bU,aJ]at h;subst h;exact⟨fun _=>rfl,fun s b e=>by simp at e⟩
 |some V=>
  obtain⟨j,b⟩:=V;rw[J]at h;simp only[bU]at h;split at h
  .rename_i d hd;simp only[aJ]at h;subst h;refine⟨fun e=>by simp at e,fun s I e=>?_⟩;simp only[cO]at e;obtain⟨rfl,rfl⟩:=e;simp only[Bg,hd];refine⟨fun e=>by rw[e];simp,fun e=>by rcases e with e|e<;>rw[e]<;>simp[ed]⟩
  .simp at h
theorem aL.run{Y:qx}{Q:aB->Hp->Prop}:∀{l:qx}{r:List SOp}{E:aB}{H:Hp},bI N Y l=some r->aL P cfg f r E H Q ->
 ∃n E' H',j6 P cfg (dM P cfg n) f N Y l E H=.done .normal E' H'/\Q E' H'
 |[],r,E,H,hs,Z=>by
  simp only[bI,aJ]at hs;subst hs;exact⟨0,E,H,rfl,Z⟩
 |o::l,r,E,H,hs,Z=>by
  simp only[bI]at hs;split at hs
  .rename_i d g r' i h2 C;simp only[aJ]at hs;subst hs;obtain⟨dd,z⟩:=Ke (E:=E) h2;have M:∀{K:Prop},iT P cfg f o.op E H (fun v H'=>aL P cfg f r' (aZ E d v) H' Q)->jC Y E o=true->∃n E' H',j6 P cfg (dM P cfg n) f N Y (o::l) E H=.done .normal E' H'/\Q E' H':=fun{K} hw I=>by
    obtain⟨n,v,H1,g1,g2⟩:=hw;obtain⟨m,j,O,U,L⟩:=aL.run C g2;refine⟨max n m,j,O,?_,L⟩;have V:∀k k',k<=k'->dY (dM P cfg k) (dM P cfg k'):=fun k k' hk t ht=>FI hk ht;rw[yV,I];simp only[];rw[BO (V n (max n m) (BI _ _)) (by rw[g1];simp),g1];simp only[BW i,kM];rw[BP (V m (max n m) (BJ _ _)) xm,U]
   unfold aL at Z;cases J:g with
   |none=>
    rw[J]at Z;exact M (K:=True) Z (dd J)
   |some sb=>
    obtain⟨s,b⟩:=sb;rw[J]at Z;simp only[]at Z;rcases Z with⟨e,Z⟩|⟨e,Z⟩
    .exact M (K:=True) Z ((z s b J).1 e)
    .obtain⟨m,j,O,U,L⟩:=aL.run C Z;refine⟨m,j,O,?_,L⟩;rw[yV,(z s b J).2 e];simp only[BW i,kM];exact U
  .simp at hs
def cb.dw{l:List SOp}{E:aB}{H:Hp}{Q:AX->aB->Hp->Prop}(h:aL P cfg f l E H (Q .normal)):cb P cfg f N (.dw l) E H Q:=fun code hc=>by
 cases code with
 |region id ops draw=>
  cases draw with
  |true=>simp[aI]at hc
  |false=>
   simp only[aI,bM]at hc;split at hc
   .rename_i r hr;simp only[SC.dw.injEq]at hc;subst hc;obtain⟨n,E',H',i,g⟩:=aL.run hr h;exact⟨_,_,_,dA.region i az,g⟩
   .simp at hc
 |_=>simp[aI]at hc
def ai{E:aB}{H:Hp}(h:∀K:aB->Hp->Prop,(∀E' H',Q .normal E' H'->K E' H')->aL P cfg f l E H K):cb P cfg f N (.dw l) E H Q:=
 cb.dw (h _ fun _ _ h=>h)
def aL.nil{E:aB}{H:Hp}{Q:aB->Hp->Prop}(h:Q E H):aL P cfg f [] E H Q:=h
def yZ:=@aL.nil
def iT.plain{op:Op}{E:aB}{H H':Hp}(h:dz P cfg.b7 E H op=some (v,H'))(C:∀c,op≠.call c)(j:K v H'):iT P cfg f op E H K:=
 ⟨0,v,H',(vm C).2 h,j⟩
def BX:Op->Bool
 | .call _=>false
 |_=>true
def Kf{op:Op}(h:BX op=true):∀c,op≠.call c:=fun c e=>by subst e;simp[BX]at h
def aL.op{d:Nat}{op:Op}{E:aB}{H H':Hp}{Q:aB->Hp->Prop}(C:BX op=true)(h:dz P cfg.b7 E H op=some (v,H'))(j:aL P cfg f l (T.set E d (some v)) H' Q):aL P cfg f (⟨some d,op,none⟩::l) E H Q:=
 iT.plain h (Kf C) j
def ja:=@aL.op
def Kg{op:Op}{E:aB}{H H':Hp}{Q:aB->Hp->Prop}(C:BX op=true)(h:dz P cfg.b7 E H op=some (v,H'))(j:aL P cfg f l E H' Q):aL P cfg f (⟨none,op,none⟩::l) E H Q:=
 iT.plain h (Kf C) j
theorem aL.guard{op:Op}{t:Bool}{E:aB}{H:Hp}{Q:aB->Hp->Prop}(h:E.at s=.bool t)(h1:t=b->aL P cfg f (⟨d,op,none⟩::l) E H Q)(h2:t=!b->aL P cfg f l (aZ E d ed) H Q):
 aL P cfg f (⟨d,op,some (s,b)⟩::l) E H Q:=by
 unfold aL;by_cases e:t=b
 .exact .inl ⟨by rw[h,e],h1 e⟩
 .have:t=!b:=by cases t<;>cases b<;>simp_all
  exact .inr ⟨.inl (by rw[h,this]),h2 this⟩
def Kh{op:Op}{E:aB}{H:Hp}{Q:aB->Hp->Prop}(h:some (E.at s)=some v)(V:v=ed)(h2:aL P cfg f l (aZ E d ed) H Q):
 aL P cfg f (⟨d,op,some (s,b)⟩::l) E H Q:=by
 subst V;unfold aL;exact .inr ⟨.inr i9,h2⟩
def aL.call{g:Operand}{k:FuncId}{cap:qs}{E:aB}{H:Hp}{Q:aB->Hp->Prop}(V:c.callee=.value g)(J:aV E g=some (.bb k cap))(Z:iQ E c.args.toList=some vs)
 (h:aY P cfg k (vs++cap) H fun v H'=>aL P cfg f l (aZ E d v) H' Q):aL P cfg f (⟨d,.call c,none⟩::l) E H Q:=by
 obtain⟨v,H',⟨_,n,i⟩,Y⟩:=h;refine⟨n,v,H',?_,Y⟩;simp only[en,tw,V,J,Z];exact i
def br:=@aL.call
def aL.builtin{b:Builtin}{E:aB}{H H':Hp}{Q:aB->Hp->Prop}(V:c.callee=.builtin b)(Z:iQ E c.args.toList=some vs)
 (h:ru P (cfg.keep f) H b c.argTypes.toList vs=some (v,H')) (j:aL P cfg f l (aZ E d v) H' Q):aL P cfg f (⟨d,.call c,none⟩::l) E H Q:=by
 refine⟨0,v,H',?_,j⟩;simp only[en,tw,V,Z,h]
def BY:=@aL.builtin
def Ue{r:AV}{H:Hp}{Q:AV->Hp->Prop}(h:cfg.call g C=some r)(K:Q r H):aY P cfg g C H Q:=
 ⟨r,H,kg az (n:=0) (by simp only[step,h]),K⟩
def Ki{r:AV}{H H':Hp}{Q:AV->Hp->Prop}(O:cfg.call g C=none)(z:cfg.aD g=true)(I:cfg.aq g=false)(j:gg (eR 100) C H=some (Y,H'))(h:cfg.call g Y=some r)(K:Q r H')(i:yq r=true->Q r H):aY P cfg g C H Q:=
 ⟨r,wQ r H H',kg az (n:=0) (by simp only[step,O,n1,z,I,uZ,wR,j,h]),by
  unfold wQ;split
  .rename_i h;exact i h
  .exact K⟩
def Uf{r:AV}{H H':Hp}{Q:AV->Hp->Prop}(O:cfg.call g C=none)(z:cfg.aD g=true)(I:cfg.aq g=false)(j:gg (eR 100) C H=some (Y,H'))(h:cfg.call g Y=some r)(i:yq r=true)(K:Q r H):aY P cfg g C H Q:=
 ⟨r,wQ r H H',kg az (n:=0) (by simp only[step,O,n1,z,I,uZ,wR,j,h]),by unfold wQ;rw[i];exact K⟩
def aY.mono{H:Hp}{Q V:AV->Hp->Prop}(h:∀v H',Q v H'->V v H')(L:aY P cfg g C H Q):aY P cfg g C H V:=by
 obtain⟨v,H',i,Z⟩:=L;exact⟨v,H',i,h _ _ Z⟩
def bb:=@aY.mono
def aY.body{H:Hp}{c:Code}{Q:AV->Hp->Prop}(j:cfg.call g C=none)(z:cfg.aD g=false)(I:cfg.aq g=false)(i:P.funcs[g]?=some V)(o:V.body=some c)
 (h:cb P cfg g (max V.ntmps C.length) (aI (max V.ntmps C.length) c) (bA 0 C (uX (max V.ntmps C.length))) H (fun x E' H'=>(x=.normal\/x=.ret)/\∃vs,eh P E' H' V.results.toList=some vs/\Q (aC vs) H')):aY P cfg g C H Q:=by
 obtain⟨x,E',H',Z,Y,vs,U,m⟩:=h c rfl;exact⟨aC vs,H',dA.call j z I i o Z Y (by unfold wP;rw[U]),m⟩
def bF{H:Hp}{c:Code}{s:SC}{M:Nat}{rs:List ResultVar}{Q:AV->Hp->Prop}(j:cfg.call g C=none)(z:cfg.aD g=false)(I:cfg.aq g=false)(i:P.funcs[g]?=some V)(o:V.body=some c)(Z:max V.ntmps C.length=M)
 (Y:aI M c=s) (hr:V.results.toList=rs) (h:cb P cfg g M s (bA 0 C (uX M)) H (fun x E' H'=>(x=.normal\/x=.ret)/\∃vs,eh P E' H' rs=some vs/\Q (aC vs) H')):aY P cfg g C H Q:=by
 subst Z Y hr;exact aY.body j z I i o h
def Kk(fit:Fit P){ρ:Nat->Int}(j:oX cfg.b7 ρ)(V:∀f C r,cfg.call f C=some r->bX P ρ f C r){C:qs}{r:AV}{k:Nat}
 (Z:tC k C=true) (h:aY P cfg g C bY fun v H'=>iceV H' m v=some r):bX P ρ g C r:=by
 obtain⟨v,H',⟨_,n,i⟩,Y⟩:=h;exact J6 fit j V (n:=n) (m:=m) Z (by unfold Bi;rw[i];exact Y)
section
variable {l:List SOp} {E:aB} {H H':Hp} {Q:aB -> Hp -> Prop} {d:Nat} {v a b:AV} {x y:Operand} {t u:TypeId}
def aL.move(h:aV E x=some v)(j:aL P cfg f l (T.set E d (some v)) H Q):aL P cfg f (⟨some d,.move x,none⟩::l) E H Q:=ja rfl (by simp only[dz,Go.Ab.ret,h]) j
def aL.assign(h:aV E x=some v)(j:aL P cfg f l (T.set E d (some v)) H Q):aL P cfg f (⟨some d,.assign x,none⟩::l) E H Q:=ja rfl (by simp only[dz,Go.Ab.ret,h]) j
def aL.pick{z:Operand}{t:Bool}(h:aV E x=some (.bool t))(h1:aV E y=some a)(h2:aV E z=some b)(j:aL P cfg f l (T.set E d (some (lB t a b))) H Q):aL P cfg f (⟨some d,.pick x y z,none⟩::l) E H Q:=
 ja rfl (by cases t<;>simp only[dz,AY,Go.Ab.ret,h,h1,h2]<;>rfl) j
def aL.load(h:aV E x=some a)(h1:eY P H t a=some v)(j:aL P cfg f l (T.set E d (some v)) H Q):aL P cfg f (⟨some d,.load t x,none⟩::l) E H Q:=ja rfl (by simp only[dz,yg,Go.Ab.ret,h,h1]) j
def aL.store(h:aV E x=some a)(h1:aV E y=some b)(h2:mB P H t a b=some H')(j:aL P cfg f l E H' Q):aL P cfg f (⟨none,.store t x y,none⟩::l) E H Q:=Kg rfl (by simp only[dz,A0,Go.Ab.ret,h,h1,h2];rfl) j
def pR:=@aL.store
def aL.nilCheck{o:Nat}(h:aV E x=some (.ptr r o))(j:aL P cfg f l (T.set E d (some (.ptr r o))) H Q):aL P cfg f (⟨some d,.nilCheck x,none⟩::l) E H Q:=ja rfl (by simp only[dz,A1,h]) j
def aL.bZ{op:BinOp}(h:aV E x=some a)(h1:aV E y=some b)(h2:em P cfg.b7 op t a b=some v)(j:aL P cfg f l (T.set E d (some v)) H Q):aL P cfg f (⟨some d,.binOp op t x y u,none⟩::l) E H Q:=
 ja rfl (by simp only[dz,A2,Go.Ab.ret,h,h1,h2]) j
def aL.un{op:UnOp}(h:aV E x=some a)(h2:tt op a=some v)(j:aL P cfg f l (T.set E d (some v)) H Q):aL P cfg f (⟨some d,.unOp op t x,none⟩::l) E H Q:=ja rfl (by simp only[dz,A3,Go.Ab.ret,h,h2]) j
def aL.convert(h:aV E x=some a)(h2:lP P H t u a=some v)(j:aL P cfg f l (T.set E d (some v)) H Q):aL P cfg f (⟨some d,.convert t u x,none⟩::l) E H Q:=ja rfl (by simp only[dz,yh,Go.Ab.ret,h,h2]) j
def aL.fieldAddr(h:aV E x=some a)(h2:tl P t a i=some v)(j:aL P cfg f l (T.set E d (some v)) H Q):aL P cfg f (⟨some d,.fieldAddr t x i,none⟩::l) E H Q:=ja rfl (by simp only[dz,A5,Go.Ab.ret,h,h2]) j
def Kl:=@aL.fieldAddr
def aL.field(h:aV E x=some a)(h2:uR P t a i=some v)(j:aL P cfg f l (T.set E d (some v)) H Q):aL P cfg f (⟨some d,.field t x i,none⟩::l) E H Q:=ja rfl (by simp only[dz,Ba,Go.Ab.ret,h,h2]) j
def aL.indexAddr(h:aV E x=some a)(h1:aV E y=some b)(h2:ey P t a b=some v)(j:aL P cfg f l (T.set E d (some v)) H Q):aL P cfg f (⟨some d,.indexAddr t x y,none⟩::l) E H Q:=ja rfl (by simp only[dz,Bb,Go.Ab.ret,h,h1,h2]) j
def Km:=@aL.indexAddr
def aL.index(h:aV E x=some a)(h1:aV E y=some b)(h2:pI P t a b=some v)(j:aL P cfg f l (T.set E d (some v)) H Q):aL P cfg f (⟨some d,.index t x y,none⟩::l) E H Q:=ja rfl (by simp only[dz,Bc,Go.Ab.ret,h,h1,h2]) j
def aL.extract(h:aV E x=some a)(h2:Ab.extract a i=some v)(j:aL P cfg f l (T.set E d (some v)) H Q):aL P cfg f (⟨some d,.extract x i,none⟩::l) E H Q:=ja rfl (by simp only[dz,Bf,Go.Ab.ret,h,h2]) j
def aL.alloc{z:qs}{n:Nat}(h:cP P t=some z)(C:some H.next=some n)(j:aL P cfg f l (T.set E d (some (.ptr n 0))) (H.alloc (.cells z 0 true)) Q):aL P cfg f (⟨some d,.alloc t,none⟩::l) E H Q:=by
 simp only[aJ]at C;subst C;exact ja rfl (by simp only[dz,yd,h]) j
def aL.box{n:Nat}(h:aV E x=some a)(V:some a.cells=some cs)(C:some H.next=some n)(j:aL P cfg f l (T.set E d (some (.ptr n 0))) (H.alloc (.cells cs 0 true)) Q):aL P cfg f (⟨some d,.box t x,none⟩::l) E H Q:=by
 simp only[aJ]at V C;subst V C;exact ja rfl (by simp only[dz,ye,h]) j
def aL.build{ps:qJ}(h:lC E O.toList=some ps)(h2:dK P t ps=some v)(j:aL P cfg f l (T.set E d (some v)) H Q):aL P cfg f (⟨some d,.build t O,none⟩::l) E H Q:=ja rfl (by simp only[dz,AZ,Go.Ab.ret,h,h2]) j
def aL.buildSlice{n:Nat}{ps:qJ}(h:lC E O.toList=some ps)(h2:dW P H t n ps=some (v,H'))(j:aL P cfg f l (T.set E d (some v)) H' Q):aL P cfg f (⟨some d,.buildSlice t n O,none⟩::l) E H Q:=
 ja rfl (by simp only[dz,yf,h,h2]) j
def Kn:=@aL.buildSlice
def aL.makeMap{n:Nat}(C:some H.next=some n)(j:aL P cfg f l (T.set E d (some (.map n))) (H.alloc (.map [])) Q):aL P cfg f (⟨some d,.makeMap t none,none⟩::l) E H Q:=by
 simp only[aJ]at C;subst C;exact ja rfl (by simp only[dz,yj]) j
def aL.lookup{ok:Bool}(h:aV E x=some a)(h1:aV E y=some b)(h2:lO P H t a b ok=some v)(j:aL P cfg f l (T.set E d (some v)) H Q):aL P cfg f (⟨some d,.lookup t x y ok,none⟩::l) E H Q:=ja rfl (by simp only[dz,ym,Go.Ab.ret,h,h1,h2]) j
def aL.mapUpdate{z:Operand}{c:AV}(h:aV E x=some a)(h1:aV E y=some b)(h2:aV E z=some c)(m:oP P H t a b c=some H')(j:aL P cfg f l E H' Q):aL P cfg f (⟨none,.mapUpdate t x y z,none⟩::l) E H Q:=
 Kg rfl (by simp only[dz,Be,Go.Ab.ret,h,h1,h2,m];rfl) j
def Ko:=@aL.mapUpdate
def aL.makeFunc{cap:Array Operand}(h:iQ E cap.toList=some vs)(j:aL P cfg f l (T.set E d (some (.bb g vs))) H Q):aL P cfg f (⟨some d,.makeFunc (.func g) #[] cap,none⟩::l) E H Q:=ja rfl (by simp only[dz,A4,h]) j
def aL.slice{O V:qB}(h:aV E x=some a)(h1:kL E lo=some O)(h2:kL E z=some V)(m:oM P H t a O V=some v)(j:aL P cfg f l (T.set E d (some v)) H Q):aL P cfg f (⟨some d,.slice t x lo z none,none⟩::l) E H Q:=
 ja rfl (by simp only[dz,yl,Go.Ab.ret,h,h1,h2,m]) j
def aL.makeSlice(h:aV E x=some a)(h1:aV E y=some b)(h2:j0 P H t a b=some (v,H'))(j:aL P cfg f l (T.set E d (some v)) H' Q):aL P cfg f (⟨some d,.makeSlice t x y,none⟩::l) E H Q:=ja rfl (by simp only[dz,yk,h,h1,h2]) j
def Kp:=@aL.makeSlice
def aL.len{c:AV}(h:aV E x=some a)(h1:ij P H t a=some c)(j:aL P cfg f l (T.set E d (some c)) H Q):aL P cfg f (⟨some d,.call ⟨.builtin .len,#[x],#[t]⟩,none⟩::l) E H Q:=
 BY (c:=⟨.builtin .len,#[x],#[t]⟩) rfl (vs:=[a]) (by simp only[iQ,h]) (by simp only[ru,h1]) j
def aL.append(h:aV E x=some a)(h1:aV E y=some b)(h2:dm P (cfg.keep f) H t u a b=some (v,H'))(j:aL P cfg f l (T.set E d (some v)) H' Q):aL P cfg f (⟨some d,.call ⟨.builtin .append,#[x,y],#[t,u]⟩,none⟩::l) E H Q:=
 BY (c:=⟨.builtin .append,#[x,y],#[t,u]⟩) rfl (vs:=[a,b]) FJ (by simp only[ru,h2]) j
def jr:=@aL.append
end
def jK(E:aB)(d t:Nat)(v:AV):aB.at (T.set E d (some v)) t=bif t == d then v else E.at t:=by
 rw[wZ];by_cases h:t=d
 .simp[h]
 .have:(t == d)=false:=by simpa using h
  rw[af h,this,sy]
def get_set(H:Hp)(d t:Nat)(b:HB):(H.set d b).get t=bif t == d then some b else H.get t:=by
 rw[a1];by_cases h:t=d
 .simp[h]
 .have:(t == d)=false:=by simpa using h
  rw[af h,this,sy]
theorem Ug(E:aB)(t:Nat):aV E (.tmp t)=some (E.at t):=rfl
theorem Uh(E:aB)(k:IntKind)(n:Int):aV E (.const (.int k n))=some (.int k n):=rfl
theorem Ui(E:aB)(b:Bool):aV E (.const (.bool b))=some (.bool b):=rfl
theorem Uj(E:aB)(g:FuncId):aV E (.func g)=some (.bb g []):=rfl
theorem Uk(E:aB)(s:ByteArray):aV E (.const (.string s))=some (.ai s.data.toList):=rfl
section
variable {D:BinOp -> Sx -> Sx -> qF} {t:TypeId} {k:IntKind} {a b:Int} {s u:qw}
def Ul:em P D .add t (.int k a) (.int k b)=some (.int k (k.wrap (a+b))):=pN
def Um:em P D .sub t (.int k a) (.int k b)=some (.int k (k.wrap (a-b))):=pN
def Uo:em P D .mul t (.int k a) (.int k b)=some (.int k (k.wrap (a*b))):=pN
def tL(h:b≠0):em P D .quo t (.int k a) (.int k b)=some (.int k (k.wrap (a.tdiv b))):=by simp[em,tq,jZ,h]
def vr(h:b≠0):em P D .rem t (.int k a) (.int k b)=some (.int k (a.tmod b)):=by simp[em,tq,jZ,h]
def Up:em P D .and t (.int k a) (.int k b)=some (.int k (k.wrap (BitVec.ofInt k.bits a &&& BitVec.ofInt k.bits b).toNat)):=pN
def Uq:em P D .or t (.int k a) (.int k b)=some (.int k (k.wrap (BitVec.ofInt k.bits a |||BitVec.ofInt k.bits b).toNat)):=pN
def Ur:em P D .xor t (.int k a) (.int k b)=some (.int k (k.wrap (BitVec.ofInt k.bits a^^^ BitVec.ofInt k.bits b).toNat)):=pN
theorem Us:em P D .eql t (.int k a) (.int k b)=some (.bool (decide (a=b))):=by simp[em,tq,jZ];rfl
theorem Ut:em P D .neq t (.int k a) (.int k b)=some (.bool (!decide (a=b))):=by simp[em,tq,jZ];rfl
def Uu:em P D .lss t (.int k a) (.int k b)=some (.bool (decide (a<b))):=pN
def Uv:em P D .leq t (.int k a) (.int k b)=some (.bool (decide (a<=b))):=pN
def Uw:em P D .gtr t (.int k a) (.int k b)=some (.bool (decide (b<a))):=pN
def Ux:em P D .geq t (.int k a) (.int k b)=some (.bool (decide (b<=a))):=pN
def Uy:em P D .eql t (.ai s) (.ai u)=some (.bool (decide (s=u))):=by
 simp only[em,yb];by_cases h:s=u<;>simp[h]
def Uz:em P D .neq t (.ai s) (.ai u)=some (.bool (!decide (s=u))):=by
 simp only[em,yb];by_cases h:s=u<;>simp[h]
def UA{x y:Bool}(h:P.underlying t=some .bool):em P D .eql t (.bool x) (.bool y)=some (.bool (x == y)):=by simp[em,AW,tp,yc,h]
theorem UB{x:Bool}:tt .not (.bool x)=some (.bool !x):=rfl
theorem UC:tt .neg (.int k a)=some (.int k (k.wrap (0-a))):=rfl
end
theorem hT(h:i<2^62):IntKind.wrap .i64 ((i:Int)+1)=((i+1:Nat):Int):=by
 rw[yx _ ac];rfl
def Kq{H:Hp}(h:P.underlying t=some (.slice e))(xs:List qs):ij P H t (.ao xs)=some (.int .i64 xs.length):=BS
def y0{H:Hp}(h:P.underlying t=some (.slice e))(r o n z:Nat):ij P H t (.sl r o n z)=some (.int .i64 n):=BS
def BZ{H:Hp}(h:P.underlying t=some (.slice e)):ij P H t .ah=some (.int .i64 0):=BS
def UD{H:Hp}(h:P.underlying t=some .string)(s:qw):ij P H t (.ai s)=some (.int .i64 s.length):=BS
def tM(h:P.underlying t=some (.slice e))(M:bR P e=some s){o n z:Nat}(Z:i<n):ey P t (.sl r o n z) (.int .i64 (i:Int))=some (.ptr r (o+i*s)):=by
 show ey P t (.sl r o n z) (.int .i64 (Int.ofNat i))=_;simp only[ey,h,M,Z,bC]
def y9:TypeDesc->Bool
 | .struct _|.array _ _=>false
 |_=>true
theorem gG{d:TypeDesc}(h:P.underlying t=some d)(hd:y9 d=true)(cs:qs)(o:Nat):cU P t cs o=cs[o]?:=by
 unfold cU;rw[h];cases d<;>simp_all[y9]
def vt{H:Hp}{d:TypeDesc}(h:P.underlying t=some d)(hd:y9 d=true){o:Nat}{imm:Nat}{tip:Bool}(J:H.get r=some (.cells cs imm tip)):eY P H t (.ptr r o)=cs[o]?:=by
 simp only[eY,J,gG h hd]
def B0(z:Nat):Option qs->qB
 |some Y=>if Y.length=z then some (.a8 Y)else none
 |none=>none
theorem UE(z:Nat)(row:qs):B0 z (some row)=if row.length=z then some (.a8 row)else none:=rfl
def B3:Option UInt8->qB
 |some b=>some (.int .u8 b.toNat)
 |none=>none
theorem UF(b:UInt8):B3 (some b)=some (.int .u8 b.toNat):=rfl
def cQ(s:Nat)(cs:qs):qB:=if (cs.take s).length=s then some (.agg (cs.take s))else none
theorem lF{d:TypeDesc}(h:P.underlying t=some d)(hd:y9 d=false)(M:bR P t=some s)(cs:qs)(o:Nat):cU P t cs o=cQ s (cs.drop o):=by
 unfold cU cQ;rw[h];cases d<;>simp_all[y9]
theorem UG(h:P.underlying t=some (.slice e))(M:bR P e=some s)(xs:List qs){n:Int}(C:0<=n)(k:IntKind):ey P t (.ao xs) (.int k n)=B0 s (xs[n.toNat]?):=by
 obtain⟨m,rfl⟩:=kq C;show ey P t (.ao xs) (.int k (Int.ofNat m))=B0 s (xs[m]?);simp only[ey,h,M];cases xs[m]? <;>rfl
def nu(h:P.underlying t=some (.slice e))(M:bR P e=some s)(r o l z:Nat){n:Int}(C:0<=n)(k:IntKind):ey P t (.sl r o l z) (.int k n)=bif decide (n.toNat<l)then some (.ptr r (o+n.toNat*s))else none:=by
 obtain⟨m,rfl⟩:=kq C;show ey P t (.sl r o l z) (.int k (Int.ofNat m))=bif decide (m<l)then some (.ptr r (o+m*s))else none
 simp only[ey,h,M];by_cases O:m<l<;>simp[O]
theorem UH(h:P.underlying t=some .string)(s:qw){n:Int}(C:0<=n)(k:IntKind):pI P t (.ai s) (.int k n)=B3 (s[n.toNat]?):=by
 obtain⟨m,rfl⟩:=kq C;show pI P t (.ai s) (.int k (Int.ofNat m))=B3 (s[m]?);simp only[pI,h];cases s[m]? <;>rfl
def Kr(P:Program)(t:TypeId)(o:Nat):Option HB->qB
 |some (.cells Y _ _)=>cU P t Y o
 |_=>none
theorem UI(t:TypeId)(o:Nat)(cs:qs)(imm:Nat)(tip:Bool):Kr P t o (some (.cells cs imm tip))=cU P t cs o:=rfl
theorem pS(H:Hp)(t:TypeId)(r o:Nat):eY P H t (.ptr r o)=Kr P t o (H.get r):=rfl
theorem UJ(H:Hp)(t:TypeId)(cs:qs):eY P H t (.a8 cs)=cU P t cs 0:=rfl
def B4(H:Hp)(b:HB)(t:Nat):(H.alloc b).get t=bif t == H.next then some b else H.get t:=by
 rw[aQ];by_cases h:t=H.next
 .simp[h]
 .have:(t == H.next)=false:=by simpa using h
  rw[af h,this,sy]
noncomputable def Ks(H:Hp)(r o:Nat)(J:qs):qI->Option HB->Option Hp
 |some s,some (.cells Y L Z)=>if J.length=s/\L<=o/\o+s<=Y.length/\J.all AV.one=true then some (H.set r (.cells (splice Y o J) L Z))else none
 |_,_=>none
theorem B5(H:Hp)(r o:Nat)(J:qs)(s:Nat)(cs:qs)(imm:Nat)(tip:Bool):Ks H r o J (some s) (some (.cells cs imm tip))=if J.length=s/\imm<=o/\o+s<=cs.length/\J.all AV.one=true then some (H.set r (.cells (splice cs o J) imm tip))else none:=rfl
theorem B6(H:Hp)(t:TypeId)(r o:Nat)(v:AV):mB P H t (.ptr r o) v=Ks H r o v.cells (bR P t) (H.get r):=by
 unfold mB;simp only[];cases i:H.get r with
 |none=>cases bR P t<;>rfl
 |some b=>cases b with
  |map g=>cases bR P t<;>rfl
  |cells Y L Z=>cases bR P t with
   |none=>rfl
   |some s=>rfl
theorem Kt(cs:qs)(o:Nat)(I:qs):splice cs o I=cs.take o++I++cs.drop (o+I.length):=rfl
theorem UK(cs:qs):AV.cells (.agg cs)=cs:=rfl
theorem cells_int(k:IntKind)(n:Int):AV.cells (.int k n)=[.int k n]:=rfl
theorem Ku(b:Bool):AV.cells (.bool b)=[.bool b]:=rfl
theorem UL(b:qw):AV.cells (.ai b)=[.ai b]:=rfl
theorem UM(b:List qs):AV.cells (.ao b)=[.ao b]:=rfl
theorem UN(r o l z:Nat):AV.cells (.sl r o l z)=[.sl r o l z]:=rfl
theorem UO:AV.cells .ah=[.ah]:=rfl
theorem UP(r o:Nat):AV.cells (.ptr r o)=[.ptr r o]:=rfl
theorem UQ(r:Nat):AV.cells (.map r)=[.map r]:=rfl
theorem UR(g:Nat)(cap:qs):AV.cells (.bb g cap)=[.bb g cap]:=rfl
theorem US(k:IntKind)(n:Int):AV.one (.int k n)=true:=rfl
theorem UT(b:Bool):AV.one (.bool b)=true:=rfl
theorem UU(b:qw):AV.one (.ai b)=true:=rfl
theorem UV(b:List qs):AV.one (.ao b)=true:=rfl
theorem UW(r o l z:Nat):AV.one (.sl r o l z)=true:=rfl
theorem UX:AV.one .ah=true:=rfl
theorem UY(r o:Nat):AV.one (.ptr r o)=true:=rfl
theorem UZ(r:Nat):AV.one (.map r)=true:=rfl
theorem U0(g:Nat)(cap:qs):AV.one (.bb g cap)=true:=rfl
theorem cm:bY.next=0:=rfl
theorem U1(H:Hp)(t:TypeId)(s:qw)(lo z:qB):oM P H t (.ai s) lo z=jA P t (.ai s) lo z:=rfl
theorem U2(H:Hp)(t:TypeId)(s:List qs)(lo z:qB):oM P H t (.ao s) lo z=jA P t (.ao s) lo z:=rfl
theorem U3(H:Hp)(t:TypeId)(r o n z:Nat)(lo Z:qB):oM P H t (.sl r o n z) lo Z=jA P t (.sl r o n z) lo Z:=rfl
theorem U4(H:Hp)(t:TypeId)(lo z:qB):oM P H t .ah lo z=jA P t .ah lo z:=rfl
def Kv(n k:Nat):(n == n+(k+1))=false:=az
def Kw(n k:Nat):(n+(k+1) == n)=false:=az
def Kx(n a b:Nat):(n+a == n+b)=(a == b):=by
 by_cases h:a=b
 .simp[h]
 .have i:(a == b)=false:=by simpa using h
  rw[i];simp;omega
end
attribute [irreducible] aL cb aY iT
theorem Sx.beq_refl:∀a:Sx,Sx.beq a a=true
 | .var i=>by simp[Sx.beq]
 | .lit n=>by simp[Sx.beq]
 | .bZ o k a b=>by simp[Sx.beq,Sx.beq_refl a,Sx.beq_refl b]
 | .cN k a=>by simp[Sx.beq,Sx.beq_refl a]
mutual
theorem AV.beq_refl:∀a:AV,AV.beq a a=true
 | .int k n=>by simp[AV.beq]
 | .sx k e=>by simp[AV.beq,Sx.beq_refl]
 | .bool b=>by simp[AV.beq]
 | .ai s=>by simp[AV.beq]
 | .bl=>rfl
 | .a7=>rfl
 | .bu=>rfl
 | .ah=>rfl
 | .ptr r o=>by simp[AV.beq]
 | .a8 Y=>by simp only[AV.beq];exact sA Y
 | .sl r o l z=>by simp[AV.beq]
 | .ao U=>by simp only[AV.beq];exact Ky U
 | .map r=>by simp[AV.beq]
 | .bb f Y=>by simp only[AV.beq,sA Y,kW];simp
 | .agg Y=>by simp only[AV.beq];exact sA Y
 | .aS Y=>by simp only[AV.beq];exact sA Y
theorem sA:∀a:qs,lQ a a=true
 |[]=>rfl
 |a::l=>by simp only[lQ,AV.beq_refl a,sA l,kW]
theorem Ky:∀a:List qs,uU a a=true
 |[]=>rfl
 |a::l=>by simp only[uU,sA a,Ky l,kW]
end
def vu(o:Oper):Bool:=su o.op||rA o.op
def B7(o:Oper):Bool:=vu o||(match o.op with|.store ..|.mapUpdate ..=>true |_=>false)
def B8(ops:qx):Bool:=
 rv ops&&(List.range ops.length).all (fun i=>match ops[i]? with|some o=>if Nat.blt (i+1) ops.length then vu o else B7 o|none=>true)&&(oS ops).all (fun p=>Nat.blt p.2 ops.length)
section
variable {P:Program} {cfg:Cfg} {f N:Nat}
theorem FK{ih:zd2->Res}{Z:qx}:∀{l:qx}{E E':aB}{H H':Hp},j6 P cfg ih f N Z l E H=.done .normal E' H'->∃rs,jD P cfg ih f N Z l E H=.done E' H' rs
 |[],E,E',H,H',h=>by
  simp only[j6,Res.done.injEq,nn]at h;obtain⟨rfl,rfl⟩:=h;exact⟨[],rfl⟩
 |o::l,E,E',H,H',h=>by
  rw[yV]at h;simp only[jD];cases L:jC Z E o with
  |true=>
   rw[L]at h;simp only[]at h⊢;cases M:en P cfg ih f E H o.op with
   |val v H1=>
    rw[M]at h;simp only[]at h⊢;cases hp:fE N E o.dst v with
    |none=>rw[hp]at h;simp[kM]at h
    |some E1=>
     rw[hp]at h;simp only[kM]at h;obtain⟨rs,hr⟩:=FK h;exact⟨_,by simp only[oR,hr,oQ];rfl⟩
   |done _ _ _=>rw[M]at h;simp at h
   |aF=>rw[M]at h;simp at h
  |false=>
   rw[L]at h;simp only[]at h⊢;cases hp:fE N E o.dst ed with
   |none=>rw[hp]at h;simp[kM]at h
   |some E1=>
    rw[hp]at h;simp only[kM]at h;obtain⟨rs,hr⟩:=FK h;exact⟨_,by simp only[oR,hr,oQ];rfl⟩
def FL{E:aB}{o:Oper}{H H':Hp}(j:vu o=true)(h:en P cfg ih f E H o.op=.val v H'):H'=H:=by
 unfold vu at j;rw[oZ]at j;rcases j with j|j
 .have C:∀c,o.op≠.call c:=fun c e=>by
   rw[e]at j;simp only[su,gX]at j;split at j
   .rename_i i;split at i<;>simp at i
   .simp at j
  exact(E7 j ((vm C).1 h)).1
 .exact E8 j h
def U5{E:aB}{o:Oper}{H H':Hp}(j:B7 o=true)(h:en P cfg ih f E H o.op=.val v H'):H.next<=H'.next:=by
 unfold B7 at j;rw[oZ]at j;rcases j with j|j
 .rw[FL j h];exact aO _
 .obtain⟨U,Z,I,J,K,guard⟩:=o;simp only[]at j h;cases Z<;>simp only[dC]at j
  case store t a x=>
   simp only[en,dz,A0]at h;split at h
   .split at h
    .rename_i M;simp only[gW,Res.val.injEq]at h;obtain⟨rfl,rfl⟩:=h;unfold mB at M;split at M
     .split at M
      .split at M
       .simp only[aJ]at M;rw[<-M];exact aO _
       .simp at M
      .simp at M
     .simp at M
    .simp[gW]at h
   .simp[gW]at h
  case mapUpdate t m k x=>
   simp only[en,dz,Be]at h;split at h
   .split at h
    .rename_i M;simp only[gW,Res.val.injEq]at h;obtain⟨rfl,rfl⟩:=h;unfold oP at M;split at M
     .split at M
      .split at M
       .split at M
        .simp only[aJ]at M;rw[<-M];exact aO _
        .simp only[aJ]at M;rw[<-M];exact aO _
        .simp at M
       .simp at M
      .simp at M
     .simp at M
    .simp[gW]at h
   .simp[gW]at h
theorem U6{ih':zd2->Res}{f':FuncId}{E:aB}{op:Op}{H:Hp}(j:rA op=true):en P cfg ih f E H op=en P cfg ih' f' E H op:=by
 cases op<;>simp only[rA,gX,dC]at j<;>try rfl
 rename_i c;simp only[en,tw];cases hc:c.callee with
 |value g=>rw[hc]at j;simp at j
 |invoke g m=>rfl
 |builtin b=>
  rw[hc]at j;simp only[];cases b<;>simp only[dC]at j<;>rfl
theorem U7{E E':aB}{H H':Hp}(hp:B8 ops=true)(h:j6 P cfg ih f N ops ops E H=.done .normal E' H'):mY P cfg ih f N ops E H=.done .normal E' H':=by
 unfold B8 at hp;simp only[co,hM,mF]at hp;obtain⟨⟨O,V⟩,U⟩:=hp;obtain⟨rs,hr⟩:=FK h;have Y:=yJ hr;have hlen:=EZ Y;obtain⟨_,z2⟩:=E6 Y;have K:∀(i:Nat) o,ops[i]?=some o->i+1<ops.length->vu o=true:=fun i o I m=>by
  have:=V i ac;rw[I]at this;simp only[show Nat.blt (i+1) ops.length=true by simpa [j8]using m,bC]at this;exact this
 have z:∀i,i+1<=ops.length->cD rs H' i=H:=fun i=>by
  induction i with
  |zero=>intro _;exact z2
  |succ i ih=>
   intro m;have hri:=a0 (show i<rs.length by omega);obtain⟨o,I,j⟩:=vk Y hri;have h1:=ih ac;have h2:cD rs H' (i+1)=cD rs H' i:=by
    cases hd:(rs[i]' ac).did with
    |true=>exact FL (K i o I ac) (j.dr hd)
    |false=>exact(j.no hd).2
   rw[h2,h1]
 unfold mY;rw[O];simp only[hr];have L:uV P cfg (oS ops) rs H'=true:=by
  unfold uV;simp only[co,hM];refine⟨fun r hm=>?_,fun p hpm=>?_⟩
  .obtain⟨i,m⟩:=Fk.1 hm;obtain⟨o,I,j⟩:=vk Y m;have J:i<ops.length:=(eS.1 I).1;rw[j.eH,j.eH'];refine Nat.ble_eq_true_of_le ?_;cases hd:r.did with
   |false=>rw[(j.no hd).2];exact aO _
   |true=>
    by_cases C:i+1<ops.length
    .rw[FL (K i o I C) (j.dr hd)];exact aO _
    .have:=V i J;rw[I]at this;have hb:Nat.blt (i+1) ops.length=false:=by
      cases hx:Nat.blt (i+1) ops.length with
      |false=>rfl
      |true=>exact(C (by simpa [j8]using hx)).elim
     simp only[hb,dC,bH]at this;exact U5 this (j.dr hd)
  .have hm:p.2<ops.length:=by simpa [j8]using U p hpm
   cases hrp:rs[p.1]? with
   |none=>rfl
   |some r=>
    obtain⟨o,I,j⟩:=vk Y hrp;have J:p.1<ops.length:=(eS.1 I).1;simp only[];cases hd:r.did with
    |false=>rfl
    |true=>
     simp only[rB,lZ];have hH:r.H=cD rs H' p.2:=by rw[j.eH,z _ ac,z _ ac]
     unfold zdS;cases Z:gX r.o.op with
     |calm=>rfl
     |cA=>rfl
     |read=>
      simp only[];have M:=j.dr hd;rw[<-j.eE,<-j.eo,<-j.eH,hH]at M;rw[U6 (P:=P) (cfg:=cfg) (f:=f) (ih:=ih) (ih':=fun _=>.aF) (f':=0) (by simp[rA,Z])]at M;rw[M];simp only[AV.beq_refl]
     |make=>
      exfalso;rw[j.eo]at Z;by_cases C:p.1+1<ops.length
      .have:=K _ o I C;unfold vu su rA at this;rw[Z]at this;simp at this
      .have g:=V p.1 J;rw[I]at g;have hb:Nat.blt (p.1+1) ops.length=false:=by
        cases hx:Nat.blt (p.1+1) ops.length with
        |false=>rfl
        |true=>exact(C (by simpa [j8]using hx)).elim
       simp only[hb,dC,bH,B7,vu,su,rA,Z,Bool.or_self,lZ]at g;split at g
       .rename_i M;rw[M]at Z;simp[gX]at Z
       .rename_i M;rw[M]at Z;simp[gX]at Z
       .simp at g
 rw[L]
def cb.bD{id:Nat}{ops:qx}{l:List SOp}{E:aB}{H:Hp}{Q:AX->aB->Hp->Prop}(Z:cfg.bF f id=.text)(V:B8 ops=true)(M:bI N ops ops=some l)
 (h:∀K:aB->Hp->Prop,(∀E' H',Q .normal E' H'->K E' H')->aL P cfg f l E H K):cb P cfg f N (.bD id ops) E H Q:=by
 unfold cb;intro code hc;cases code with
 |region J Y draw=>
  cases draw with
  |false=>simp only[aI,bM]at hc;split at hc<;>simp at hc
  |true=>
   simp only[aI,SC.bD.injEq]at hc;obtain⟨rfl,rfl⟩:=hc;obtain⟨n,E',H',i,g⟩:=aL.run M (h (Q .normal) fun _ _ h=>h);refine⟨_,_,_,dA.bD (n:=n) (r:=.done .normal E' H') ?_ az,g⟩;rw[Z];simp only[j5];exact U7 V i
 |_=>simp[aI]at hc
end
section
variable {P:Program} {H:Hp} {t u e:TypeId} {keep:Bool}
theorem U8{D:BinOp->Sx->Sx->qF}{t:TypeId}{s u:qw}:em P D .leq t (.ai s) (.ai u)=some (.bool (tm s u||s == u)):=rfl
def tN{o n z:Nat}{imm:Nat}{tip:Bool}(J:H.get r=some (.cells cs imm tip))(K:((cs.drop o).take (n*s)).length=n*s):fN H s (.sl r o n z)=some (n,(cs.drop o).take (n*s)):=by
 unfold fN;simp only[J,K,bC]
def FM{k:IntKind}{s:qw}{m:Nat}(U:P.underlying t=some .string)(O:m<=s.length):jA P t (.ai s) none (some (.int k (m:Int)))=some (.ai (s.take m)):=by
 show jA P t (.ai s) none (some (.int k (Int.ofNat m)))=_;simp[jA,U,ig,O]
def Kz{k:IntKind}{s:qw}(U:P.underlying t=some .string)(O:m<=s.length):jA P t (.ai s) (some (.int k (m:Int))) none=some (.ai (s.drop m)):=by
 show jA P t (.ai s) (some (.int k (Int.ofNat m))) none=_;simp only[jA,U,ig];rw[ay ⟨O,aO _⟩];rw[gZ az]
def append_nil{b n:Nat}{z I:qs}{x:AV}(U:P.underlying t=some (.slice e))(M:bR P e=some s)(o:dk P e=some b)(Y:cP P e=some z)(m:iR P u=true)
 (O:fN H s x=some (n+1,I)) (V:I.all AV.one=true) (Z:z.length=s) (h1:(n+1)*b<=dX) (h2:n+1<=dX) :
 dm P keep H t u .ah x=some (.sl H.next 0 (n+1) s,H.alloc (.cells I 0 true)):=by
 simp only[dm,U,M,o,Y,m,O,V,Z,pP,bC,ii,mW,h1,h2]
theorem FN{b n len:Nat}{z I:qs}{x:AV}(U:P.underlying t=some (.slice e))(M:bR P e=some s)(o:dk P e=some b)(O:cP P e=some z)(m:iR P u=true)
 (L:fN H s x=some (n+1,I)) (V:I.all AV.one=true) (Z:z.length=s) (Y:H.get r=some (.cells cs 0 true)) (K:cs.length=len*s) (h1:(len+(n+1))*b<=dX) (h2:len+(n+1)<=dX) :
 dm P false H t u (.sl r 0 len s) x=some (.sl H.next 0 (len+(n+1)) s,(H.aP r).alloc (.cells (cs++I) 0 true)):=by
 have J:ii false H s (.sl r 0 len s)=H:=by
  unfold ii;simp only[Y,bO];have:Nat.blt (len*s) cs.length=false:=by
   cases o:Nat.blt (len*s) cs.length with
   |false=>rfl
   |true=>rw[j8]at o;omega
  simp[this]
 simp only[dm,U,M,o,O,m,L,V,Z,pP,bC,J,mW,Y,h1,h2,bO,K,dN,lU,fF,dC,bH]
end
theorem U9(E:aB):aV E (.const (.slice none 0 0))=some .ah:=rfl
theorem KA(E:aB):aV E (.const (.map none))=some .a7:=rfl
structure Rc where
 op:Op
 did:Bool
 E:aB
 H:Hp
 val:AV
 H':Hp
variable{E:aB}{H H':Hp}{o:List Rc}
section
variable (P:Program) (cfg:Cfg) (f:FuncId)
def eN:List SOp->List Rc->aB->Hp->(List Rc->aB->Hp->Prop)->Prop
 |[],tr,E,H,Q=>Q tr E H
 |o::l,tr,E,H,Q=>match o.g with
  |none=>iT P cfg f o.op E H fun v H'=>eN l (tr++[⟨o.op,true,E,H,v,H'⟩]) (aZ E o.d v) H' Q
  |some (s,b)=>(E.at s=.bool b/\iT P cfg f o.op E H fun v H'=>eN l (tr++[⟨o.op,true,E,H,v,H'⟩]) (aZ E o.d v) H' Q)\/((E.at s=.bool (!b)\/E.at s=ed)/\eN l (tr++[⟨o.op,false,E,H,ed,H⟩]) (aZ E o.d ed) H Q)
def za(o:List Rc)(H':Hp)(m:Nat):Hp:=match o[m]? with
 |some r=>r.H
 |none=>H'
def rE(r:Rc)(H:Hp):Prop:=match gX r.op with
 | .read=>∃Z,en P cfg (fun _=>.aF) 0 r.E H r.op=.val r.val Z
 | .make=>∃b,H.get r.H.next=some b/\r.H'.get r.H.next=some b
 |_=>True
def B9(o:List Rc)(H':Hp)(i m:Nat):Prop:=match o[i]? with
 |some r=>r.did=true->rE P cfg r (za o H' m)
 |none=>True
def sB(need:qM)(o:List Rc)(H':Hp):Prop:=(∀r∈o,r.H.next<=r.H'.next)/\∀p∈need,B9 P cfg o H' p.1 p.2
end
section
variable {P:Program} {cfg:Cfg} {f N:Nat}
def vx(r:Rec):Rc:=⟨r.o.op,r.did,r.E,r.H,r.val,r.H'⟩
def HB.beq_refl(b:HB):HB.beq b b=true:=by
 cases b with
 |cells a i t=>simp[HB.beq,sA]
 |map g=>simp[HB.beq,sA]
theorem eN.run{Z:qx}{Q:List Rc->aB->Hp->Prop}:∀{l:qx}{r:List SOp}{Y:List Rc}{E:aB}{H:Hp},bI N Z l=some r->eN P cfg f r Y E H Q ->
 ∃n E' H' rs,jD P cfg (dM P cfg n) f N Z l E H=.done E' H' rs/\Q (Y++rs.map vx) E' H'
 |[],r,Y,E,H,hs,K=>by
  simp only[bI,aJ]at hs;subst hs;unfold eN at K;exact⟨0,E,H,[],rfl,wU⟩
 |o::l,r,Y,E,H,hs,K=>by
  simp only[bI]at hs;split at hs
  .rename_i d g r' i h2 z;simp only[aJ]at hs;subst hs;obtain⟨dd,w2⟩:=Ke (E:=E) h2;have V:∀k k',k<=k'->dY (dM P cfg k) (dM P cfg k'):=fun k k' hk t ht=>FI hk ht;have M:iT P cfg f o.op E H (fun v H'=>eN P cfg f r' (Y++[⟨o.op,true,E,H,v,H'⟩]) (aZ E d v) H' Q)->jC Z E o=true->∃n E' H' rs,jD P cfg (dM P cfg n) f N Z (o::l) E H=.done E' H' rs/\Q (Y++rs.map vx) E' H':=fun C I=>by
    unfold iT at C;obtain⟨n,v,H1,g1,g2⟩:=C;obtain⟨m,j,O,rs,U,L⟩:=eN.run z g2;refine⟨max n m,j,O,⟨o,true,E,H,v,H1⟩::rs,?_,by simpa [vx]using L⟩;simp only[jD,I];rw[BO (V n (max n m) (BI _ _)) (by rw[g1];simp),g1];simp only[BW i,oR];rw[BQ (V m (max n m) (BJ _ _)) xm,U];rfl
   unfold eN at K;cases J:g with
   |none=>
    rw[J]at K;exact M K (dd J)
   |some sb=>
    obtain⟨s,b⟩:=sb;rw[J]at K;simp only[]at K;rcases K with⟨e,K⟩|⟨e,K⟩
    .exact M K ((w2 s b J).1 e)
    .obtain⟨m,j,O,rs,U,L⟩:=eN.run z K;refine⟨m,j,O,⟨o,false,E,H,ed,H⟩::rs,?_,by simpa [vx]using L⟩;simp only[jD,(w2 s b J).2 e,BW i,oR,U,oQ]
  .simp at hs
theorem Va{need:qM}{rs:List Rec}(h:sB P cfg need (rs.map vx) H'):uV P cfg need rs H'=true:=by
 unfold uV;simp only[co,hM];refine⟨fun r O=>Nat.ble_eq_true_of_le (h.1 _ (nh.2 ⟨r,O,rfl⟩)),fun p hp=>?_⟩;have M:=h.2 p hp;have z:za (rs.map vx) H' p.2=cD rs H' p.2:=by
  unfold za cD;rw[fO];cases rs[p.2]? <;>rfl
 unfold B9 at M;rw[fO,z]at M;cases hr:rs[p.1]? with
 |none=>rfl
 |some r=>
  rw[hr]at M;simp only[jo,vx]at M;simp only[oZ,xg];cases hd:r.did with
  |false=>exact .inl rfl
  |true=>
   right
   have M:=M hd;unfold rE at M;unfold zdS;cases j:gX r.o.op with
   |calm=>rfl
   |cA=>rfl
   |read=>
    rw[j]at M;simp only[]at M⊢;obtain⟨Z,g⟩:=M;rw[g];exact AV.beq_refl _
   |make=>
    rw[j]at M;simp only[]at M⊢;obtain⟨b,i,g⟩:=M;rw[i,g];exact HB.beq_refl b
def KB{id:Nat}{z:qx}{need:qM}
 (Z:∀ih:zd2->Res,j5 P cfg ih f N E H (cfg.bF f id) ops=mY P cfg ih f N z E H) (V:rv z=true) (M:bI N z z=some l) (C:oS z=need)
 (h:∀K:List Rc->aB->Hp->Prop,(∀o E' H',sB P cfg need o H'->Q .normal E' H'->K o E' H')->eN P cfg f l [] E H K):cb P cfg f N (.bD id ops) E H Q:=by
 unfold cb;intro code hc;cases code with
 |region J Y draw=>
  cases draw with
  |false=>simp only[aI,bM]at hc;split at hc<;>simp at hc
  |true=>
   simp only[aI,SC.bD.injEq]at hc;obtain⟨rfl,rfl⟩:=hc;obtain⟨n,E',H',rs,i,g,m⟩:=eN.run M (h (fun o E' H'=>sB P cfg need o H'/\Q .normal E' H') fun _ _ _ h U=>⟨h,U⟩);refine⟨_,_,_,dA.bD (n:=n) (r:=.done .normal E' H') ?_ az,m⟩;rw[Z];unfold mY;rw[V];simp only[i];rw[C,Va BG]
 |_=>simp[aI]at hc
def Vb{id:Nat}{need:qM}(Z:cfg.bF f id=.text)(Y:rv ops=true)(M:bI N ops ops=some l)(C:oS ops=need)
 (h:∀K:List Rc->aB->Hp->Prop,(∀o E' H',sB P cfg need o H'->Q .normal E' H'->K o E' H')->eN P cfg f l [] E H K):cb P cfg f N (.bD id ops) E H Q:=
 KB (fun ih=>by rw[Z];rfl) Y M C h
def KC{id:Nat}{ord:qC}{need:qM}(Z:cfg.bF f id=.b1 ord)(Y:yo ord ops=true)(V:rv (iJ ord ops)=true)(M:bI N (iJ ord ops) (iJ ord ops)=some l)(C:oS (iJ ord ops)=need)
 (h:∀K:List Rc->aB->Hp->Prop,(∀o E' H',sB P cfg need o H'->Q .normal E' H'->K o E' H')->eN P cfg f l [] E H K):cb P cfg f N (.bD id ops) E H Q:=
 KB (fun ih=>by rw[Z];simp only[j5,Y]) V M C h
def eN.nil{Q:List Rc->aB->Hp->Prop}(h:Q o E H):eN P cfg f [] o E H Q:=h
def eN.step{d:Nat}{op:Op}{Q:List Rc->aB->Hp->Prop}
 (h:aL P cfg f [⟨some d,op,none⟩] E H fun E' H'=>eN P cfg f l (o++[⟨op,true,E,H,E'.at d,H'⟩]) E' H' Q):eN P cfg f (⟨some d,op,none⟩::l) o E H Q:=by
 unfold aL at h;simp only[]at h;unfold eN;refine iT.mono (fun v H' K=>?_) h;unfold aL at K;have:(aZ E (some d) v).at d=v:=Kd;rw[this]at K;exact K
def aR:=@eN.step
def bD{op:Op}{Q:List Rc->aB->Hp->Prop}(j:gX op=.cA)
 (h:aL P cfg f [⟨none,op,none⟩] E H fun E' H'=>∀v,eN P cfg f l (o++[⟨op,true,E,H,v,H'⟩]) E' H' Q):eN P cfg f (⟨none,op,none⟩::l) o E H Q:=by
 unfold aL at h;simp only[]at h;unfold eN;refine iT.mono (fun v H' K=>?_) h;unfold aL at K;exact K v
theorem eN.guard{op:Op}{t:Bool}{Q:List Rc->aB->Hp->Prop}(h:E.at s=.bool t)(h1:t=b->eN P cfg f (⟨d,op,none⟩::l) o E H Q)(h2:t=!b->eN P cfg f l (o++[⟨op,false,E,H,ed,H⟩]) (aZ E d ed) H Q):
 eN P cfg f (⟨d,op,some (s,b)⟩::l) o E H Q:=by
 unfold eN;simp only[];by_cases e:t=b
 .left
  refine⟨by rw[h,e],?_⟩;have:=h1 e;unfold eN at this;exact this
 .right
  have J:t=!b:=by cases t<;>cases b<;>simp_all
  exact⟨.inl (by rw[h,J]),h2 J⟩
def Vc{bY:Hp}(h:aV E x=some a)(h1:eY P H t a=some v):rE P cfg ⟨.load t x,true,E,bY,v,I⟩ H:=
 ⟨H,by simp only[en,dz,yg,Go.Ab.ret,h,h1,gW]⟩
def Vd{y:Operand}{ok:Bool}{bY:Hp}{b:AV}(h:aV E x=some a)(h1:aV E y=some b)(h2:lO P H t a b ok=some v):rE P cfg ⟨.lookup t x y ok,true,E,bY,v,I⟩ H:=
 ⟨H,by simp only[en,dz,ym,Go.Ab.ret,h,h1,h2,gW]⟩
def Ve{bY:Hp}(h:aV E x=some a)(h1:ij P H t a=some v):rE P cfg ⟨.call ⟨.builtin .len,#[x],#[t]⟩,true,E,bY,v,I⟩ H:=
 ⟨H,by simp only[en,tw,iQ,h,ru,h1,gW]⟩
def Vf{s:TypeId}{bY:Hp}(h:aV E x=some a)(h1:lP P H s t a=some v):rE P cfg ⟨.convert s t x,true,E,bY,v,I⟩ H:=
 ⟨H,by simp only[en,dz,yh,Go.Ab.ret,h,h1,gW]⟩
def Vg{O V:qB}{bY:Hp}(h:aV E x=some a)(h1:kL E lo=some O)(h2:kL E z=some V)(m:oM P H t a O V=some v):rE P cfg ⟨.slice t x lo z none,true,E,bY,v,I⟩ H:=
 ⟨H,by simp only[en,dz,yl,Go.Ab.ret,h,h1,h2,m,gW]⟩
def Vh{op:Op}{bY:Hp}{b:HB}(j:gX op=.make)(h:H.get bY.next=some b)(h2:I.get bY.next=some b):rE P cfg ⟨op,true,E,bY,v,I⟩ H:=by
 unfold rE;rw[j];exact⟨b,h,h2⟩
def Vi{r:Rc}(h:o[i]?=some r)(M:r.did=true->rE P cfg r (za o H' m)):B9 P cfg o H' i m:=by
 unfold B9;rw[h];exact M
end
section
variable {P:Program} {cfg:Cfg} {f:FuncId} {l:List SOp} {E:aB} {H:Hp} {Q:aB -> Hp -> Prop} {d:Nat} {x y:Operand} {ts:Array TypeId} {k k':IntKind} {a b:Int}
def aL.min2(h:aV E x=some (.int k a))(h1:aV E y=some (.int k' b))(j:aL P cfg f l (T.set E d (some (.int k (min a b)))) H Q):aL P cfg f (⟨some d,.call ⟨.builtin .min,#[x,y],ts⟩,none⟩::l) E H Q:=
 BY (c:=⟨.builtin .min,#[x,y],ts⟩) rfl (vs:=[.int k a,.int k' b]) FJ (v:=.int k (min a b)) (by
  simp only[ru,tu,mm,dC,bH,jq]
  congr 3;omega) j
def aL.max2(h:aV E x=some (.int k a))(h1:aV E y=some (.int k' b))(j:aL P cfg f l (T.set E d (some (.int k (max a b)))) H Q):aL P cfg f (⟨some d,.call ⟨.builtin .max,#[x,y],ts⟩,none⟩::l) E H Q:=
 BY (c:=⟨.builtin .max,#[x,y],ts⟩) rfl (vs:=[.int k a,.int k' b]) FJ (v:=.int k (max a b)) (by
  simp only[ru,tu,mm,bC,jq]
  congr 3;omega) j
end
attribute [irreducible] eN
abbrev cM(l:qt):AV:=.ao (l.map fun s=>[.ai s])
abbrev gh(l:qu):AV:=.ao (l.map fun n=>[.int .i64 n])
inductive Ex where
 |mk (kind:Int) (n:Int) (name:qw) (op:Int) (kids:List Ex)
abbrev qG:=List Ex
def Ex.am:Ex->Int|.mk x _ _ _ _=>x
def Ex.n:Ex->Int|.mk _ x _ _ _=>x
def Ex.name:Ex->qw|.mk _ _ x _ _=>x
def Ex.op:Ex->Int|.mk _ _ _ x _=>x
def Ex.ak:Ex->qG|.mk _ _ _ _ x=>x
mutual
def Ex.cells:Ex->qs
 | .mk mA bK bW g m=>[.int .i64 mA,.int .i64 bK,.ai bW,.int .i64 g,.ao (Ca m)]
def Ca:qG->List qs
 |[]=>[]
 |x::xs=>Ex.cells x::Ca xs
end
theorem KD:∀l:qG,Ca l=l.map Ex.cells
 |[]=>rfl
 |x::xs=>by rw[Ca,KD xs];rfl
def Ex.aA(x:Ex):x.cells=[.int .i64 x.am,.int .i64 x.n,.ai x.name,.int .i64 x.op,.ao (x.ak.map Ex.cells)]:=by
 cases x;simp only[Ex.cells,KD,Ex.am,Ex.n,Ex.name,Ex.op,Ex.ak]
def pT:=@Ex.aA
def Ex.a9(x:Ex):x.cells.length=5:=tJ
def Ex.c0(x:Ex):x.cells[0]?=some (.int .i64 x.am):=tJ
def Ex.c1(x:Ex):x.cells[1]?=some (.int .i64 x.n):=tJ
def Ex.c2(x:Ex):x.cells[2]?=some (.ai x.name):=tJ
def Ex.c3(x:Ex):x.cells[3]?=some (.int .i64 x.op):=tJ
def Ex.c4(x:Ex):x.cells[4]?=some (.ao (x.ak.map Ex.cells)):=tJ
theorem Ex.a2(x:Ex):cQ 5 x.cells=some (.agg x.cells):=by unfold cQ;rw[pT];rfl
def Ex.one(x:Ex):x.cells.all AV.one=true:=tJ
inductive St where
 |mk (kind:Int) (name:qw) (to:qw) (n:Int) (at_:Ex) (value:Ex) (args:qG) (thn:List St) (els:List St)
abbrev qD:=List St
def St.am:St->Int|.mk x _ _ _ _ _ _ _ _=>x
def St.name:St->qw|.mk _ x _ _ _ _ _ _ _=>x
def St.to:St->qw|.mk _ _ x _ _ _ _ _ _=>x
def St.n:St->Int|.mk _ _ _ x _ _ _ _ _=>x
def St.aW:St->Ex|.mk _ _ _ _ x _ _ _ _=>x
def St.value:St->Ex|.mk _ _ _ _ _ x _ _ _=>x
def St.args:St->qG|.mk _ _ _ _ _ _ x _ _=>x
def St.a5:St->qD|.mk _ _ _ _ _ _ _ x _=>x
def St.a6:St->qD|.mk _ _ _ _ _ _ _ _ x=>x
mutual
def St.cells:St->qs
 | .mk mA bK bW g m O V J C=>[.int .i64 mA,.ai bK,.ai bW,.int .i64 g,.int .i64 m.am,.int .i64 m.n,.ai m.name,.int .i64 m.op,.ao (m.ak.map Ex.cells),.int .i64 O.am,.int .i64 O.n,.ai O.name,.int .i64 O.op,.ao (O.ak.map Ex.cells),.ao (V.map Ex.cells),.ao (zb J),.ao (zb C)]
def zb:qD->List qs
 |[]=>[]
 |x::xs=>St.cells x::zb xs
end
theorem KE:∀l:qD,zb l=l.map St.cells
 |[]=>rfl
 |x::xs=>by rw[zb,KE xs];rfl
def St.aA(x:St):x.cells=[.int .i64 x.am,.ai x.name,.ai x.to,.int .i64 x.n,.int .i64 x.aW.am,.int .i64 x.aW.n,.ai x.aW.name,.int .i64 x.aW.op,.ao (x.aW.ak.map Ex.cells),.int .i64 x.value.am,.int .i64 x.value.n,.ai x.value.name,.int .i64 x.value.op,.ao (x.value.ak.map Ex.cells),.ao (x.args.map Ex.cells),.ao (x.a5.map St.cells),.ao (x.a6.map St.cells)]:=by
 cases x;simp only[St.cells,KE,St.am,St.name,St.to,St.n,St.aW,St.value,St.args,St.a5,St.a6]
def vy:=@St.aA
def St.a9(x:St):x.cells.length=17:=kh
def St.c0(x:St):x.cells[0]?=some (.int .i64 x.am):=kh
def St.c1(x:St):x.cells[1]?=some (.ai x.name):=kh
def St.c2(x:St):x.cells[2]?=some (.ai x.to):=kh
def St.c3(x:St):x.cells[3]?=some (.int .i64 x.n):=kh
def St.c4(x:St):x.cells[4]?=some (.int .i64 x.aW.am):=kh
def St.c5(x:St):x.cells[5]?=some (.int .i64 x.aW.n):=kh
def St.c6(x:St):x.cells[6]?=some (.ai x.aW.name):=kh
def St.c7(x:St):x.cells[7]?=some (.int .i64 x.aW.op):=kh
def St.c8(x:St):x.cells[8]?=some (.ao (x.aW.ak.map Ex.cells)):=kh
def St.c9(x:St):x.cells[9]?=some (.int .i64 x.value.am):=kh
def St.c10(x:St):x.cells[10]?=some (.int .i64 x.value.n):=kh
def St.c11(x:St):x.cells[11]?=some (.ai x.value.name):=kh
def St.c12(x:St):x.cells[12]?=some (.int .i64 x.value.op):=kh
def St.c13(x:St):x.cells[13]?=some (.ao (x.value.ak.map Ex.cells)):=kh
def St.c14(x:St):x.cells[14]?=some (.ao (x.args.map Ex.cells)):=kh
def St.c15(x:St):x.cells[15]?=some (.ao (x.a5.map St.cells)):=kh
def St.c16(x:St):x.cells[16]?=some (.ao (x.a6.map St.cells)):=kh
theorem St.a2(x:St):cQ 17 x.cells=some (.agg x.cells):=by unfold cQ;rw[vy];rfl
def St.one(x:St):x.cells.all AV.one=true:=kh
theorem Vj(x:St):cQ 5 (x.cells.drop 4)=some (.agg x.aW.cells):=by unfold cQ;rw[vy,pT];rfl
theorem St.bq(x:St):cQ 5 (x.cells.drop 9)=some (.agg x.value.cells):=by unfold cQ;rw[vy,pT];rfl
structure Fu where
 name:qw
 params:qt
 aj:qt
 body:qD
 value:Ex
abbrev qN:=List Fu
def Fu.cells(x:Fu):qs:=[.ai x.name,cM x.params,cM x.aj,.ao (x.body.map St.cells),.int .i64 x.value.am,.int .i64 x.value.n,.ai x.value.name,.int .i64 x.value.op,.ao (x.value.ak.map Ex.cells)]
theorem Fu.aA(x:Fu):x.cells=[.ai x.name,cM x.params,cM x.aj,.ao (x.body.map St.cells),.int .i64 x.value.am,.int .i64 x.value.n,.ai x.value.name,.int .i64 x.value.op,.ao (x.value.ak.map Ex.cells)]:=rfl
def zd:=@Fu.aA
def Fu.a9(x:Fu):x.cells.length=9:=pO
def Fu.c0(x:Fu):x.cells[0]?=some (.ai x.name):=pO
def Fu.c1(x:Fu):x.cells[1]?=some (cM x.params):=pO
def Fu.c2(x:Fu):x.cells[2]?=some (cM x.aj):=pO
def Fu.c3(x:Fu):x.cells[3]?=some (.ao (x.body.map St.cells)):=pO
def Fu.c4(x:Fu):x.cells[4]?=some (.int .i64 x.value.am):=pO
def Fu.c5(x:Fu):x.cells[5]?=some (.int .i64 x.value.n):=pO
def Fu.c6(x:Fu):x.cells[6]?=some (.ai x.value.name):=pO
def Fu.c7(x:Fu):x.cells[7]?=some (.int .i64 x.value.op):=pO
def Fu.c8(x:Fu):x.cells[8]?=some (.ao (x.value.ak.map Ex.cells)):=pO
theorem Fu.a2(x:Fu):cQ 9 x.cells=some (.agg x.cells):=by unfold cQ;rw[zd];rfl
def Fu.one(x:Fu):x.cells.all AV.one=true:=pO
theorem Fu.bq(x:Fu):cQ 5 (x.cells.drop 4)=some (.agg x.value.cells):=by unfold cQ;rw[zd,pT];rfl
structure Ar where
 name:qw
 len:Int
abbrev qP:=List Ar
def Ar.cells(x:Ar):qs:=[.ai x.name,.int .i64 x.len]
theorem Ar.aA(x:Ar):x.cells=[.ai x.name,.int .i64 x.len]:=rfl
def Ar.a9(x:Ar):x.cells.length=2:=BT
def Ar.c0(x:Ar):x.cells[0]?=some (.ai x.name):=BT
def Ar.c1(x:Ar):x.cells[1]?=some (.int .i64 x.len):=BT
theorem Ar.a2(x:Ar):cQ 2 x.cells=some (.agg x.cells):=by unfold cQ;rw[Ar.aA];rfl
def Ar.one(x:Ar):x.cells.all AV.one=true:=BT
structure Pr where
 aa:qP
 funcs:qN
def Pr.cells(x:Pr):qs:=[.ao (x.aa.map Ar.cells),.ao (x.funcs.map Fu.cells)]
theorem Pr.aA(x:Pr):x.cells=[.ao (x.aa.map Ar.cells),.ao (x.funcs.map Fu.cells)]:=rfl
def Pr.a9(x:Pr):x.cells.length=2:=BU
def Pr.c0(x:Pr):x.cells[0]?=some (.ao (x.aa.map Ar.cells)):=BU
def Pr.c1(x:Pr):x.cells[1]?=some (.ao (x.funcs.map Fu.cells)):=BU
theorem Pr.a2(x:Pr):cQ 2 x.cells=some (.agg x.cells):=by unfold cQ;rw[Pr.aA];rfl
def Pr.one(x:Pr):x.cells.all AV.one=true:=BU
structure Tk where
 am:Int
 text:qw
 aW:Int
def Tk.cells(x:Tk):qs:=[.int .i64 x.am,.ai x.text,.int .i64 x.aW]
theorem Tk.aA(x:Tk):x.cells=[.int .i64 x.am,.ai x.text,.int .i64 x.aW]:=rfl
def Tk.a9(x:Tk):x.cells.length=3:=yW
def Tk.c0(x:Tk):x.cells[0]?=some (.int .i64 x.am):=yW
def Tk.c1(x:Tk):x.cells[1]?=some (.ai x.text):=yW
def Tk.c2(x:Tk):x.cells[2]?=some (.int .i64 x.aW):=yW
theorem Tk.a2(x:Tk):cQ 3 x.cells=some (.agg x.cells):=by unfold cQ;rw[Tk.aA];rfl
def Tk.one(x:Tk):x.cells.all AV.one=true:=yW
structure Nd where
 op:Int
 au:Int
 ak:qu
abbrev qy:=List Nd
def Nd.cells(x:Nd):qs:=[.int .i64 x.op,.int .i64 x.au,gh x.ak]
theorem Nd.aA(x:Nd):x.cells=[.int .i64 x.op,.int .i64 x.au,gh x.ak]:=rfl
def Nd.a9(x:Nd):x.cells.length=3:=yX
def Nd.c0(x:Nd):x.cells[0]?=some (.int .i64 x.op):=yX
def Nd.c1(x:Nd):x.cells[1]?=some (.int .i64 x.au):=yX
def Nd.c2(x:Nd):x.cells[2]?=some (gh x.ak):=yX
theorem Nd.a2(x:Nd):cQ 3 x.cells=some (.agg x.cells):=by unfold cQ;rw[Nd.aA];rfl
def Nd.one(x:Nd):x.cells.all AV.one=true:=yX
structure Gr where
 name:qw
 params:Int
 ag:qy
 value:Int
 ab:Int
def Gr.cells(x:Gr):qs:=[.ai x.name,.int .i64 x.params,.ao (x.ag.map Nd.cells),.int .i64 x.value,.int .i64 x.ab]
theorem Gr.aA(x:Gr):x.cells=[.ai x.name,.int .i64 x.params,.ao (x.ag.map Nd.cells),.int .i64 x.value,.int .i64 x.ab]:=rfl
def Gr.a9(x:Gr):x.cells.length=5:=vp
def Gr.c0(x:Gr):x.cells[0]?=some (.ai x.name):=vp
def Gr.c1(x:Gr):x.cells[1]?=some (.int .i64 x.params):=vp
def Gr.c2(x:Gr):x.cells[2]?=some (.ao (x.ag.map Nd.cells)):=vp
def Gr.c3(x:Gr):x.cells[3]?=some (.int .i64 x.value):=vp
def Gr.c4(x:Gr):x.cells[4]?=some (.int .i64 x.ab):=vp
theorem Gr.a2(x:Gr):cQ 5 x.cells=some (.agg x.cells):=by unfold cQ;rw[Gr.aA];rfl
def Gr.one(x:Gr):x.cells.all AV.one=true:=vp
structure Un where
 aa:qP
 funcs:List Gr
def Un.cells(x:Un):qs:=[.ao (x.aa.map Ar.cells),.ao (x.funcs.map Gr.cells)]
theorem Un.aA(x:Un):x.cells=[.ao (x.aa.map Ar.cells),.ao (x.funcs.map Gr.cells)]:=rfl
def Un.a9(x:Un):x.cells.length=2:=BV
def Un.c0(x:Un):x.cells[0]?=some (.ao (x.aa.map Ar.cells)):=BV
def Un.c1(x:Un):x.cells[1]?=some (.ao (x.funcs.map Gr.cells)):=BV
theorem Un.a2(x:Un):cQ 2 x.cells=some (.agg x.cells):=by unfold cQ;rw[Un.aA];rfl
def Un.one(x:Un):x.cells.all AV.one=true:=BV
end Go.Ab
namespace Go.Proofs.Ytbflaciihaijgaa
set_option maxRecDepth 20000
open Go Go.Ab Proofs.Try
variable{t:Nat}
def fit:Fit prog:=Fit.of aG
def pls:List (Nat×Nat×zd9):=[(36,14,(.b1 [0,1,2,4,5,7,9,3,6,8,10])),
 (73,23,(.b1 [0,1,2,3,4,5,6,7,9,10,11,12,13,14,8,15,16,17,18,19])),
 (73,24,(.b1 [0,1,2,3,4,5,6,8,9,10,11,12,13,7,14,15,16])),
 (133,23,(.b1 [0,2,3,4,5,6,7,1,8,9]))]
def aF:=ad @U9 (ad @List.toList_toArray.{0} (ad @cm (ad @sq (ad @ng (ad @rB (ad @oh (ad @List.length_map.{0,0} (ad @Int.natCast_zero (ad @Ug (ad @Uh (ad @Ui (ad @Uj (ad @Uk (ad @jK (ad @cond_true.{1} (ad @cond_false.{1} (@bO)))))))))))))))))
def aW:=ad @Ex.a9 (ad @Ex.c0 (ad @Ex.c1 (ad @Ex.c2 (ad @Ex.c3 (ad @Ex.c4 (ad @Ex.a2 (ad @Ex.one (ad @St.a9 (ad @St.c0 (ad @St.c1 (ad @St.c2 (ad @St.c3 (ad @St.c4 (ad @St.c5 (ad @St.c6 (ad @St.c7 (ad @St.c8 (ad @St.c9 (ad @St.c10 (ad @St.c11 (ad @St.c12 (ad @St.c13 (ad @St.c14 (ad @St.c15 (ad @St.c16 (ad @St.a2 (ad @St.one (ad @Vj (ad @St.bq (ad @Fu.a9 (ad @Fu.c0 (ad @Fu.c1 (ad @Fu.c2 (ad @Fu.c3 (ad @Fu.c4 (ad @Fu.c5 (ad @Fu.c6 (ad @Fu.c7 (ad @Fu.c8 (ad @Fu.a2 (ad @Fu.one (ad @Fu.bq (ad @Ar.a9 (ad @Ar.c0 (ad @Ar.c1 (ad @Ar.a2 (ad @Ar.one (ad @Pr.a9 (ad @Pr.c0 (ad @Pr.c1 (ad @Pr.a2 (ad @Pr.one (ad @Tk.a9 (ad @Tk.c0 (ad @Tk.c1 (ad @Tk.c2 (ad @Tk.a2 (ad @Tk.one (ad @Nd.a9 (ad @Nd.c0 (ad @Nd.c1 (ad @Nd.c2 (ad @Nd.a2 (ad @Nd.one (ad @Gr.a9 (ad @Gr.c0 (ad @Gr.c1 (ad @Gr.c2 (ad @Gr.c3 (ad @Gr.c4 (ad @Gr.a2 (ad @Gr.one (ad @Un.a9 (ad @Un.c0 (ad @Un.c1 (ad @Un.a2 (ad @Un.one (ad @U1 (ad @U2 (ad @U3 (ad @U4 (ad @List.getElem?_drop.{0} (ad @tF (ad @if_true.{1} (ad @B6 (ad @B5 (ad @Kt (ad @UK (ad @cells_int (ad @Ku (ad @UL (ad @UM (ad @UN (ad @UO (ad @UP (ad @UQ (ad @UR (ad @US (ad @UT (ad @UU (ad @UV (ad @UW (ad @UX (ad @UY (ad @UZ (ad @U0 (ad @List.all_cons.{0} (ad @List.all_nil.{0} (ad @kW (ad @fT (ad @aU (ad @nn (ad @dN (ad @aO (ad @List.nil_append.{0} (ad @List.append_nil.{0} (ad @List.cons_append.{0} (ad @bj (ad @bE (ad @cm (ad @beq_self_eq_true.{0} (ad @Kv (ad @Kw (ad @Kx (ad @kO (ad @List.getElem?_map.{0,0} (ad @Option.map_some.{0,0} (ad @pS (ad @UJ (ad @UI (ad @UE (ad @UF (ad @get_set (ad @B4 (ad @List.getElem?_cons_succ.{0} (ad @List.getElem?_cons_zero.{0} (ad @List.drop_succ_cons.{0} (ad @List.drop_zero.{0} (ad @List.take_succ_cons.{0} (ad @List.take_zero.{0} (ad @List.length_cons.{0} (ad @List.length_nil.{0} (ad @Int.natCast_nonneg (ad @iK (ad @Ul (ad @Um (ad @Uo (ad @Up (ad @Uq (ad @Ur (ad @Us (ad @Ut (ad @Uu (ad @Uv (ad @Uw (ad @Ux (ad @Uy (ad @Uz (ad @UB (@UC))))))))))))))))))))))))))))))))))))))))))))))))))))))))))))))))))))))))))))))))))))))))))))))))))))))))))))))))))))))))))))))))))))))))))))))))))))))))))))))))
structure zd0 (cfg:Cfg) (f:FuncId):Prop where
 call:∀args,cfg.call f args=none
 aD:cfg.aD f=false
 aq:cfg.aq f=false
abbrev cE(t i k u:Nat):Prop:=(∀r o:Nat,tl prog t (.ptr r o) i=some (.ptr r (o+k)))/\(∀Y:qs,tl prog t (.a8 Y) i=some (.a8 (Y.drop k)))/\∀Y:qs,uR prog t (.agg Y) i=cU prog u Y k
def cH{i k u:Nat}(h:cE t i k u:=by exact⟨fun _ _=>aG,fun _=>aG,fun _=>aG⟩):cE t i k u:=h
abbrev ny(t s:Nat):Prop:=∀(r o l z:Nat) {n:Int} (_:0<=n) (k:IntKind),ey prog t (.sl r o l z) (.int k n)=bif decide (n.toNat<l)then some (.ptr r (o+n.toNat*s))else none
abbrev mH(t s:Nat):Prop:=(∀(U:List qs) {n:Int} (_:0<=n) (k:IntKind),ey prog t (.ao U) (.int k n)=B0 s (U[n.toNat]?))/\(∀(H:Hp) (U:List qs),ij prog H t (.ao U)=some (.int .i64 U.length))/\(∀(H:Hp) (r o n z:Nat),ij prog H t (.sl r o n z)=some (.int .i64 n))/\∀H:Hp,ij prog H t .ah=some (.int .i64 0)
def nA{e s:Nat}(h:prog.underlying t=some (.slice e))(M:bR prog e=some s):mH t s:=⟨fun U _ C k=>UG h M U C k,fun _ U=>Kq h U,fun _ r o n z=>y0 h r o n z,fun _=>BZ h⟩
def Vk:bR prog 2=some 1:=aG
def Vl:dk prog 2=some 8:=aG
def Vm(cs:qs)(o:Nat):cU prog 2 cs o=cs[o]?:=gG underlying2 rfl cs o
def Vn:cP prog 2=some [(.int .i64 0)]:=aG
def ez:=ad @Vk (ad @Vm (ad @Vl (@Vn)))
def jL:bR prog 3=some 1:=aG
def o7:dk prog 3=some 8:=aG
def Vo(cs:qs)(o:Nat):cU prog 3 cs o=cs[o]?:=gG underlying3 rfl cs o
def pd:cP prog 3=some [(.int .i64 0)]:=aG
def cR:=ad @jL (ad @Vo (ad @o7 (@pd)))
def Cb:bR prog 4=some 1:=aG
def KF:dk prog 4=some 1:=aG
def Vp(cs:qs)(o:Nat):cU prog 4 cs o=cs[o]?:=gG underlying4 rfl cs o
def KG:cP prog 4=some [(.bool false)]:=aG
def vz:=ad @Cb (ad @Vp (ad @KF (@KG)))
def FO:bR prog 5=some 1:=aG
def FP:dk prog 5=some 1:=aG
def Vq(cs:qs)(o:Nat):cU prog 5 cs o=cs[o]?:=gG underlying5 rfl cs o
def FQ:cP prog 5=some [(.int .u8 0)]:=aG
def Cc:=ad @FO (ad @Vq (ad @FP (@FQ)))
def vA:bR prog 9=some 1:=aG
def xo:dk prog 9=some 16:=aG
def FR(cs:qs)(o:Nat):cU prog 9 cs o=cs[o]?:=gG underlying9 rfl cs o
def xp:cP prog 9=some [(.ai [])]:=aG
def Vr(H:Hp)(s:qw):ij prog H 9 (.ai s)=some (.int .i64 s.length):=UD underlying9 s
def Vs(s:qw){n:Int}(C:0<=n)(k:IntKind):pI prog 9 (.ai s) (.int k n)=B3 (s[n.toNat]?):=UH underlying9 s C k
def dt:=ad @vA (ad @FR (ad @xo (ad @xp (ad @Vr (@Vs)))))
def Vt:bR prog 22=some 1:=aG
def Vu:dk prog 22=some 24:=aG
def Vv(cs:qs)(o:Nat):cU prog 22 cs o=cs[o]?:=gG underlying22 rfl cs o
def Vw:cP prog 22=some [.ah]:=aG
def KH:ny 22 1:=fun r o l z _ C k=>nu underlying22 (show bR prog 3=some 1 from by kernel_rfl) r o l z C k
def Vx:mH 22 1:=nA underlying22 (show bR prog 3=some 1 from by kernel_rfl)
def fP:=ad @Vt (ad @Vv (ad @Vu (ad @Vw (ad @KH (@Vx)))))
def Vy:bR prog 23=some 1:=aG
def Vz:dk prog 23=some 24:=aG
def VA(cs:qs)(o:Nat):cU prog 23 cs o=cs[o]?:=gG underlying23 rfl cs o
def VB:cP prog 23=some [.ah]:=aG
def VC:ny 23 2:=fun r o l z _ C k=>nu underlying23 (show bR prog 71=some 2 from by kernel_rfl) r o l z C k
def VD:mH 23 2:=nA underlying23 (show bR prog 71=some 2 from by kernel_rfl)
def gH:=ad @Vy (ad @VA (ad @Vz (ad @VB (ad @VC (@VD)))))
def VE:bR prog 24=some 1:=aG
def VF:dk prog 24=some 24:=aG
def VG(cs:qs)(o:Nat):cU prog 24 cs o=cs[o]?:=gG underlying24 rfl cs o
def VH:cP prog 24=some [.ah]:=aG
def VI:ny 24 5:=fun r o l z _ C k=>nu underlying24 (show bR prog 32=some 5 from by kernel_rfl) r o l z C k
def VJ:mH 24 5:=nA underlying24 (show bR prog 32=some 5 from by kernel_rfl)
def sC:=ad @VE (ad @VG (ad @VF (ad @VH (ad @VI (@VJ)))))
def KI:bR prog 26=some 2:=aG
def VK:dk prog 26=some 48:=aG
def VL(cs:qs)(o:Nat):cU prog 26 cs o=cQ 2 (cs.drop o):=lF underlying26 rfl KI cs o
def VM:cP prog 26=some [.ah,.ah]:=aG
def VN:cE 26 0 0 23/\cE 26 1 1 24:=⟨cH,cH⟩
def sD:=ad @KI (ad @VL (ad @VK (ad @VM (@VN))))
def VO:bR prog 30=some 1:=aG
def VP:dk prog 30=some 24:=aG
def VQ(cs:qs)(o:Nat):cU prog 30 cs o=cs[o]?:=gG underlying30 rfl cs o
def VS:cP prog 30=some [.ah]:=aG
def VT:ny 30 3:=fun r o l z _ C k=>nu underlying30 (show bR prog 35=some 3 from by kernel_rfl) r o l z C k
def VU:mH 30 3:=nA underlying30 (show bR prog 35=some 3 from by kernel_rfl)
def iU:=ad @VO (ad @VQ (ad @VP (ad @VS (ad @VT (@VU)))))
def Cd:bR prog 32=some 5:=aG
def FT:dk prog 32=some 64:=aG
def VV(cs:qs)(o:Nat):cU prog 32 cs o=cQ 5 (cs.drop o):=lF underlying32 rfl Cd cs o
def FU:cP prog 32=some [(.ai []),(.int .i64 0),.ah,(.int .i64 0),(.int .i64 0)]:=aG
def VW:cE 32 0 0 9/\cE 32 1 1 3/\cE 32 2 2 30/\cE 32 3 3 3/\cE 32 4 4 3:=⟨cH,cH,cH,cH,cH⟩
def vB:=ad @Cd (ad @VV (ad @FT (ad @FU (@VW))))
def ze:bR prog 35=some 3:=aG
def FV:dk prog 35=some 40:=aG
def VX(cs:qs)(o:Nat):cU prog 35 cs o=cQ 3 (cs.drop o):=lF underlying35 rfl ze cs o
def FW:cP prog 35=some [(.int .i64 0),(.int .i64 0),.ah]:=aG
def VY:cE 35 0 0 3/\cE 35 1 1 2/\cE 35 2 2 22:=⟨cH,cH,cH⟩
def ol:=ad @ze (ad @VX (ad @FV (ad @FW (@VY))))
def VZ:bR prog 38=some 1:=aG
def V0:dk prog 38=some 24:=aG
def V3(cs:qs)(o:Nat):cU prog 38 cs o=cs[o]?:=gG underlying38 rfl cs o
def V4:cP prog 38=some [.ah]:=aG
def V7:ny 38 1:=fun r o l z _ C k=>nu underlying38 (show bR prog 5=some 1 from by kernel_rfl) r o l z C k
def V8:mH 38 1:=nA underlying38 (show bR prog 5=some 1 from by kernel_rfl)
def V9:=ad @VZ (ad @V3 (ad @V0 (ad @V4 (ad @V7 (@V8)))))
def Wa:bR prog 39=some 1:=aG
def Wb:dk prog 39=some 24:=aG
def Wc(cs:qs)(o:Nat):cU prog 39 cs o=cs[o]?:=gG underlying39 rfl cs o
def Wd:cP prog 39=some [.ah]:=aG
def We:ny 39 9:=fun r o l z _ C k=>nu underlying39 (show bR prog 63=some 9 from by kernel_rfl) r o l z C k
def Wf:mH 39 9:=nA underlying39 (show bR prog 63=some 9 from by kernel_rfl)
def iV:=ad @Wa (ad @Wc (ad @Wb (ad @Wd (ad @We (@Wf)))))
def KJ:bR prog 41=some 2:=aG
def Wg:dk prog 41=some 48:=aG
def Wh(cs:qs)(o:Nat):cU prog 41 cs o=cQ 2 (cs.drop o):=lF underlying41 rfl KJ cs o
def Wi:cP prog 41=some [.ah,.ah]:=aG
def Wk:cE 41 0 0 23/\cE 41 1 1 39:=⟨cH,cH⟩
def gO:=ad @KJ (ad @Wh (ad @Wg (ad @Wi (@Wk))))
def Wl:bR prog 42=some 1:=aG
def Wm:dk prog 42=some 8:=aG
def Wn(cs:qs)(o:Nat):cU prog 42 cs o=cs[o]?:=gG underlying42 rfl cs o
def Wo:cP prog 42=some [(.int .i64 0)]:=aG
def tO:=ad @Wl (ad @Wn (ad @Wm (@Wo)))
def KK:bR prog 44=some 2:=aG
def Wp:dk prog 44=some 16:=aG
def Wq(cs:qs)(o:Nat):cU prog 44 cs o=cQ 2 (cs.drop o):=lF underlying44 rfl KK cs o
def Wr:cP prog 44=some [(.int .i64 0),(.int .i64 0)]:=aG
def Ws:cE 44 0 0 42/\cE 44 1 1 3:=⟨cH,cH⟩
def FX:=ad @KK (ad @Wq (ad @Wp (ad @Wr (@Ws))))
def Wt:bR prog 50=some 1:=aG
def Wu:dk prog 50=some 24:=aG
def Wv(cs:qs)(o:Nat):cU prog 50 cs o=cs[o]?:=gG underlying50 rfl cs o
def Ww:cP prog 50=some [.ah]:=aG
def Wx:ny 50 1:=fun r o l z _ C k=>nu underlying50 (show bR prog 2=some 1 from by kernel_rfl) r o l z C k
def Wy:mH 50 1:=nA underlying50 (show bR prog 2=some 1 from by kernel_rfl)
def Wz:=ad @Wt (ad @Wv (ad @Wu (ad @Ww (ad @Wx (@Wy)))))
def WA:bR prog 57=some 1:=aG
def WB:dk prog 57=some 24:=aG
def WC(cs:qs)(o:Nat):cU prog 57 cs o=cs[o]?:=gG underlying57 rfl cs o
def WD:cP prog 57=some [.ah]:=aG
def WE:ny 57 5:=fun r o l z _ C k=>nu underlying57 (show bR prog 59=some 5 from by kernel_rfl) r o l z C k
def WF:mH 57 5:=nA underlying57 (show bR prog 59=some 5 from by kernel_rfl)
def fb:=ad @WA (ad @WC (ad @WB (ad @WD (ad @WE (@WF)))))
def FY:bR prog 59=some 5:=aG
def KL:dk prog 59=some 64:=aG
def WG(cs:qs)(o:Nat):cU prog 59 cs o=cQ 5 (cs.drop o):=lF underlying59 rfl FY cs o
def KM:cP prog 59=some [(.int .i64 0),(.int .i64 0),(.ai []),(.int .i64 0),.ah]:=aG
def WH:cE 59 0 0 3/\cE 59 1 1 2/\cE 59 2 2 9/\cE 59 3 3 3/\cE 59 4 4 57:=⟨cH,cH,cH,cH,cH⟩
def eA:=ad @FY (ad @WG (ad @KL (ad @KM (@WH))))
def WI:bR prog 60=some 1:=aG
def WJ:dk prog 60=some 24:=aG
def WK(cs:qs)(o:Nat):cU prog 60 cs o=cs[o]?:=gG underlying60 rfl cs o
def WL:cP prog 60=some [.ah]:=aG
def KN:ny 60 1:=fun r o l z _ C k=>nu underlying60 (show bR prog 9=some 1 from by kernel_rfl) r o l z C k
def WM:mH 60 1:=nA underlying60 (show bR prog 9=some 1 from by kernel_rfl)
def ft:=ad @WI (ad @WK (ad @WJ (ad @WL (ad @KN (@WM)))))
def WN:bR prog 61=some 1:=aG
def WO:dk prog 61=some 24:=aG
def WP(cs:qs)(o:Nat):cU prog 61 cs o=cs[o]?:=gG underlying61 rfl cs o
def WQ:cP prog 61=some [.ah]:=aG
def WR:ny 61 17:=fun r o l z _ C k=>nu underlying61 (show bR prog 124=some 17 from by kernel_rfl) r o l z C k
def WS:mH 61 17:=nA underlying61 (show bR prog 124=some 17 from by kernel_rfl)
def fc:=ad @WN (ad @WP (ad @WO (ad @WQ (ad @WR (@WS)))))
def FZ:bR prog 63=some 9:=aG
def KO:dk prog 63=some 152:=aG
def WT(cs:qs)(o:Nat):cU prog 63 cs o=cQ 9 (cs.drop o):=lF underlying63 rfl FZ cs o
def KP:cP prog 63=some [(.ai []),.ah,.ah,.ah,(.int .i64 0),(.int .i64 0),(.ai []),(.int .i64 0),.ah]:=aG
def WU:cE 63 0 0 9/\cE 63 1 1 60/\cE 63 2 2 60/\cE 63 3 3 61/\cE 63 4 4 59:=⟨cH,cH,cH,cH,cH⟩
def l8:=ad @FZ (ad @WT (ad @KO (ad @KP (@WU))))
def zf:bR prog 71=some 2:=aG
def Ce:dk prog 71=some 24:=aG
def WV(cs:qs)(o:Nat):cU prog 71 cs o=cQ 2 (cs.drop o):=lF underlying71 rfl zf cs o
def Cf:cP prog 71=some [(.ai []),(.int .i64 0)]:=aG
def WW:cE 71 0 0 9/\cE 71 1 1 3:=⟨cH,cH⟩
def l9:=ad @zf (ad @WV (ad @Ce (ad @Cf (@WW))))
def WX:bR prog 72=some 1:=aG
def WY:dk prog 72=some 24:=aG
def WZ(cs:qs)(o:Nat):cU prog 72 cs o=cs[o]?:=gG underlying72 rfl cs o
def W0:cP prog 72=some [.ah]:=aG
def W1:ny 72 3:=fun r o l z _ C k=>nu underlying72 (show bR prog 116=some 3 from by kernel_rfl) r o l z C k
def W9:mH 72 3:=nA underlying72 (show bR prog 116=some 3 from by kernel_rfl)
def F0:=ad @WX (ad @WZ (ad @WY (ad @W0 (ad @W1 (@W9)))))
def Xa:bR prog 83=some 1:=aG
def Xb:dk prog 83=some 8:=aG
def Xc(cs:qs)(o:Nat):cU prog 83 cs o=cs[o]?:=gG underlying83 rfl cs o
def Xd:cP prog 83=some [.a7]:=aG
def xq:=ad @Xa (ad @Xc (ad @Xb (@Xd)))
def KQ:bR prog 86=some 10:=aG
def Xe:dk prog 86=some 144:=aG
def Xf(cs:qs)(o:Nat):cU prog 86 cs o=cQ 10 (cs.drop o):=lF underlying86 rfl KQ cs o
def Xg:cP prog 86=some [.ah,.ah,.a7,.a7,.ah,.a7,.a7,.ah,(.int .i64 0),(.int .i64 0)]:=aG
def Xh:cE 86 0 0 41/\cE 86 1 2 83/\cE 86 2 3 83/\cE 86 3 4 30/\cE 86 4 5 83/\cE 86 5 6 83/\cE 86 6 7 22/\cE 86 7 8 3/\cE 86 8 9 3:=⟨cH,cH,cH,cH,cH,cH,cH,cH,cH⟩
def Cg:=ad @KQ (ad @Xf (ad @Xe (ad @Xg (@Xh))))
def KR:bR prog 98=some 7:=aG
def Xi:dk prog 98=some 136:=aG
def Xj(cs:qs)(o:Nat):cU prog 98 cs o=cQ 7 (cs.drop o):=lF underlying98 rfl KR cs o
def Xk:cP prog 98=some [.ah,.ah,.ah,.ah,.ah,(.int .i64 0),(.int .i64 0)]:=aG
def Xl:cE 98 0 0 41/\cE 98 1 2 30/\cE 98 2 3 60/\cE 98 3 4 22/\cE 98 4 5 3/\cE 98 5 6 3:=⟨cH,cH,cH,cH,cH,cH⟩
def rF:=ad @KR (ad @Xj (ad @Xi (ad @Xk (@Xl))))
def KS:bR prog 104=some 2:=aG
def Xm:dk prog 104=some 32:=aG
def Xn(cs:qs)(o:Nat):cU prog 104 cs o=cQ 2 (cs.drop o):=lF underlying104 rfl KS cs o
def Xo:cP prog 104=some [.ah,(.int .i64 0)]:=aG
def Xp:cE 104 0 0 22/\cE 104 1 1 3:=⟨cH,cH⟩
def xr:=ad @KS (ad @Xn (ad @Xm (ad @Xo (@Xp))))
def Xq:bR prog 111=some 1:=aG
def Xr:dk prog 111=some 24:=aG
def Xs(cs:qs)(o:Nat):cU prog 111 cs o=cs[o]?:=gG underlying111 rfl cs o
def Xt:cP prog 111=some [.ah]:=aG
def Xu:ny 111 1:=fun r o l z _ C k=>nu underlying111 (show bR prog 113=some 1 from by kernel_rfl) r o l z C k
def Xv:mH 111 1:=nA underlying111 (show bR prog 113=some 1 from by kernel_rfl)
def KT:=ad @Xq (ad @Xs (ad @Xr (ad @Xt (ad @Xu (@Xv)))))
def Ch:bR prog 113=some 1:=aG
def KU:dk prog 113=some 4:=aG
def Xw(cs:qs)(o:Nat):cU prog 113 cs o=cs[o]?:=gG underlying113 rfl cs o
def KV:cP prog 113=some [(.int .u32 0)]:=aG
def KW:=ad @Ch (ad @Xw (ad @KU (@KV)))
def Xx:bR prog 114=some 1:=aG
def Xy:dk prog 114=some 24:=aG
def Xz(cs:qs)(o:Nat):cU prog 114 cs o=cs[o]?:=gG underlying114 rfl cs o
def XA:cP prog 114=some [.ah]:=aG
def XB:ny 114 1:=fun r o l z _ C k=>nu underlying114 (show bR prog 4=some 1 from by kernel_rfl) r o l z C k
def XC:mH 114 1:=nA underlying114 (show bR prog 4=some 1 from by kernel_rfl)
def Ci:=ad @Xx (ad @Xz (ad @Xy (ad @XA (ad @XB (@XC)))))
def Ck:bR prog 116=some 3:=aG
def Ga:dk prog 116=some 32:=aG
def XD(cs:qs)(o:Nat):cU prog 116 cs o=cQ 3 (cs.drop o):=lF underlying116 rfl Ck cs o
def Gb:cP prog 116=some [(.int .i64 0),(.ai []),(.int .i64 0)]:=aG
def XE:cE 116 0 0 3/\cE 116 1 1 9/\cE 116 2 2 3:=⟨cH,cH,cH⟩
def Cl:=ad @Ck (ad @XD (ad @Ga (ad @Gb (@XE))))
def XF:bR prog 118=some 1:=aG
def XG:dk prog 118=some 8:=aG
def XH(cs:qs)(o:Nat):cU prog 118 cs o=cs[o]?:=gG underlying118 rfl cs o
def XI:cP prog 118=some [(.int .u64 0)]:=aG
def XJ:=ad @XF (ad @XH (ad @XG (@XI)))
def Gc:bR prog 124=some 17:=aG
def KX:dk prog 124=some 248:=aG
def XK(cs:qs)(o:Nat):cU prog 124 cs o=cQ 17 (cs.drop o):=lF underlying124 rfl Gc cs o
def KY:cP prog 124=some [(.int .i64 0),(.ai []),(.ai []),(.int .i64 0),(.int .i64 0),(.int .i64 0),(.ai []),(.int .i64 0),.ah,(.int .i64 0),(.int .i64 0),(.ai []),(.int .i64 0),.ah,.ah,.ah,.ah]:=aG
def XL:cE 124 0 0 3/\cE 124 1 1 9/\cE 124 2 2 9/\cE 124 3 3 3/\cE 124 4 4 59/\cE 124 5 9 59/\cE 124 6 14 57/\cE 124 7 15 61/\cE 124 8 16 61:=⟨cH,cH,cH,cH,cH,cH,cH,cH,cH⟩
def fG:=ad @Gc (ad @XK (ad @KX (ad @KY (@XL))))
def XM:bR prog 132=some 1:=aG
def XN:dk prog 132=some 8:=aG
def XO(cs:qs)(o:Nat):cU prog 132 cs o=cs[o]?:=gG underlying132 rfl cs o
def XP:cP prog 132=some [(.int .u64 0)]:=aG
def KZ:=ad @XM (ad @XO (ad @XN (@XP)))
def K0:bR prog 135=some 4:=aG
def XQ:dk prog 135=some 96:=aG
def XR(cs:qs)(o:Nat):cU prog 135 cs o=cQ 4 (cs.drop o):=lF underlying135 rfl K0 cs o
def XS:cP prog 135=some [.ah,.ah,.ah,.ah]:=aG
def XT:cE 135 0 0 60/\cE 135 1 1 60/\cE 135 2 2 41:=⟨cH,cH,cH⟩
def Gd:=ad @K0 (ad @XR (ad @XQ (ad @XS (@XT))))
def XU:bR prog 148=some 1:=aG
def XV:dk prog 148=some 8:=aG
def XW(cs:qs)(o:Nat):cU prog 148 cs o=cs[o]?:=gG underlying148 rfl cs o
def XX:cP prog 148=some [.bu]:=aG
def K1:=ad @XU (ad @XW (ad @XV (@XX)))
def XY:bR prog 155=some 1:=aG
def XZ:dk prog 155=some 8:=aG
def X0(cs:qs)(o:Nat):cU prog 155 cs o=cs[o]?:=gG underlying155 rfl cs o
def X1:cP prog 155=some [.a7]:=aG
def Cm:=ad @XY (ad @X0 (ad @XZ (@X1)))
def K2:bR prog 159=some 16:=aG
def X2:dk prog 159=some 128:=aG
def X3(cs:qs)(o:Nat):cU prog 159 cs o=cQ 16 (cs.drop o):=lF underlying159 rfl K2 cs o
def X4:cP prog 159=some [(.int .i64 0),(.int .i64 0),(.int .i64 0),(.int .i64 0),(.int .i64 0),(.int .i64 0),(.int .i64 0),(.int .i64 0),(.int .i64 0),(.int .i64 0),(.int .i64 0),(.int .i64 0),(.int .i64 0),(.int .i64 0),(.int .i64 0),(.int .i64 0)]:=aG
def X5:=ad @K2 (ad @X3 (ad @X2 (@X4)))
def K3:bR prog 174=some 8:=aG
def X6:dk prog 174=some 8:=aG
def X7(cs:qs)(o:Nat):cU prog 174 cs o=cQ 8 (cs.drop o):=lF underlying174 rfl K3 cs o
def X8:cP prog 174=some [(.bool false),(.bool false),(.bool false),(.bool false),(.bool false),(.bool false),(.bool false),(.bool false)]:=aG
def X9:cE 174 0 0 4/\cE 174 1 1 4/\cE 174 2 2 4/\cE 174 3 3 4/\cE 174 4 4 4/\cE 174 5 5 4/\cE 174 6 6 4/\cE 174 7 7 4:=⟨cH,cH,cH,cH,cH,cH,cH,cH⟩
def K4:=ad @K3 (ad @X7 (ad @X6 (ad @X8 (@X9))))
def Ya:bR prog 179=some 1:=aG
def Yb:dk prog 179=some 24:=aG
def Yc(cs:qs)(o:Nat):cU prog 179 cs o=cs[o]?:=gG underlying179 rfl cs o
def Yd:cP prog 179=some [.ah]:=aG
def Ye:ny 179 1:=fun r o l z _ C k=>nu underlying179 (show bR prog 60=some 1 from by kernel_rfl) r o l z C k
def Yf:mH 179 1:=nA underlying179 (show bR prog 60=some 1 from by kernel_rfl)
def Ge:=ad @Ya (ad @Yc (ad @Yb (ad @Yd (ad @Ye (@Yf)))))
def K5:bR prog 193=some 7:=aG
def Yg:dk prog 193=some 112:=aG
def Yh(cs:qs)(o:Nat):cU prog 193 cs o=cQ 7 (cs.drop o):=lF underlying193 rfl K5 cs o
def Yi:cP prog 193=some [(.ai []),(.ai []),(.ai []),(.ai []),(.ai []),(.ai []),(.ai [])]:=aG
def Yj:=ad @K5 (ad @Yh (ad @Yg (@Yi)))
def Yk(H:Hp)(k:IntKind)(n:Int):lP prog H 2 118 (.int k n)=some (.int .u64 (IntKind.wrap .u64 n)):=xn
def Yl(H:Hp)(k:IntKind)(n:Int):lP prog H 2 132 (.int k n)=some (.int .u64 (IntKind.wrap .u64 n)):=xn
def Ym(H:Hp)(k:IntKind)(n:Int):lP prog H 3 5 (.int k n)=some (.int .u8 (IntKind.wrap .u8 n)):=xn
def Yn(H:Hp)(k:IntKind)(n:Int):lP prog H 3 118 (.int k n)=some (.int .u64 (IntKind.wrap .u64 n)):=xn
def Yo(H:Hp)(k:IntKind)(n:Int):lP prog H 3 132 (.int k n)=some (.int .u64 (IntKind.wrap .u64 n)):=xn
def Yp(H:Hp)(k:IntKind)(n:Int):lP prog H 118 5 (.int k n)=some (.int .u8 (IntKind.wrap .u8 n)):=xn
end Go.Proofs.Ytbflaciihaijgaa
namespace Go.Ab
set_option maxRecDepth 20000
open Go
variable {P:Program} {cfg:Cfg} {f N:Nat}
variable{a:Nat}{E:aB}{H:Hp}{Q:AX->aB->Hp->Prop}{p:Nat->Prop}
def cA{a:SC}(cs rs:qC)(C n:Nat)(J:Nat->aB->Hp->Prop)(O:E.at C=.int .i64 0)(M:J 0 E H)
 (h:∀(i:Nat) (E':aB) (H':Hp),i<=n->(∀k∈cs,E'.at k=E.at k)->(∀r∈rs,H'.get r=H.get r)->H.next<=H'.next->E'.at C=.int .i64 i->J i E' H' ->
   cb P cfg f N a E' H' (nr Q fun j Z=>i<n/\(∀k∈cs,j.at k=E.at k)/\(∀r∈rs,Z.get r=H.get r)/\H.next<=Z.next/\j.at C=.int .i64 ((i+1:Nat):Int)/\J (i+1) j Z)):cb P cfg f N (.loop a) E H Q:=
 pQ (fun i E' H'=>(∀k∈cs,E'.at k=E.at k)/\(∀r∈rs,H'.get r=H.get r)/\H.next<=H'.next/\E'.at C=.int .i64 i/\J i E' H') n (fun i E' H' z ⟨Y,g,m,U,V⟩=>h i E' H' z Y g m U V) ⟨fun _ _=>rfl,fun _ _=>rfl,aO _,O,M⟩
def Yq{a:SC}(cs rs:qC)(J:Nat->aB->Hp->Prop)(n:Nat)(M:J n E H)
 (h:∀(i:Nat) (E':aB) (H':Hp),(∀k∈cs,E'.at k=E.at k)->(∀r∈rs,H'.get r=H.get r)->H.next<=H'.next->J i E' H' ->
   cb P cfg f N a E' H' (nr Q fun j Z=>(∀k∈cs,j.at k=E.at k)/\(∀r∈rs,Z.get r=H.get r)/\H.next<=Z.next/\∃m,m<i/\J m j Z)):cb P cfg f N (.loop a) E H Q:=
 yY (fun i E' H'=>(∀k∈cs,E'.at k=E.at k)/\(∀r∈rs,H'.get r=H.get r)/\H.next<=H'.next/\J i E' H') (fun i E' H' ⟨Y,g,V,U⟩=>cb.mono (fun x j Z K=>by
  cases x with
  |normal=>obtain⟨C,O,z,m,o,L⟩:=K;exact⟨m,o,C,O,z,L⟩
  |exit id=>exact K
  |ret=>exact K) (h i E' H' Y g V U)) (n:=n) ⟨fun _ _=>rfl,fun _ _=>rfl,aO _,M⟩
def bp{l:qC}:(∀k∈a::l,p k)↔p a/\∀k∈l,p k:=List.forall_mem_cons
def bm:(∀k∈([]:qC),p k)↔True:=⟨fun _=>trivial,fun _ _ h=>lY⟩
def bz{b:Nat}(h:a≠b):(a == b)=false:=i9
def gQ{i n:Nat}(h:i<n)(C:n<2^62):AV.int .i64 (IntKind.wrap .i64 ((i:Int)+1))=.int .i64 ((i+1:Nat):Int):=by rw[hT ac]
end Go.Ab
