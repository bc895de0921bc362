/- Lemmas for the last file. -/
import Derived.IntWalk
import Derived.KernelRfl
import Derived.Test.YtbflaciihaijgaaGreatRED
import Derived.Test.YtbflaciihaijgaaGreatRows
set_option linter.all false
set_option maxHeartbeats 32000000
namespace Go.Ab
set_option maxRecDepth 20000
open Go
abbrev qo:=List qr
variable{qb:Prop}
def El(h:qb:=by simp only[io,h,h1]):=h
def pM(h:qb:=by simp[dP,rI,jz]):=h
def A1(h:qb:=by unfold gj;rw[h]):=h
def Iv(h:qb:=by simp only[a0,gc,beq_self_eq_true,cond_true]):=h
def rU(h:qb:=by rw[Ex.aq];rfl):=h
def jk(h:qb:=by rw[St.aq];rfl):=h
def oU(h:qb:=by rw[Fu.aq];rfl):=h
def A2(h:qb:=by rw[Ar.aq];rfl):=h
def A3(h:qb:=by rw[Pr.aq];rfl):=h
def yB(h:qb:=by rw[Tk.aq];rfl):=h
def yC(h:qb:=by rw[Nd.aq];rfl):=h
def uL(h:qb:=by rw[Gr.aq];rfl):=h
def A4(h:qb:=by rw[Un.aq];rfl):=h
def aA(h:qb:=by kernel_rfl):=h
def A5(h:qb:=by cases k<;>kernel_rfl):=h
def nS:=@cond_false
def wl:=@Int.eq_ofNat_of_zero_le
def jl:=@Bool.and_true
def nT:=@and_self
def ac:=@And.intro
def l4:=@Bool.not_false
def ec:=@List.length_map
def iV:=@Bool.true_and
def bb:=@and_true
def yD:=@Int.toNat_natCast
def yE:=@List.forall_mem_cons
def gX:=@Option.bind_some
def uM:=@List.map_set
def Em:=@List.ext_getElem?
end Go.Ab
namespace Go.Ab
set_option maxRecDepth 20000
open Go
structure SOp where
 d:qC
 op:Op
 g:Option (Nat×Bool)
inductive SC where
 |skip|ret|bad
 |fQ (l:List SOp)
 |br (id:Nat) (l:qs)
 |seq (a b:SC)
 |cond (x:Operand) (a b:SC)
 |block (id:Nat) (a:SC)
 |loop (a:SC)
 |exit (id:Nat)
variable{K:AV->Hp->Prop}{Q:AX->aD->Hp->Prop}{d:TypeDesc}{o s r i:Nat}{l:List SOp}{v a:AV}{b:Bool}{t e:TypeId}{c:Call}{vs j Z z cs:qm}{g:FuncId}{fn:Func}{lo F:Option Operand}{S U:qv}{ih:zdc->Res}{ops:qs}{x:Operand}{A:Hp}
def bF(N:Nat):Option Tmp->Option qC
 |none=>some none
 |some d=>match Nat.blt d N with
  |true=>some (some d)
  |false=>none
def bB(o:qs):Option (Nat×Bool)->Option (Option (Nat×Bool))
 |none=>some none
 |some (j,b)=>match (o[j]?).bind (·.dst)with
  |some d=>some (some (d,b))
  |none=>none
def bq(N:Nat)(Z:qs):qs->Option (List SOp)
 |[]=>some []
 |o::l=>match bF N o.dst,bB Z o.guard,bq N Z l with
  |some d,some g,some r=>some (⟨d,o.op,g⟩::r)
  |_,_,_=>none
def bz(l:Option (List SOp)):SC:=match l with
 |some l=>.fQ l
 |none=>.bad
def aG(N:Nat):Code->SC
 | .skip=>.skip
 | .region id ops draw=>match draw with
   |false=>bz (bq N ops.toList ops.toList)
   |true=>.br id ops.toList
 | .seq a b=>.seq (aG N a) (aG N b)
 | .cond x a b=>.cond x (aG N a) (aG N b)
 | .block id a=>.block id (aG N a)
 | .loop a=>.loop (aG N a)
 | .exit id=>.exit id
 | .ret=>.ret
 |_=>.bad
section
variable (P:Program) (cfg:Cfg) (f N:Nat)
def aU(g:FuncId)(j:qm)(H:Hp)(Q:AV->Hp->Prop):Prop:=∃v H',dm P cfg (.call g j H) (.val v H')/\Q v H'
def iq(op:Op)(E:aD)(H:Hp)(K:AV->Hp->Prop):Prop:=∃n v H',ej P cfg (dw P cfg n) f E H op=.val v H'/\K v H'
noncomputable def a0(E:aD):qC->AV->aD
 |some d,v=>T.set E d (some v)
 |none,_=>E
def aQ:List SOp->aD->Hp->(aD->Hp->Prop)->Prop
 |[],E,H,Q=>Q E H
 |o::l,E,H,Q=>match o.g with
  |none=>iq P cfg f o.op E H fun v H'=>aQ l (a0 E o.d v) H' Q
  |some (s,b)=>(E.at s=.bool b/\iq P cfg f o.op E H fun v H'=>aQ l (a0 E o.d v) H' Q)\/((E.at s=.bool (!b)\/E.at s=ea)/\aQ l (a0 E o.d ea) H Q)
def bN(c:SC)(E:aD)(H:Hp)(Q:AX->aD->Hp->Prop):Prop:=∀code,aG N code=c->∃x E' H',dm P cfg (.aw f N code E H) (.done x E' H')/\Q x E' H'
end
section
variable {P:Program} {cfg:Cfg} {f N:Nat}
def iq.mono{op:Op}{E:aD}{H:Hp}{z:AV->Hp->Prop}(h:∀v H',K v H'->z v H')(o:iq P cfg f op E H K):iq P cfg f op E H z:=by
 obtain⟨n,v,H',j,m⟩:=o;exact⟨n,v,H',j,h v H' m⟩
def bN.mono{c:SC}{E:aD}{H:Hp}{j:AX->aD->Hp->Prop}(h:∀x E H,Q x E H->j x E H)(J:bN P cfg f N c E H Q):bN P cfg f N c E H j:=fun code hc=>by
 obtain⟨x,E',H',Z,m⟩:=J code hc;exact⟨x,E',H',Z,h _ _ _ m⟩
def yF:=@bN.mono
def bN.skip{E:aD}{H:Hp}{Q:AX->aD->Hp->Prop}(h:Q .normal E H):bN P cfg f N .skip E H Q:=fun code hc=>by
 cases code with
 |skip=>exact⟨_,_,_,dm.skip,h⟩
 |region id ops draw=>cases draw<;>simp only[aG,bz,reduceCtorEq]at hc;split at hc<;>simp at hc
 |_=>simp[aG]at hc
def bN.ret{E:aD}{H:Hp}{Q:AX->aD->Hp->Prop}(h:Q .ret E H):bN P cfg f N .ret E H Q:=fun code hc=>by
 cases code with
 |ret=>exact⟨_,_,_,dm.ret,h⟩
 |region id ops draw=>cases draw<;>simp only[aG,bz,reduceCtorEq]at hc;split at hc<;>simp at hc
 |_=>simp[aG]at hc
def bN.exit{id:Nat}{E:aD}{H:Hp}{Q:AX->aD->Hp->Prop}(h:Q (.exit id) E H):bN P cfg f N (.exit id) E H Q:=fun code hc=>by
 cases code with
 |exit Z=>simp only[aG,SC.exit.injEq]at hc;subst hc;exact⟨_,_,_,dm.exit,h⟩
 |region id ops draw=>cases draw<;>simp only[aG,bz,reduceCtorEq]at hc;split at hc<;>simp at hc
 |_=>simp[aG]at hc
def lE(Q:AX->aD->Hp->Prop)(K:aD->Hp->Prop):AX->aD->Hp->Prop
 | .normal,E,H=>K E H
 | .exit id,E,H=>Q (.exit id) E H
 | .ret,E,H=>Q .ret E H
def bN.seq{a b:SC}{E:aD}{H:Hp}{Q:AX->aD->Hp->Prop}(h:bN P cfg f N a E H (lE Q fun E H=>bN P cfg f N b E H Q)):bN P cfg f N (.seq a b) E H Q:=fun code hc=>by
 cases code with
 |seq p q=>
  simp only[aG,SC.seq.injEq]at hc;obtain⟨x,E1,H1,j,m⟩:=h p hc.1;cases x with
  |normal=>
   obtain⟨x,Z,Y,A,O⟩:=m q hc.2;exact⟨x,Z,Y,dm.seq j A,O⟩
  |exit id=>exact⟨_,_,_,It j aI,m⟩
  |ret=>exact⟨_,_,_,It j aI,m⟩
 |region id ops draw=>cases draw<;>simp only[aG,bz,reduceCtorEq]at hc;split at hc<;>simp at hc
 |_=>simp[aG]at hc
def ae:=@bN.seq
def bN.cond{x:Operand}{a b:SC}{E:aD}{H:Hp}{Q:AX->aD->Hp->Prop}{t:Bool}(O:aV E x=some (.bool t))(h1:t=true->bN P cfg f N a E H Q)(h2:t=false->bN P cfg f N b E H Q):
 bN P cfg f N (.cond x a b) E H Q:=fun code hc=>by
 cases code with
 |cond y p q=>
  simp only[aG,SC.cond.injEq]at hc;obtain⟨rfl,A,Y⟩:=hc;cases t with
  |true=>
   obtain⟨x,E1,H1,o,Z⟩:=h1 rfl p A;exact⟨x,E1,H1,Rk O o,Z⟩
  |false=>
   obtain⟨x,E1,H1,o,Z⟩:=h2 rfl q Y;exact⟨x,E1,H1,Rl O o,Z⟩
 |region id ops draw=>cases draw<;>simp only[aG,bz,reduceCtorEq]at hc;split at hc<;>simp at hc
 |_=>simp[aG]at hc
def nU(id:Nat)(Q:AX->aD->Hp->Prop):AX->aD->Hp->Prop
 | .normal,E,H=>Q .normal E H
 | .exit Z,E,H=>if Z=id then Q .normal E H else Q (.exit Z) E H
 | .ret,E,H=>Q .ret E H
def bN.block{id:Nat}{a:SC}{E:aD}{H:Hp}{Q:AX->aD->Hp->Prop}(h:bN P cfg f N a E H (nU id Q)):bN P cfg f N (.block id a) E H Q:=fun code hc=>by
 cases code with
 |block Y p=>
  simp only[aG,SC.block.injEq]at hc;obtain⟨rfl,A⟩:=hc;obtain⟨x,E1,H1,o,Z⟩:=h p A;cases x with
  |normal=>exact⟨_,_,_,Rm o,Z⟩
  |ret=>exact⟨_,_,_,Rn o,Z⟩
  |exit k=>
   simp only[nU]at Z;split at Z
   .rename_i e;subst e;exact⟨_,_,_,dm.block o,Z⟩
   .rename_i e;exact⟨_,_,_,Ro (by cases z:Nat.beq k Y with|true=>exact(e (ib z)).elim|false=>rfl) o,Z⟩
 |region id ops draw=>cases draw<;>simp only[aG,bz,reduceCtorEq]at hc;split at hc<;>simp at hc
 |_=>simp[aG]at hc
def aj:=@bN.block
def bN.loop{a:SC}{Q:AX->aD->Hp->Prop}(I:Nat->aD->Hp->Prop)(h:∀n E H,I n E H->bN P cfg f N a E H (lE Q fun E H=>∃m,m<n/\I m E H)){n:Nat}{E:aD}{H:Hp}(Y:I n E H):bN P cfg f N (.loop a) E H Q:=by
 induction n using Nat.strongRecOn generalizing E H with
 |_ n ih=>
  intro code hc;cases code with
  |loop p=>
   simp only[aG,SC.loop.injEq]at hc;obtain⟨x,E1,H1,o,Z⟩:=h n E H Y p hc;cases x with
   |normal=>
    obtain⟨m,M,O⟩:=Z;obtain⟨x,V,U,S,F⟩:=ih m M O (.loop p) (by simp[aG,hc]);exact⟨x,V,U,dm.loop o S,F⟩
   |exit id=>exact⟨_,_,_,Iu o aI,Z⟩
   |ret=>exact⟨_,_,_,Iu o aI,Z⟩
  |region id ops draw=>cases draw<;>simp only[aG,bz,reduceCtorEq]at hc;split at hc<;>simp at hc
  |_=>simp[aG]at hc
def uN:=@bN.loop
def jU{a:SC}(I:Nat->aD->Hp->Prop)(A:Nat)(h:∀i E H,i<=A->I i E H->bN P cfg f N a E H (lE Q fun E H=>i<A/\I (i+1) E H)){E:aD}{H:Hp}(Z:I 0 E H):bN P cfg f N (.loop a) E H Q:=
 uN (fun n E H=>n<=A/\I (A-n) E H) (fun n E H O=>yF (fun x E' H' F=>by
  cases x with
  |normal=>
   obtain⟨j,m⟩:=F;have:=O.1;refine⟨n-1,aa,aa,?_⟩;rw[show A-(n-1)=A-n+1 by omega];exact m
  |exit id=>exact F
  |ret=>exact F) (h (A-n) E H (Nat.sub_le _ _) O.2)) (n:=A) ⟨aT _,by rw[uA];exact Z⟩
def A6{N:Nat}{z:Option Tmp}{d:qC}(h:bF N z=some d)(E:aD)(v:AV):fo N E z v=some (a0 E d v):=by
 cases z with
 |none=>simp only[bF,aH]at h;subst h;rfl
 |some t=>
  simp only[bF]at h;split at h
  .rename_i Z;simp only[aH]at h;subst h;simp only[fo,Z,a0]
  .simp at h
def Iw{Z:qs}{E:aD}{o:Oper}{g:Option (Nat×Bool)}(h:bB Z o.guard=some g):
 (g=none->jc Z E o=true)/\∀s b,g=some (s,b)->(E.at s=.bool b->jc Z E o=true)/\(E.at s=.bool (!b)\/E.at s=ea->jc Z E o=false):=by
 unfold jc;cases C:o.guard with
 |none=>
  rw[C]at h;simp only[bB,aH]at h;subst h;exact⟨fun _=>rfl,fun s b e=>by simp at e⟩
 |some z=>
  obtain⟨j,b⟩:=z;rw[C]at h;simp only[bB]at h;split at h
  .rename_i d hd;simp only[aH]at h;subst h;refine⟨fun e=>by simp at e,fun s b' e=>?_⟩;simp only[cC]at e;obtain⟨rfl,rfl⟩:=e;simp only[Aj,hd];refine⟨fun e=>by rw[e];simp,fun e=>by rcases e with e|e<;>rw[e]<;>simp[ea]⟩
  .simp at h
theorem aQ.run{Z:qs}{Q:aD->Hp->Prop}:∀{l:qs}{r:List SOp}{E:aD}{H:Hp},bq N Z l=some r->aQ P cfg f r E H Q ->
 ∃n E' H',jA P cfg (dw P cfg n) f N Z l E H=.done .normal E' H'/\Q E' H'
 |[],r,E,H,hs,F=>by
  simp only[bq,aH]at hs;subst hs;exact⟨0,E,H,rfl,F⟩
 |o::l,r,E,H,hs,F=>by
  simp only[bq]at hs;split at hs
  .rename_i d g r' S h2 A;simp only[aH]at hs;subst hs;obtain⟨ct,w2⟩:=Iw (E:=E) h2;have j:∀{K:Prop},iq P cfg f o.op E H (fun v H'=>aQ P cfg f r' (a0 E d v) H' Q)->jc Z E o=true->∃n E' H',jA P cfg (dw P cfg n) f N Z (o::l) E H=.done .normal E' H'/\Q E' H':=fun{K} M J=>by
    obtain⟨n,v,H1,O,g2⟩:=M;obtain⟨m,Y,V,I,U⟩:=aQ.run A g2;refine⟨max n m,Y,V,?_,U⟩;have z:∀k k',k<=k'->mM (dw P cfg k) (dw P cfg k'):=fun k k' hk t ht=>yA hk ht;rw[yz,J];simp only[];rw[AU (z n (max n m) (AO _ _)) (by rw[O];simp),O];simp only[A6 S,jN];rw[AW (z m (max n m) (AP _ _)) (by rw[I];simp),I]
   unfold aQ at F;cases C:g with
   |none=>
    rw[C]at F;exact j (K:=True) F (ct C)
   |some sb=>
    obtain⟨s,b⟩:=sb;rw[C]at F;simp only[]at F;rcases F with⟨e,F⟩|⟨e,F⟩
    .exact j (K:=True) F ((w2 s b C).1 e)
    .obtain⟨m,Y,V,I,U⟩:=aQ.run A F;refine⟨m,Y,V,?_,U⟩;rw[yz,(w2 s b C).2 e];simp only[A6 S,jN];exact I
  .simp at hs
def bN.fQ{l:List SOp}{E:aD}{H:Hp}{Q:AX->aD->Hp->Prop}(h:aQ P cfg f l E H (Q .normal)):bN P cfg f N (.fQ l) E H Q:=fun code hc=>by
 cases code with
 |region id ops draw=>
  cases draw with
  |true=>simp[aG]at hc
  |false=>
   simp only[aG,bz]at hc;split at hc
   .rename_i r hr;simp only[SC.fQ.injEq]at hc;subst hc;obtain⟨n,E',H',j,m⟩:=aQ.run hr h;exact⟨_,_,_,dm.region j aI,m⟩
   .simp at hc
 |_=>simp[aG]at hc
def ah{E:aD}{H:Hp}(h:∀K:aD->Hp->Prop,(∀E' H',Q .normal E' H'->K E' H')->aQ P cfg f l E H K):bN P cfg f N (.fQ l) E H Q:=
 bN.fQ (h _ fun _ _ h=>h)
def aQ.nil{E:aD}{H:Hp}{Q:aD->Hp->Prop}(h:Q E H):aQ P cfg f [] E H Q:=h
def wm:=@aQ.nil
def iq.plain{op:Op}{E:aD}{H H':Hp}(h:dv P cfg.cj E H op=some (v,H'))(I:∀c,op≠.call c)(o:K v H'):iq P cfg f op E H K:=
 ⟨0,v,H',(uK I).2 h,o⟩
def A7:Op->Bool
 | .call _=>false
 |_=>true
def Ix{op:Op}(h:A7 op=true):∀c,op≠.call c:=fun c e=>by subst e;simp[A7]at h
def aQ.op{d:Nat}{op:Op}{E:aD}{H H':Hp}{Q:aD->Hp->Prop}(I:A7 op=true)(h:dv P cfg.cj E H op=some (v,H'))(o:aQ P cfg f l (T.set E d (some v)) H' Q):aQ P cfg f (⟨some d,op,none⟩::l) E H Q:=
 iq.plain h (Ix I) o
def iJ:=@aQ.op
def Iy{op:Op}{E:aD}{H H':Hp}{Q:aD->Hp->Prop}(I:A7 op=true)(h:dv P cfg.cj E H op=some (v,H'))(o:aQ P cfg f l E H' Q):aQ P cfg f (⟨none,op,none⟩::l) E H Q:=
 iq.plain h (Ix I) o
theorem aQ.guard{d:qC}{op:Op}{t:Bool}{E:aD}{H:Hp}{Q:aD->Hp->Prop}(h:E.at s=.bool t)(h1:t=b->aQ P cfg f (⟨d,op,none⟩::l) E H Q)(h2:t=!b->aQ P cfg f l (a0 E d ea) H Q):
 aQ P cfg f (⟨d,op,some (s,b)⟩::l) E H Q:=by
 unfold aQ;by_cases e:t=b
 .exact .inl ⟨by rw[h,e],h1 e⟩
 .have:t=!b:=by cases t<;>cases b<;>simp_all
  exact .inr ⟨.inl (by rw[h,this]),h2 this⟩
def Iz{d:qC}{op:Op}{E:aD}{H:Hp}{Q:aD->Hp->Prop}(h:some (E.at s)=some v)(U:v=ea)(h2:aQ P cfg f l (a0 E d ea) H Q):
 aQ P cfg f (⟨d,op,some (s,b)⟩::l) E H Q:=by
 subst U;unfold aQ;exact .inr ⟨.inr fQ,h2⟩
def aQ.call{d:qC}{g:Operand}{k:FuncId}{cap:qm}{E:aD}{H:Hp}{Q:aD->Hp->Prop}(K:c.callee=.value g)(C:aV E g=some (.bl k cap))(U:io E c.args.toList=some vs)
 (h:aU P cfg k (vs++cap) H fun v H'=>aQ P cfg f l (a0 E d v) H' Q):aQ P cfg f (⟨d,.call c,none⟩::l) E H Q:=by
 obtain⟨v,H',⟨_,n,j⟩,m⟩:=h;refine⟨n,v,H',?_,m⟩;simp only[ej,sT,K,C,U];exact j
def bc:=@aQ.call
def aQ.builtin{d:qC}{b:Builtin}{E:aD}{H H':Hp}{Q:aD->Hp->Prop}(K:c.callee=.builtin b)(U:io E c.args.toList=some vs)
 (h:pG P (cfg.aj f) H b c.argTypes.toList vs=some (v,H')) (o:aQ P cfg f l (a0 E d v) H' Q):aQ P cfg f (⟨d,.call c,none⟩::l) E H Q:=by
 refine⟨0,v,H',?_,o⟩;simp only[ej,sT,K,U,h]
def A8:=@aQ.builtin
def Rp{r:AV}{H:Hp}{Q:AV->Hp->Prop}(h:cfg.call g j=some r)(F:Q r H):aU P cfg g j H Q:=
 ⟨r,H,jT aI (n:=0) (by simp only[step,h]),F⟩
def IA{r:AV}{H H':Hp}{Q:AV->Hp->Prop}(I:cfg.call g j=none)(F:cfg.ao g=true)(Y:cfg.am g=false)(V:fW (eP 100) j H=some (Z,H'))(h:cfg.call g Z=some r)(U:Q r H'):aU P cfg g j H Q:=
 ⟨r,H',jT aI (n:=0) (by simp only[step,I,nI,F,Y,vT,xZ,V,h]),U⟩
def aU.mono{H:Hp}{Q Z:AV->Hp->Prop}(h:∀v H',Q v H'->Z v H')(J:aU P cfg g j H Q):aU P cfg g j H Z:=by
 obtain⟨v,H',Y,m⟩:=J;exact⟨v,H',Y,h _ _ m⟩
def a4:=@aU.mono
def aU.body{H:Hp}{c:Code}{Q:AV->Hp->Prop}(o:cfg.call g j=none)(F:cfg.ao g=false)(Y:cfg.am g=false)(m:P.funcs[g]?=some fn)(z:fn.body=some c)
 (h:bN P cfg g (max fn.ntmps j.length) (aG (max fn.ntmps j.length) c) (a3 0 j (uw (max fn.ntmps j.length))) H (fun x E' H'=>(x=.normal\/x=.ret)/\∃vs,bU P E' H' fn.results.toList=some vs/\Q (aB vs) H')):aU P cfg g j H Q:=by
 obtain⟨x,E',H',Z,hx,vs,V,A⟩:=h c rfl;exact⟨aB vs,H',dm.call o F Y m z Z hx (by unfold vS;rw[V]),A⟩
def a5{H:Hp}{c:Code}{s:SC}{M:Nat}{rs:List ResultVar}{Q:AV->Hp->Prop}(o:cfg.call g j=none)(F:cfg.ao g=false)(Y:cfg.am g=false)(m:P.funcs[g]?=some fn)(z:fn.body=some c)(V:max fn.ntmps j.length=M)
 (S:aG M c=s) (hr:fn.results.toList=rs) (h:bN P cfg g M s (a3 0 j (uw M)) H (fun x E' H'=>(x=.normal\/x=.ret)/\∃vs,bU P E' H' rs=some vs/\Q (aB vs) H')):aU P cfg g j H Q:=by
 subst V S hr;exact aU.body o F Y m z h
def IB(fit:Fit P){ρ:Nat->Int}(o:mH cfg.cj ρ)(K:∀f j r,cfg.call f j=some r->bJ P ρ f j r){j:qm}{r:AV}{k m:Nat}
 (J:sY k j=true) (h:aU P cfg g j bV fun v H'=>iceV H' m v=some r):bJ P ρ g j r:=by
 obtain⟨v,H',⟨_,n,Z⟩,Y⟩:=h;exact Ip fit o K (n:=n) (m:=m) J (by unfold Al;rw[Z];exact Y)
section
variable {l:List SOp} {E:aD} {H H':Hp} {Q:aD -> Hp -> Prop} {d:Nat} {v a b:AV} {x y:Operand} {t u:TypeId}
def aQ.move(h:aV E x=some v)(o:aQ P cfg f l (T.set E d (some v)) H Q):aQ P cfg f (⟨some d,.move x,none⟩::l) E H Q:=iJ rfl (by simp only[dv,Go.Ab.ret,h]) o
def aQ.assign(h:aV E x=some v)(o:aQ P cfg f l (T.set E d (some v)) H Q):aQ P cfg f (⟨some d,.assign x,none⟩::l) E H Q:=iJ rfl (by simp only[dv,Go.Ab.ret,h]) o
def aQ.pick{z:Operand}{t:Bool}(h:aV E x=some (.bool t))(h1:aV E y=some a)(h2:aV E z=some b)(o:aQ P cfg f l (T.set E d (some (ja t a b))) H Q):aQ P cfg f (⟨some d,.pick x y z,none⟩::l) E H Q:=
 iJ rfl (by cases t<;>simp only[dv,zZ,Go.Ab.ret,h,h1,h2]<;>rfl) o
def aQ.load(h:aV E x=some a)(h1:jL P H t a=some v)(o:aQ P cfg f l (T.set E d (some v)) H Q):aQ P cfg f (⟨some d,.load t x,none⟩::l) E H Q:=iJ rfl (by simp only[dv,xQ,Go.Ab.ret,h,h1]) o
def aQ.store(h:aV E x=some a)(h1:aV E y=some b)(h2:mD P H t a b=some H')(o:aQ P cfg f l E H' Q):aQ P cfg f (⟨none,.store t x y,none⟩::l) E H Q:=Iy rfl (by simp only[dv,z6,Go.Ab.ret,h,h1,h2];rfl) o
def wn:=@aQ.store
def aQ.nilCheck(h:aV E x=some (.ptr r o))(Z:aQ P cfg f l (T.set E d (some (.ptr r o))) H Q):aQ P cfg f (⟨some d,.nilCheck x,none⟩::l) E H Q:=iJ rfl (by simp only[dv,z7,h]) Z
def aQ.cq{op:BinOp}(h:aV E x=some a)(h1:aV E y=some b)(h2:dP P cfg.cj op t a b=some v)(o:aQ P cfg f l (T.set E d (some v)) H Q):aQ P cfg f (⟨some d,.binOp op t x y u,none⟩::l) E H Q:=
 iJ rfl (by simp only[dv,z8,Go.Ab.ret,h,h1,h2]) o
def aQ.un{op:UnOp}(h:aV E x=some a)(h2:rJ op a=some v)(o:aQ P cfg f l (T.set E d (some v)) H Q):aQ P cfg f (⟨some d,.unOp op t x,none⟩::l) E H Q:=iJ rfl (by simp only[dv,z9,Go.Ab.ret,h,h2]) o
def aQ.convert(h:aV E x=some a)(h2:lV P H t u a=some v)(o:aQ P cfg f l (T.set E d (some v)) H Q):aQ P cfg f (⟨some d,.convert t u x,none⟩::l) E H Q:=iJ rfl (by simp only[dv,xR,Go.Ab.ret,h,h2]) o
def aQ.fieldAddr(h:aV E x=some a)(h2:sO P t a i=some v)(o:aQ P cfg f l (T.set E d (some v)) H Q):aQ P cfg f (⟨some d,.fieldAddr t x i,none⟩::l) E H Q:=iJ rfl (by simp only[dv,Ad,Go.Ab.ret,h,h2]) o
def IC:=@aQ.fieldAddr
def aQ.field(h:aV E x=some a)(h2:uo P t a i=some v)(o:aQ P cfg f l (T.set E d (some v)) H Q):aQ P cfg f (⟨some d,.field t x i,none⟩::l) E H Q:=iJ rfl (by simp only[dv,Ae,Go.Ab.ret,h,h2]) o
def aQ.indexAddr(h:aV E x=some a)(h1:aV E y=some b)(h2:eS P t a b=some v)(o:aQ P cfg f l (T.set E d (some v)) H Q):aQ P cfg f (⟨some d,.indexAddr t x y,none⟩::l) E H Q:=iJ rfl (by simp only[dv,Af,Go.Ab.ret,h,h1,h2]) o
def ID:=@aQ.indexAddr
def aQ.index(h:aV E x=some a)(h1:aV E y=some b)(h2:oK P t a b=some v)(o:aQ P cfg f l (T.set E d (some v)) H Q):aQ P cfg f (⟨some d,.index t x y,none⟩::l) E H Q:=iJ rfl (by simp only[dv,Ag,Go.Ab.ret,h,h1,h2]) o
def aQ.extract(h:aV E x=some a)(h2:Ab.extract a i=some v)(o:aQ P cfg f l (T.set E d (some v)) H Q):aQ P cfg f (⟨some d,.extract x i,none⟩::l) E H Q:=iJ rfl (by simp only[dv,Ai,Go.Ab.ret,h,h2]) o
def aQ.alloc{n:Nat}(h:cn P t=some z)(I:some H.next=some n)(o:aQ P cfg f l (T.set E d (some (.ptr n 0))) (H.alloc (.cells z 0 true)) Q):aQ P cfg f (⟨some d,.alloc t,none⟩::l) E H Q:=by
 simp only[aH]at I;subst I;exact iJ rfl (by simp only[dv,xN,h]) o
def aQ.box{n:Nat}(h:aV E x=some a)(K:some a.cells=some cs)(I:some H.next=some n)(o:aQ P cfg f l (T.set E d (some (.ptr n 0))) (H.alloc (.cells cs 0 true)) Q):aQ P cfg f (⟨some d,.box t x,none⟩::l) E H Q:=by
 simp only[aH]at K I;subst K I;exact iJ rfl (by simp only[dv,xO,h]) o
def aQ.build{m:Array (Nat×Operand)}{ps:qB}(h:ki E m.toList=some ps)(h2:cQ P t ps=some v)(o:aQ P cfg f l (T.set E d (some v)) H Q):aQ P cfg f (⟨some d,.build t m,none⟩::l) E H Q:=iJ rfl (by simp only[dv,z5,Go.Ab.ret,h,h2]) o
def aQ.buildSlice{n:Nat}{m:Array (Nat×Operand)}{ps:qB}(h:ki E m.toList=some ps)(h2:dc P H t n ps=some (v,H'))(o:aQ P cfg f l (T.set E d (some v)) H' Q):aQ P cfg f (⟨some d,.buildSlice t n m,none⟩::l) E H Q:=
 iJ rfl (by simp only[dv,xP,h,h2]) o
def IE:=@aQ.buildSlice
def aQ.makeMap{n:Nat}(I:some H.next=some n)(o:aQ P cfg f l (T.set E d (some (.map n))) (H.alloc (.map [])) Q):aQ P cfg f (⟨some d,.makeMap t none,none⟩::l) E H Q:=by
 simp only[aH]at I;subst I;exact iJ rfl (by simp only[dv,xS]) o
def aQ.lookup{ok:Bool}(h:aV E x=some a)(h1:aV E y=some b)(h2:gT P H t a b ok=some v)(o:aQ P cfg f l (T.set E d (some v)) H Q):aQ P cfg f (⟨some d,.lookup t x y ok,none⟩::l) E H Q:=iJ rfl (by simp only[dv,xV,Go.Ab.ret,h,h1,h2]) o
def aQ.mapUpdate{z:Operand}{c:AV}(h:aV E x=some a)(h1:aV E y=some b)(h2:aV E z=some c)(A:nD P H t a b c=some H')(o:aQ P cfg f l E H' Q):aQ P cfg f (⟨none,.mapUpdate t x y z,none⟩::l) E H Q:=
 Iy rfl (by simp only[dv,Ah,Go.Ab.ret,h,h1,h2,A];rfl) o
def IF:=@aQ.mapUpdate
def aQ.makeFunc{cap:Array Operand}(h:io E cap.toList=some vs)(o:aQ P cfg f l (T.set E d (some (.bl g vs))) H Q):aQ P cfg f (⟨some d,.makeFunc (.func g) #[] cap,none⟩::l) E H Q:=iJ rfl (by simp only[dv,Ac,h]) o
def aQ.slice(h:aV E x=some a)(h1:jM E lo=some S)(h2:jM E F=some U)(A:nC P H t a S U=some v)(o:aQ P cfg f l (T.set E d (some v)) H Q):aQ P cfg f (⟨some d,.slice t x lo F none,none⟩::l) E H Q:=
 iJ rfl (by simp only[dv,xU,Go.Ab.ret,h,h1,h2,A]) o
def aQ.makeSlice(h:aV E x=some a)(h1:aV E y=some b)(h2:pF P H t a b=some (v,H'))(o:aQ P cfg f l (T.set E d (some v)) H' Q):aQ P cfg f (⟨some d,.makeSlice t x y,none⟩::l) E H Q:=iJ rfl (by simp only[dv,xT,h,h1,h2]) o
def IG:=@aQ.makeSlice
def aQ.len{c:AV}(h:aV E x=some a)(h1:gj P H t a=some c)(o:aQ P cfg f l (T.set E d (some c)) H Q):aQ P cfg f (⟨some d,.call ⟨.builtin .len,#[x],#[t]⟩,none⟩::l) E H Q:=
 A8 (c:=⟨.builtin .len,#[x],#[t]⟩) rfl (vs:=[a]) (by simp only[io,h]) (by simp only[pG,h1]) o
def aQ.append(h:aV E x=some a)(h1:aV E y=some b)(h2:dh P (cfg.aj f) H t u a b=some (v,H'))(o:aQ P cfg f l (T.set E d (some v)) H' Q):aQ P cfg f (⟨some d,.call ⟨.builtin .append,#[x,y],#[t,u]⟩,none⟩::l) E H Q:=
 A8 (c:=⟨.builtin .append,#[x,y],#[t,u]⟩) rfl (vs:=[a,b]) El (by simp only[pG,h2]) o
def jF:=@aQ.append
end
def gc(E:aD)(d t:Nat)(v:AV):aD.at (T.set E d (some v)) t=bif t == d then v else E.at t:=by
 rw[vX];by_cases h:t=d
 .simp[h]
 .have:(t == d)=false:=by simpa using h
  rw[ad h,this,nS]
def get_set(H:Hp)(d t:Nat)(b:HB):(H.set d b).get t=bif t == d then some b else H.get t:=by
 rw[aO];by_cases h:t=d
 .simp[h]
 .have:(t == d)=false:=by simpa using h
  rw[ad h,this,nS]
theorem Rq(E:aD)(t:Nat):aV E (.tmp t)=some (E.at t):=rfl
theorem Rr(E:aD)(k:IntKind)(n:Int):aV E (.const (.int k n))=some (.int k n):=rfl
theorem Rt(E:aD)(b:Bool):aV E (.const (.bool b))=some (.bool b):=rfl
theorem Ru(E:aD)(g:FuncId):aV E (.func g)=some (.bl g []):=rfl
theorem Rv(E:aD)(s:ByteArray):aV E (.const (.string s))=some (.ae s.data.toList):=rfl
section
variable {D:BinOp -> Sx -> Sx -> qy} {t:TypeId} {k:IntKind} {a b:Int} {s u:qr}
def Rw:dP P D .add t (.int k a) (.int k b)=some (.int k (k.wrap (a+b))):=pM
def Rz:dP P D .sub t (.int k a) (.int k b)=some (.int k (k.wrap (a-b))):=pM
def RA:dP P D .mul t (.int k a) (.int k b)=some (.int k (k.wrap (a*b))):=pM
def oV(h:b≠0):dP P D .quo t (.int k a) (.int k b)=some (.int k (k.wrap (a.tdiv b))):=by simp[dP,rI,jz,h]
def A9(h:b≠0):dP P D .rem t (.int k a) (.int k b)=some (.int k (a.tmod b)):=by simp[dP,rI,jz,h]
def RB:dP P D .and t (.int k a) (.int k b)=some (.int k (k.wrap (BitVec.ofInt k.bits a &&& BitVec.ofInt k.bits b).toNat)):=pM
def RC:dP P D .or t (.int k a) (.int k b)=some (.int k (k.wrap (BitVec.ofInt k.bits a |||BitVec.ofInt k.bits b).toNat)):=pM
def RD:dP P D .xor t (.int k a) (.int k b)=some (.int k (k.wrap (BitVec.ofInt k.bits a^^^ BitVec.ofInt k.bits b).toNat)):=pM
theorem RE:dP P D .eql t (.int k a) (.int k b)=some (.bool (decide (a=b))):=by simp[dP,rI,jz];rfl
theorem RF:dP P D .neq t (.int k a) (.int k b)=some (.bool (!decide (a=b))):=by simp[dP,rI,jz];rfl
def RG:dP P D .lss t (.int k a) (.int k b)=some (.bool (decide (a<b))):=pM
def RH:dP P D .leq t (.int k a) (.int k b)=some (.bool (decide (a<=b))):=pM
def RI:dP P D .gtr t (.int k a) (.int k b)=some (.bool (decide (b<a))):=pM
def RJ:dP P D .geq t (.int k a) (.int k b)=some (.bool (decide (b<=a))):=pM
def RK:dP P D .eql t (.ae s) (.ae u)=some (.bool (decide (s=u))):=by
 simp only[dP,vP];by_cases h:s=u<;>simp[h]
def RL:dP P D .neq t (.ae s) (.ae u)=some (.bool (!decide (s=u))):=by
 simp only[dP,vP];by_cases h:s=u<;>simp[h]
def II(h:s.length+u.length<=dd):dP P D .add t (.ae s) (.ae u)=some (.ae (s++u)):=by simp[dP,vP,h]
theorem RM{x:Bool}:rJ .not (.bool x)=some (.bool !x):=rfl
theorem RN:rJ .neg (.int k a)=some (.int k (k.wrap (0-a))):=rfl
end
theorem ft(h:i<2^62):IntKind.wrap .i64 ((i:Int)+1)=((i+1:Nat):Int):=by
 rw[x9 _ aa];rfl
def Eo{H:Hp}(h:P.underlying t=some (.slice e))(xs:List qm):gj P H t (.ai xs)=some (.int .i64 xs.length):=A1
def wo{H:Hp}(h:P.underlying t=some (.slice e))(r o n z:Nat):gj P H t (.sl r o n z)=some (.int .i64 n):=A1
def Ba{H:Hp}(h:P.underlying t=some (.slice e)):gj P H t .ab=some (.int .i64 0):=A1
def RO{H:Hp}(h:P.underlying t=some .string)(s:qr):gj P H t (.ae s)=some (.int .i64 s.length):=A1
def RP(h:P.underlying t=some (.slice e))(S:bD P e=some s){xs:List qm}{row:qm}(hr:xs[i]?=some row)(Y:row.length=s):eS P t (.ai xs) (.int .i64 (i:Int))=some (.a2 row):=by
 show eS P t (.ai xs) (.int .i64 (Int.ofNat i))=_;simp only[eS,h,S,hr,Y,bw]
def IJ(h:P.underlying t=some (.slice e))(S:bD P e=some s){n z:Nat}(F:i<n):eS P t (.sl r o n z) (.int .i64 (i:Int))=some (.ptr r (o+i*s)):=by
 show eS P t (.sl r o n z) (.int .i64 (Int.ofNat i))=_;simp only[eS,h,S,F,bw]
def wq:TypeDesc->Bool
 | .struct _|.array _ _=>false
 |_=>true
theorem gx(h:P.underlying t=some d)(hd:wq d=true)(cs:qm)(o:Nat):cM P t cs o=cs[o]?:=by
 unfold cM;rw[h];cases d<;>simp_all[wq]
def IK{H:Hp}(h:P.underlying t=some d)(hd:wq d=true){imm:Nat}{tip:Bool}(C:H.get r=some (.cells cs imm tip)):jL P H t (.ptr r o)=cs[o]?:=by
 simp only[jL,C,gx h hd]
def RQ{H:Hp}(h:P.underlying t=some d)(hd:wq d=true)(cs:qm):jL P H t (.a2 cs)=cs[0]?:=by
 simp only[jL,gx h hd]
def Bb(z:Nat):Option qm->qv
 |some Z=>if Z.length=z then some (.a2 Z)else none
 |none=>none
theorem RR(z:Nat)(row:qm):Bb z (some row)=if row.length=z then some (.a2 row)else none:=rfl
def Bc:Option UInt8->qv
 |some b=>some (.int .u8 b.toNat)
 |none=>none
theorem RS(b:UInt8):Bc (some b)=some (.int .u8 b.toNat):=rfl
def cH(s:Nat)(cs:qm):qv:=if (cs.take s).length=s then some (.agg (cs.take s))else none
theorem jG(h:P.underlying t=some d)(hd:wq d=false)(S:bD P t=some s)(cs:qm)(o:Nat):cM P t cs o=cH s (cs.drop o):=by
 unfold cM cH;rw[h];cases d<;>simp_all[wq]
theorem RT(h:P.underlying t=some (.slice e))(S:bD P e=some s)(xs:List qm){n:Int}(I:0<=n)(k:IntKind):eS P t (.ai xs) (.int k n)=Bb s (xs[n.toNat]?):=by
 obtain⟨m,rfl⟩:=wl I;show eS P t (.ai xs) (.int k (Int.ofNat m))=Bb s (xs[m]?);simp only[eS,h,S];cases xs[m]? <;>rfl
def mN(h:P.underlying t=some (.slice e))(S:bD P e=some s)(r o l z:Nat){n:Int}(I:0<=n)(k:IntKind):eS P t (.sl r o l z) (.int k n)=bif decide (n.toNat<l)then some (.ptr r (o+n.toNat*s))else none:=by
 obtain⟨m,rfl⟩:=wl I;show eS P t (.sl r o l z) (.int k (Int.ofNat m))=bif decide (m<l)then some (.ptr r (o+m*s))else none
 simp only[eS,h,S];by_cases M:m<l<;>simp[M]
theorem RU(h:P.underlying t=some .string)(s:qr){n:Int}(I:0<=n)(k:IntKind):oK P t (.ae s) (.int k n)=Bc (s[n.toNat]?):=by
 obtain⟨m,rfl⟩:=wl I;show oK P t (.ae s) (.int k (Int.ofNat m))=Bc (s[m]?);simp only[oK,h];cases s[m]? <;>rfl
def IL(P:Program)(t:TypeId)(o:Nat):Option HB->qv
 |some (.cells cs _ _)=>cM P t cs o
 |_=>none
theorem RV(t:TypeId)(o:Nat)(cs:qm)(imm:Nat)(tip:Bool):IL P t o (some (.cells cs imm tip))=cM P t cs o:=rfl
theorem RW(H:Hp)(t:TypeId)(r o:Nat):jL P H t (.ptr r o)=IL P t o (H.get r):=rfl
theorem RX(H:Hp)(t:TypeId)(cs:qm):jL P H t (.a2 cs)=cM P t cs 0:=rfl
def yG(H:Hp)(b:HB)(t:Nat):(H.alloc b).get t=bif t == H.next then some b else H.get t:=by
 rw[aP];by_cases h:t=H.next
 .simp[h]
 .have:(t == H.next)=false:=by simpa using h
  rw[ad h,this,nS]
noncomputable def IM(H:Hp)(r o:Nat)(O:qm):qC->Option HB->Option Hp
 |some s,some (.cells cs S I)=>if O.length=s/\S<=o/\o+s<=cs.length/\O.all AV.one=true then some (H.set r (.cells (splice cs o O) S I))else none
 |_,_=>none
theorem Ep(H:Hp)(r o:Nat)(O:qm)(s:Nat)(cs:qm)(imm:Nat)(tip:Bool):IM H r o O (some s) (some (.cells cs imm tip))=if O.length=s/\imm<=o/\o+s<=cs.length/\O.all AV.one=true then some (H.set r (.cells (splice cs o O) imm tip))else none:=rfl
theorem Er(H:Hp)(t:TypeId)(r o:Nat)(v:AV):mD P H t (.ptr r o) v=IM H r o v.cells (bD P t) (H.get r):=by
 unfold mD;simp only[];cases j:H.get r with
 |none=>cases bD P t<;>rfl
 |some b=>cases b with
  |map U=>cases bD P t<;>rfl
  |cells cs S I=>cases bD P t with
   |none=>rfl
   |some s=>rfl
theorem Es(cs:qm)(o:Nat)(z:qm):splice cs o z=cs.take o++z++cs.drop (o+z.length):=rfl
theorem RY(cs:qm):AV.cells (.agg cs)=cs:=rfl
theorem cells_int(k:IntKind)(n:Int):AV.cells (.int k n)=[.int k n]:=rfl
theorem RZ(b:Bool):AV.cells (.bool b)=[.bool b]:=rfl
theorem R0(b:qr):AV.cells (.ae b)=[.ae b]:=rfl
theorem R1(b:List qm):AV.cells (.ai b)=[.ai b]:=rfl
theorem R2(r o l z:Nat):AV.cells (.sl r o l z)=[.sl r o l z]:=rfl
theorem R3:AV.cells .ab=[.ab]:=rfl
theorem R4(r o:Nat):AV.cells (.ptr r o)=[.ptr r o]:=rfl
theorem R5(r:Nat):AV.cells (.map r)=[.map r]:=rfl
theorem R6(g:Nat)(cap:qm):AV.cells (.bl g cap)=[.bl g cap]:=rfl
theorem R7(k:IntKind)(n:Int):AV.one (.int k n)=true:=rfl
theorem R8(b:Bool):AV.one (.bool b)=true:=rfl
theorem R9(b:qr):AV.one (.ae b)=true:=rfl
theorem Sa(b:List qm):AV.one (.ai b)=true:=rfl
theorem Sb(r o l z:Nat):AV.one (.sl r o l z)=true:=rfl
theorem Sd:AV.one .ab=true:=rfl
theorem Se(r o:Nat):AV.one (.ptr r o)=true:=rfl
theorem Sf(r:Nat):AV.one (.map r)=true:=rfl
theorem Sg(g:Nat)(cap:qm):AV.one (.bl g cap)=true:=rfl
theorem cR:bV.next=0:=rfl
theorem Si(H:Hp)(t:TypeId)(s:qr)(lo F:qv):nC P H t (.ae s) lo F=jx P t (.ae s) lo F:=rfl
theorem Sj(H:Hp)(t:TypeId)(s:List qm)(lo F:qv):nC P H t (.ai s) lo F=jx P t (.ai s) lo F:=rfl
theorem Sk(H:Hp)(t:TypeId)(r o n z:Nat)(lo F:qv):nC P H t (.sl r o n z) lo F=jx P t (.sl r o n z) lo F:=rfl
theorem Sl(H:Hp)(t:TypeId)(lo F:qv):nC P H t .ab lo F=jx P t .ab lo F:=rfl
def IN(n k:Nat):(n == n+(k+1))=false:=aI
def IP(n k:Nat):(n+(k+1) == n)=false:=aI
def IQ(n a b:Nat):(n+a == n+b)=(a == b):=by
 by_cases h:a=b
 .simp[h]
 .have j:(a == b)=false:=by simpa using h
  rw[j];simp;omega
end
attribute [irreducible] aQ bN aU iq
theorem Sx.beq_refl:∀a:Sx,Sx.beq a a=true
 | .var i=>by simp[Sx.beq]
 | .lit n=>by simp[Sx.beq]
 | .cq o k a b=>by simp[Sx.beq,Sx.beq_refl a,Sx.beq_refl b]
 | .eI k a=>by simp[Sx.beq,Sx.beq_refl a]
mutual
theorem AV.beq_refl:∀a:AV,AV.beq a a=true
 | .int k n=>by simp[AV.beq]
 | .sx k e=>by simp[AV.beq,Sx.beq_refl]
 | .bool b=>by simp[AV.beq]
 | .ae s=>by simp[AV.beq]
 | .bK=>rfl
 | .a5=>rfl
 | .bP=>rfl
 | .ab=>rfl
 | .ptr r o=>by simp[AV.beq]
 | .a2 cs=>by simp only[AV.beq];exact rV cs
 | .sl r o l z=>by simp[AV.beq]
 | .ai V=>by simp only[AV.beq];exact IR V
 | .map r=>by simp[AV.beq]
 | .bl f cs=>by simp only[AV.beq,rV cs,jl];simp
 | .agg cs=>by simp only[AV.beq];exact rV cs
 | .aW cs=>by simp only[AV.beq];exact rV cs
theorem rV:∀a:qm,kM a a=true
 |[]=>rfl
 |a::l=>by simp only[kM,AV.beq_refl a,rV l,jl]
theorem IR:∀a:List qm,ur a a=true
 |[]=>rfl
 |a::l=>by simp only[ur,rV a,IR l,jl]
end
def uO(o:Oper):Bool:=rT o.op||pK o.op
def Be(o:Oper):Bool:=uO o||(match o.op with|.store ..|.mapUpdate ..=>true |_=>false)
def Bf(ops:qs):Bool:=
 lX ops&&(List.range ops.length).all (fun i=>match ops[i]? with|some o=>if Nat.blt (i+1) ops.length then uO o else Be o|none=>true)&&(kN ops).all (fun p=>Nat.blt p.2 ops.length)
section
variable {P:Program} {cfg:Cfg} {f N:Nat}
theorem Et{ih:zdc->Res}{Z:qs}:∀{l:qs}{E E':aD}{H H':Hp},jA P cfg ih f N Z l E H=.done .normal E' H'->∃rs,jd P cfg ih f N Z l E H=.done E' H' rs
 |[],E,E',H,H',h=>by
  simp only[jA,Res.done.injEq,oT]at h;obtain⟨rfl,rfl⟩:=h;exact⟨[],rfl⟩
 |o::l,E,E',H,H',h=>by
  rw[yz]at h;simp only[jd];cases J:jc Z E o with
  |true=>
   rw[J]at h;simp only[]at h⊢;cases j:ej P cfg ih f E H o.op with
   |val v H1=>
    rw[j]at h;simp only[]at h⊢;cases hp:fo N E o.dst v with
    |none=>rw[hp]at h;simp[jN]at h
    |some E1=>
     rw[hp]at h;simp only[jN]at h;obtain⟨rs,hr⟩:=Et h;exact⟨_,by simp only[nF,hr,nE];rfl⟩
   |done _ _ _=>rw[j]at h;simp at h
   |ay=>rw[j]at h;simp at h
  |false=>
   rw[J]at h;simp only[]at h⊢;cases hp:fo N E o.dst ea with
   |none=>rw[hp]at h;simp[jN]at h
   |some E1=>
    rw[hp]at h;simp only[jN]at h;obtain⟨rs,hr⟩:=Et h;exact⟨_,by simp only[nF,hr,nE];rfl⟩
def Eu{E:aD}{o:Oper}{H H':Hp}(Z:uO o=true)(h:ej P cfg ih f E H o.op=.val v H'):H'=H:=by
 unfold uO at Z;rw[ky]at Z;rcases Z with Z|Z
 .have I:∀c,o.op≠.call c:=fun c e=>by
   rw[e]at Z;simp only[rT,gJ]at Z;split at Z
   .rename_i j;split at j<;>simp at j
   .simp at Z
  exact(DU Z ((uK I).1 h)).1
 .exact DV Z h
def Sm{E:aD}{o:Oper}{H H':Hp}(Z:Be o=true)(h:ej P cfg ih f E H o.op=.val v H'):H.next<=H'.next:=by
 unfold Be at Z;rw[ky]at Z;rcases Z with Z|Z
 .rw[Eu Z h];exact aT _
 .obtain⟨z,Y,U,V,j,guard⟩:=o;simp only[]at Z h;cases Y<;>simp only[dg]at Z
  case store t a x=>
   simp only[ej,dv,z6]at h;split at h
   .split at h
    .rename_i S;simp only[gI,Res.val.injEq]at h;obtain⟨rfl,rfl⟩:=h;unfold mD at S;split at S
     .split at S
      .split at S
       .simp only[aH]at S;rw[<-S];exact aT _
       .simp at S
      .simp at S
     .simp at S
    .simp[gI]at h
   .simp[gI]at h
  case mapUpdate t m k x=>
   simp only[ej,dv,Ah]at h;split at h
   .split at h
    .rename_i S;simp only[gI,Res.val.injEq]at h;obtain⟨rfl,rfl⟩:=h;unfold nD at S;split at S
     .split at S
      .split at S
       .split at S
        .simp only[aH]at S;rw[<-S];exact aT _
        .simp only[aH]at S;rw[<-S];exact aT _
        .simp at S
       .simp at S
      .simp at S
     .simp at S
    .simp[gI]at h
   .simp[gI]at h
theorem Sn{ih':zdc->Res}{f':FuncId}{E:aD}{op:Op}{H:Hp}(o:pK op=true):ej P cfg ih f E H op=ej P cfg ih' f' E H op:=by
 cases op<;>simp only[pK,gJ,dg]at o<;>try rfl
 rename_i c;simp only[ej,sT];cases hc:c.callee with
 |value g=>rw[hc]at o;simp at o
 |invoke g m=>rfl
 |builtin b=>
  rw[hc]at o;simp only[];cases b<;>simp only[dg]at o<;>rfl
theorem So{E E':aD}{H H':Hp}(m:Bf ops=true)(h:jA P cfg ih f N ops ops E H=.done .normal E' H'):jf P cfg ih f N ops E H=.done .normal E' H':=by
 unfold Bf at m;simp only[cN,kj,nO]at m;obtain⟨⟨S,O⟩,F⟩:=m;obtain⟨rs,hr⟩:=Et h;have z:=yk hr;have hlen:=DS z;obtain⟨_,z2⟩:=DT z;have Z:∀(i:Nat) o,ops[i]?=some o->i+1<ops.length->uO o=true:=fun i o M C=>by
  have:=O i aa;rw[M]at this;simp only[show Nat.blt (i+1) ops.length=true by simpa [iH]using C,bw]at this;exact this
 have U:∀i,i+1<=ops.length->cB rs H' i=H:=fun i=>by
  induction i with
  |zero=>intro _;exact z2
  |succ i ih=>
   intro C;have hri:=bt (show i<rs.length by omega);obtain⟨o,M,V⟩:=uJ z hri;have h1:=ih aa;have h2:cB rs H' (i+1)=cB rs H' i:=by
    cases hd:(rs[i]' aa).did with
    |true=>exact Eu (Z i o M aa) (V.fH hd)
    |false=>exact(V.no hd).2
   rw[h2,h1]
 unfold jf;rw[S];simp only[hr];have J:ut P cfg (kN ops) rs H'=true:=by
  unfold ut;simp only[cN,kj];refine⟨fun r hm=>?_,fun p hpm=>?_⟩
  .obtain⟨i,C⟩:=D1.1 hm;obtain⟨o,M,V⟩:=uJ z C;have K:i<ops.length:=(eu.1 M).1;rw[V.eH,V.eH'];refine Nat.ble_eq_true_of_le ?_;cases hd:r.did with
   |false=>rw[(V.no hd).2];exact aT _
   |true=>
    by_cases I:i+1<ops.length
    .rw[Eu (Z i o M I) (V.fH hd)];exact aT _
    .have:=O i K;rw[M]at this;have hb:Nat.blt (i+1) ops.length=false:=by
      cases hx:Nat.blt (i+1) ops.length with
      |false=>rfl
      |true=>exact(I (by simpa [iH]using hx)).elim
     simp only[hb,dg,bH]at this;exact Sm this (V.fH hd)
  .have hm:p.2<ops.length:=by simpa [iH]using F p hpm
   cases hrp:rs[p.1]? with
   |none=>rfl
   |some r=>
    obtain⟨o,M,V⟩:=uJ z hrp;have K:p.1<ops.length:=(eu.1 M).1;simp only[];cases hd:r.did with
    |false=>rfl
    |true=>
     simp only[pL,nP];have hH:r.H=cB rs H' p.2:=by rw[V.eH,U _ aa,U _ aa]
     unfold zdR;cases Y:gJ r.o.op with
     |cR=>rfl
     |ei=>rfl
     |read=>
      simp only[];have j:=V.fH hd;rw[<-V.eE,<-V.eo,<-V.eH,hH]at j;rw[Sn (P:=P) (cfg:=cfg) (f:=f) (ih:=ih) (ih':=fun _=>.ay) (f':=0) (by simp[pK,Y])]at j;rw[j];simp only[AV.beq_refl]
     |make=>
      exfalso;rw[V.eo]at Y;by_cases I:p.1+1<ops.length
      .have:=Z _ o M I;unfold uO rT pK at this;rw[Y]at this;simp at this
      .have A:=O p.1 K;rw[M]at A;have hb:Nat.blt (p.1+1) ops.length=false:=by
        cases hx:Nat.blt (p.1+1) ops.length with
        |false=>rfl
        |true=>exact(I (by simpa [iH]using hx)).elim
       simp only[hb,dg,bH,Be,uO,rT,pK,Y,Bool.or_self,nP]at A;split at A
       .rename_i j;rw[j]at Y;simp[gJ]at Y
       .rename_i j;rw[j]at Y;simp[gJ]at Y
       .simp at A
 rw[J]
def bN.br{id:Nat}{ops:qs}{l:List SOp}{E:aD}{H:Hp}{Q:AX->aD->Hp->Prop}(A:cfg.bI f id=.text)(J:Bf ops=true)(S:bq N ops ops=some l)
 (h:∀K:aD->Hp->Prop,(∀E' H',Q .normal E' H'->K E' H')->aQ P cfg f l E H K):bN P cfg f N (.br id ops) E H Q:=by
 unfold bN;intro code hc;cases code with
 |region Z z draw=>
  cases draw with
  |false=>simp only[aG,bz]at hc;split at hc<;>simp at hc
  |true=>
   simp only[aG,SC.br.injEq]at hc;obtain⟨rfl,rfl⟩:=hc;obtain⟨n,E',H',j,m⟩:=aQ.run S (h (Q .normal) fun _ _ h=>h);refine⟨_,_,_,dm.br (n:=n) (r:=.done .normal E' H') ?_ aI,m⟩;rw[A];simp only[jg];exact So J j
 |_=>simp[aG]at hc
end
section
variable {P:Program} {H:Hp} {t u e:TypeId} {keep:Bool}
theorem Sp{D:BinOp->Sx->Sx->qy}{t:TypeId}{s u:qr}:dP P D .leq t (.ae s) (.ae u)=some (.bool (sQ s u||s == u)):=rfl
def pN{n z:Nat}{imm:Nat}{tip:Bool}(C:H.get r=some (.cells cs imm tip))(K:((cs.drop o).take (n*s)).length=n*s):fc H s (.sl r o n z)=some (n,(cs.drop o).take (n*s)):=by
 unfold fc;simp only[C,K,bw]
def Ev{k:IntKind}{s:qr}{m:Nat}(U:P.underlying t=some .string)(M:m<=s.length):jx P t (.ae s) none (some (.int k (m:Int)))=some (.ae (s.take m)):=by
 show jx P t (.ae s) none (some (.int k (Int.ofNat m)))=_;simp[jx,U,gS,M]
def IS{k:IntKind}{s:qr}{m:Nat}(U:P.underlying t=some .string)(M:m<=s.length):jx P t (.ae s) (some (.int k (m:Int))) none=some (.ae (s.drop m)):=by
 show jx P t (.ae s) (some (.int k (Int.ofNat m))) none=_;simp only[jx,U,gS];rw[au ⟨M,aT _⟩];rw[iR aI]
def append_nil{b n:Nat}{x:AV}(U:P.underlying t=some (.slice e))(S:bD P e=some s)(Y:cL P e=some b)(V:cn P e=some z)(j:ip P u=true)
 (M:fc H s x=some (n+1,Z)) (K:Z.all AV.one=true) (O:z.length=s) (h1:(n+1)*b<=dd) (h2:n+1<=dd) :
 dh P keep H t u .ab x=some (.sl H.next 0 (n+1) s,H.alloc (.cells Z 0 true)):=by
 simp only[dh,U,S,Y,V,j,M,K,O,nT,bw,fV,kL,h1,h2]
theorem Bg{b n len:Nat}{x:AV}(U:P.underlying t=some (.slice e))(S:bD P e=some s)(Y:cL P e=some b)(M:cn P e=some z)(j:ip P u=true)
 (J:fc H s x=some (n+1,Z)) (K:Z.all AV.one=true) (O:z.length=s) (C:H.get r=some (.cells cs 0 true)) (I:cs.length=len*s) (h1:(len+(n+1))*b<=dd) (h2:len+(n+1)<=dd) :
 dh P false H t u (.sl r 0 len s) x=some (.sl H.next 0 (len+(n+1)) s,(H.az r).alloc (.cells (cs++Z) 0 true)):=by
 have V:fV false H s (.sl r 0 len s)=H:=by
  unfold fV;simp only[C,bR];have:Nat.blt (len*s) cs.length=false:=by
   cases Y:Nat.blt (len*s) cs.length with
   |false=>rfl
   |true=>rw[iH]at Y;omega
  simp[this]
 simp only[dh,U,S,Y,M,j,J,K,O,nT,bw,V,kL,C,h1,h2,bR,I,dx,uA,gV,dg,bH]
end
theorem Sq(E:aD):aV E (.const (.slice none 0 0))=some .ab:=rfl
theorem IT(E:aD):aV E (.const (.map none))=some .a5:=rfl
structure Rc where
 op:Op
 did:Bool
 E:aD
 H:Hp
 val:AV
 H':Hp
variable{E:aD}{H H':Hp}{m:List Rc}
section
variable (P:Program) (cfg:Cfg) (f:FuncId)
def dV:List SOp->List Rc->aD->Hp->(List Rc->aD->Hp->Prop)->Prop
 |[],tr,E,H,Q=>Q tr E H
 |o::l,tr,E,H,Q=>match o.g with
  |none=>iq P cfg f o.op E H fun v H'=>dV l (tr++[⟨o.op,true,E,H,v,H'⟩]) (a0 E o.d v) H' Q
  |some (s,b)=>(E.at s=.bool b/\iq P cfg f o.op E H fun v H'=>dV l (tr++[⟨o.op,true,E,H,v,H'⟩]) (a0 E o.d v) H' Q)\/((E.at s=.bool (!b)\/E.at s=ea)/\dV l (tr++[⟨o.op,false,E,H,ea,H⟩]) (a0 E o.d ea) H Q)
def yH(Z:List Rc)(H':Hp)(m:Nat):Hp:=match Z[m]? with
 |some r=>r.H
 |none=>H'
def pO(r:Rc)(H:Hp):Prop:=match gJ r.op with
 | .read=>∃Z,ej P cfg (fun _=>.ay) 0 r.E H r.op=.val r.val Z
 | .make=>∃b,H.get r.H.next=some b/\r.H'.get r.H.next=some b
 |_=>True
def Bh(Z:List Rc)(H':Hp)(i m:Nat):Prop:=match Z[i]? with
 |some r=>r.did=true->pO P cfg r (yH Z H' m)
 |none=>True
def mO(need:qD)(m:List Rc)(H':Hp):Prop:=(∀r∈m,r.H.next<=r.H'.next)/\∀p∈need,Bh P cfg m H' p.1 p.2
end
section
variable {P:Program} {cfg:Cfg} {f N:Nat}
def uP(r:Rec):Rc:=⟨r.o.op,r.did,r.E,r.H,r.val,r.H'⟩
def HB.beq_refl(b:HB):HB.beq b b=true:=by
 cases b with
 |cells a i t=>simp[HB.beq,rV]
 |map U=>simp[HB.beq,rV]
theorem dV.run{Z:qs}{Q:List Rc->aD->Hp->Prop}:∀{l:qs}{r:List SOp}{Y:List Rc}{E:aD}{H:Hp},bq N Z l=some r->dV P cfg f r Y E H Q ->
 ∃n E' H' rs,jd P cfg (dw P cfg n) f N Z l E H=.done E' H' rs/\Q (Y++rs.map uP) E' H'
 |[],r,Y,E,H,hs,F=>by
  simp only[bq,aH]at hs;subst hs;unfold dV at F;exact⟨0,E,H,[],rfl,oL⟩
 |o::l,r,Y,E,H,hs,F=>by
  simp only[bq]at hs;split at hs
  .rename_i d g r' M h2 A;simp only[aH]at hs;subst hs;obtain⟨ct,w2⟩:=Iw (E:=E) h2;have z:∀k k',k<=k'->mM (dw P cfg k) (dw P cfg k'):=fun k k' hk t ht=>yA hk ht;have j:iq P cfg f o.op E H (fun v H'=>dV P cfg f r' (Y++[⟨o.op,true,E,H,v,H'⟩]) (a0 E d v) H' Q)->jc Z E o=true->∃n E' H' rs,jd P cfg (dw P cfg n) f N Z (o::l) E H=.done E' H' rs/\Q (Y++rs.map uP) E' H':=fun O J=>by
    unfold iq at O;obtain⟨n,v,H1,K,g2⟩:=O;obtain⟨m,V,U,rs,I,S⟩:=dV.run A g2;refine⟨max n m,V,U,⟨o,true,E,H,v,H1⟩::rs,?_,by simpa [uP]using S⟩;simp only[jd,J];rw[AU (z n (max n m) (AO _ _)) (by rw[K];simp),K];simp only[A6 M,nF];rw[AY (z m (max n m) (AP _ _)) (by rw[I];simp),I];rfl
   unfold dV at F;cases C:g with
   |none=>
    rw[C]at F;exact j F (ct C)
   |some sb=>
    obtain⟨s,b⟩:=sb;rw[C]at F;simp only[]at F;rcases F with⟨e,F⟩|⟨e,F⟩
    .exact j F ((w2 s b C).1 e)
    .obtain⟨m,V,U,rs,I,S⟩:=dV.run A F;refine⟨m,V,U,⟨o,false,E,H,ea,H⟩::rs,?_,by simpa [uP]using S⟩;simp only[jd,(w2 s b C).2 e,A6 M,nF,I,nE]
  .simp at hs
theorem Ew{need:qD}{rs:List Rec}(h:mO P cfg need (rs.map uP) H'):ut P cfg need rs H'=true:=by
 unfold ut;simp only[cN,kj];refine⟨fun r M=>Nat.ble_eq_true_of_le (h.1 _ (l3.2 ⟨r,M,rfl⟩)),fun p hp=>?_⟩;have S:=h.2 p hp;have U:yH (rs.map uP) H' p.2=cB rs H' p.2:=by
  unfold yH cB;rw[ev];cases rs[p.2]? <;>rfl
 unfold Bh at S;rw[ev,U]at S;cases hr:rs[p.1]? with
 |none=>rfl
 |some r=>
  rw[hr]at S;simp only[pI,uP]at S;simp only[ky,th];cases hd:r.did with
  |false=>exact .inl rfl
  |true=>
   right
   have S:=S hd;unfold pO at S;unfold zdR;cases o:gJ r.o.op with
   |cR=>rfl
   |ei=>rfl
   |read=>
    rw[o]at S;simp only[]at S⊢;obtain⟨Z,m⟩:=S;rw[m];exact AV.beq_refl _
   |make=>
    rw[o]at S;simp only[]at S⊢;obtain⟨b,j,m⟩:=S;rw[j,m];exact HB.beq_refl b
def IU{id:Nat}{J:qs}{need:qD}
 (A:∀ih:zdc->Res,jg P cfg ih f N E H (cfg.bI f id) ops=jf P cfg ih f N J E H) (Z:lX J=true) (S:bq N J J=some l) (I:kN J=need)
 (h:∀K:List Rc->aD->Hp->Prop,(∀m E' H',mO P cfg need m H'->Q .normal E' H'->K m E' H')->dV P cfg f l [] E H K):bN P cfg f N (.br id ops) E H Q:=by
 unfold bN;intro code hc;cases code with
 |region O z draw=>
  cases draw with
  |false=>simp only[aG,bz]at hc;split at hc<;>simp at hc
  |true=>
   simp only[aG,SC.br.injEq]at hc;obtain⟨rfl,rfl⟩:=hc;obtain⟨n,E',H',rs,j,V,U⟩:=dV.run S (h (fun m E' H'=>mO P cfg need m H'/\Q .normal E' H') fun _ _ _ h Y=>⟨h,Y⟩);refine⟨_,_,_,dm.br (n:=n) (r:=.done .normal E' H') ?_ aI,U⟩;rw[A];unfold jf;rw[Z];simp only[j];rw[I,Ew (by simpa using V)]
 |_=>simp[aG]at hc
def Sr{id:Nat}{need:qD}(A:cfg.bI f id=.text)(J:lX ops=true)(S:bq N ops ops=some l)(I:kN ops=need)
 (h:∀K:List Rc->aD->Hp->Prop,(∀m E' H',mO P cfg need m H'->Q .normal E' H'->K m E' H')->dV P cfg f l [] E H K):bN P cfg f N (.br id ops) E H Q:=
 IU (fun ih=>by rw[A];rfl) J S I h
def IV{id:Nat}{ord:qx}{need:qD}(A:cfg.bI f id=.bm ord)(z:uu ord ops=true)(J:lX (eK ord ops)=true)(S:bq N (eK ord ops) (eK ord ops)=some l)(I:kN (eK ord ops)=need)
 (h:∀K:List Rc->aD->Hp->Prop,(∀m E' H',mO P cfg need m H'->Q .normal E' H'->K m E' H')->dV P cfg f l [] E H K):bN P cfg f N (.br id ops) E H Q:=
 IU (fun ih=>by rw[A];simp only[jg,z]) J S I h
def dV.nil{Q:List Rc->aD->Hp->Prop}(h:Q m E H):dV P cfg f [] m E H Q:=h
def yI:=@dV.nil
def dV.step{d:Nat}{op:Op}{Q:List Rc->aD->Hp->Prop}
 (h:aQ P cfg f [⟨some d,op,none⟩] E H fun E' H'=>dV P cfg f l (m++[⟨op,true,E,H,E'.at d,H'⟩]) E' H' Q):dV P cfg f (⟨some d,op,none⟩::l) m E H Q:=by
 unfold aQ at h;simp only[]at h;unfold dV;refine iq.mono (fun v H' F=>?_) h;unfold aQ at F;have:(a0 E (some d) v).at d=v:=Iv;rw[this]at F;exact F
def aL:=@dV.step
def bu{op:Op}{Q:List Rc->aD->Hp->Prop}(o:gJ op=.ei)
 (h:aQ P cfg f [⟨none,op,none⟩] E H fun E' H'=>∀v,dV P cfg f l (m++[⟨op,true,E,H,v,H'⟩]) E' H' Q):dV P cfg f (⟨none,op,none⟩::l) m E H Q:=by
 unfold aQ at h;simp only[]at h;unfold dV;refine iq.mono (fun v H' F=>?_) h;unfold aQ at F;exact F v
theorem dV.guard{d:qC}{op:Op}{t:Bool}{Q:List Rc->aD->Hp->Prop}(h:E.at s=.bool t)(h1:t=b->dV P cfg f (⟨d,op,none⟩::l) m E H Q)(h2:t=!b->dV P cfg f l (m++[⟨op,false,E,H,ea,H⟩]) (a0 E d ea) H Q):
 dV P cfg f (⟨d,op,some (s,b)⟩::l) m E H Q:=by
 unfold dV;simp only[];by_cases e:t=b
 .left
  refine⟨by rw[h,e],?_⟩;have:=h1 e;unfold dV at this;exact this
 .right
  have K:t=!b:=by cases t<;>cases b<;>simp_all
  exact⟨.inl (by rw[h,K]),h2 K⟩
def Ss{bV:Hp}(h:aV E x=some a)(h1:jL P H t a=some v):pO P cfg ⟨.load t x,true,E,bV,v,A⟩ H:=
 ⟨H,by simp only[ej,dv,xQ,Go.Ab.ret,h,h1,gI]⟩
def Su{y:Operand}{ok:Bool}{bV:Hp}{b:AV}(h:aV E x=some a)(h1:aV E y=some b)(h2:gT P H t a b ok=some v):pO P cfg ⟨.lookup t x y ok,true,E,bV,v,A⟩ H:=
 ⟨H,by simp only[ej,dv,xV,Go.Ab.ret,h,h1,h2,gI]⟩
def Sv{bV:Hp}(h:aV E x=some a)(h1:gj P H t a=some v):pO P cfg ⟨.call ⟨.builtin .len,#[x],#[t]⟩,true,E,bV,v,A⟩ H:=
 ⟨H,by simp only[ej,sT,io,h,pG,h1,gI]⟩
def Sw{s:TypeId}{bV:Hp}(h:aV E x=some a)(h1:lV P H s t a=some v):pO P cfg ⟨.convert s t x,true,E,bV,v,A⟩ H:=
 ⟨H,by simp only[ej,dv,xR,Go.Ab.ret,h,h1,gI]⟩
def Sy{bV:Hp}(h:aV E x=some a)(h1:jM E lo=some S)(h2:jM E F=some U)(Z:nC P H t a S U=some v):pO P cfg ⟨.slice t x lo F none,true,E,bV,v,A⟩ H:=
 ⟨H,by simp only[ej,dv,xU,Go.Ab.ret,h,h1,h2,Z,gI]⟩
def Sz{op:Op}{bV:Hp}{b:HB}(o:gJ op=.make)(h:H.get bV.next=some b)(h2:A.get bV.next=some b):pO P cfg ⟨op,true,E,bV,v,A⟩ H:=by
 unfold pO;rw[o];exact⟨b,h,h2⟩
def SA{Z:List Rc}{m:Nat}{r:Rc}(h:Z[i]?=some r)(S:r.did=true->pO P cfg r (yH Z H' m)):Bh P cfg Z H' i m:=by
 unfold Bh;rw[h];exact S
end
section
variable {P:Program} {cfg:Cfg} {f:FuncId} {l:List SOp} {E:aD} {H:Hp} {Q:aD -> Hp -> Prop} {d:Nat} {x y:Operand} {ts:Array TypeId} {k k':IntKind} {a b:Int}
def aQ.min2(h:aV E x=some (.int k a))(h1:aV E y=some (.int k' b))(o:aQ P cfg f l (T.set E d (some (.int k (min a b)))) H Q):aQ P cfg f (⟨some d,.call ⟨.builtin .min,#[x,y],ts⟩,none⟩::l) E H Q:=
 A8 (c:=⟨.builtin .min,#[x,y],ts⟩) rfl (vs:=[.int k a,.int k' b]) El (v:=.int k (min a b)) (by
  simp only[pG,sS,mm,dg,bH,kR]
  congr 3;omega) o
def aQ.max2(h:aV E x=some (.int k a))(h1:aV E y=some (.int k' b))(o:aQ P cfg f l (T.set E d (some (.int k (max a b)))) H Q):aQ P cfg f (⟨some d,.call ⟨.builtin .max,#[x,y],ts⟩,none⟩::l) E H Q:=
 A8 (c:=⟨.builtin .max,#[x,y],ts⟩) rfl (vs:=[.int k a,.int k' b]) El (v:=.int k (max a b)) (by
  simp only[pG,sS,mm,bw,kR]
  congr 3;omega) o
end
attribute [irreducible] dV
abbrev cD(l:qo):AV:=.ai (l.map fun s=>[.ae s])
abbrev nV(l:qp):AV:=.ai (l.map fun n=>[.int .i64 n])
inductive Ex where
 |mk (kind:Int) (n:Int) (name:qr) (op:Int) (kids:List Ex)
abbrev qz:=List Ex
def Ex.ag:Ex->Int|.mk x _ _ _ _=>x
def Ex.n:Ex->Int|.mk _ x _ _ _=>x
def Ex.name:Ex->qr|.mk _ _ x _ _=>x
def Ex.op:Ex->Int|.mk _ _ _ x _=>x
def Ex.ak:Ex->qz|.mk _ _ _ _ x=>x
mutual
def Ex.cells:Ex->qm
 | .mk gM b7 ci bX bQ=>[.int .i64 gM,.int .i64 b7,.ae ci,.int .i64 bX,.ai (Bi bQ)]
def Bi:qz->List qm
 |[]=>[]
 |x::xs=>Ex.cells x::Bi xs
end
theorem IW:∀l:qz,Bi l=l.map Ex.cells
 |[]=>rfl
 |x::xs=>by rw[Bi,IW xs];rfl
def Ex.aq(x:Ex):x.cells=[.int .i64 x.ag,.int .i64 x.n,.ae x.name,.int .i64 x.op,.ai (x.ak.map Ex.cells)]:=by
 cases x;simp only[Ex.cells,IW,Ex.ag,Ex.n,Ex.name,Ex.op,Ex.ak]
def jm:=@Ex.aq
def Ex.aN(x:Ex):x.cells.length=5:=rU
def Ex.c0(x:Ex):x.cells[0]?=some (.int .i64 x.ag):=rU
def Ex.c1(x:Ex):x.cells[1]?=some (.int .i64 x.n):=rU
def Ex.c2(x:Ex):x.cells[2]?=some (.ae x.name):=rU
def Ex.c3(x:Ex):x.cells[3]?=some (.int .i64 x.op):=rU
def Ex.c4(x:Ex):x.cells[4]?=some (.ai (x.ak.map Ex.cells)):=rU
theorem Ex.aX(x:Ex):cH 5 x.cells=some (.agg x.cells):=by unfold cH;rw[jm];rfl
def Ex.one(x:Ex):x.cells.all AV.one=true:=rU
inductive St where
 |mk (kind:Int) (name:qr) (to:qr) (n:Int) (at_:Ex) (value:Ex) (args:qz) (thn:List St) (els:List St)
abbrev qt:=List St
def St.ag:St->Int|.mk x _ _ _ _ _ _ _ _=>x
def St.name:St->qr|.mk _ x _ _ _ _ _ _ _=>x
def St.to:St->qr|.mk _ _ x _ _ _ _ _ _=>x
def St.n:St->Int|.mk _ _ _ x _ _ _ _ _=>x
def St.aL:St->Ex|.mk _ _ _ _ x _ _ _ _=>x
def St.value:St->Ex|.mk _ _ _ _ _ x _ _ _=>x
def St.args:St->qz|.mk _ _ _ _ _ _ x _ _=>x
def St.a1:St->qt|.mk _ _ _ _ _ _ _ x _=>x
def St.bh:St->qt|.mk _ _ _ _ _ _ _ _ x=>x
mutual
def St.cells:St->qm
 | .mk gM b7 ci bX bQ dt fD hY Y=>[.int .i64 gM,.ae b7,.ae ci,.int .i64 bX,.int .i64 bQ.ag,.int .i64 bQ.n,.ae bQ.name,.int .i64 bQ.op,.ai (bQ.ak.map Ex.cells),.int .i64 dt.ag,.int .i64 dt.n,.ae dt.name,.int .i64 dt.op,.ai (dt.ak.map Ex.cells),.ai (fD.map Ex.cells),.ai (yJ hY),.ai (yJ Y)]
def yJ:qt->List qm
 |[]=>[]
 |x::xs=>St.cells x::yJ xs
end
theorem IX:∀l:qt,yJ l=l.map St.cells
 |[]=>rfl
 |x::xs=>by rw[yJ,IX xs];rfl
def St.aq(x:St):x.cells=[.int .i64 x.ag,.ae x.name,.ae x.to,.int .i64 x.n,.int .i64 x.aL.ag,.int .i64 x.aL.n,.ae x.aL.name,.int .i64 x.aL.op,.ai (x.aL.ak.map Ex.cells),.int .i64 x.value.ag,.int .i64 x.value.n,.ae x.value.name,.int .i64 x.value.op,.ai (x.value.ak.map Ex.cells),.ai (x.args.map Ex.cells),.ai (x.a1.map St.cells),.ai (x.bh.map St.cells)]:=by
 cases x;simp only[St.cells,IX,St.ag,St.name,St.to,St.n,St.aL,St.value,St.args,St.a1,St.bh]
def l7:=@St.aq
def St.aN(x:St):x.cells.length=17:=jk
def St.c0(x:St):x.cells[0]?=some (.int .i64 x.ag):=jk
def St.c1(x:St):x.cells[1]?=some (.ae x.name):=jk
def St.c2(x:St):x.cells[2]?=some (.ae x.to):=jk
def St.c3(x:St):x.cells[3]?=some (.int .i64 x.n):=jk
def St.c4(x:St):x.cells[4]?=some (.int .i64 x.aL.ag):=jk
def St.c5(x:St):x.cells[5]?=some (.int .i64 x.aL.n):=jk
def St.c6(x:St):x.cells[6]?=some (.ae x.aL.name):=jk
def St.c7(x:St):x.cells[7]?=some (.int .i64 x.aL.op):=jk
def St.c8(x:St):x.cells[8]?=some (.ai (x.aL.ak.map Ex.cells)):=jk
def St.c9(x:St):x.cells[9]?=some (.int .i64 x.value.ag):=jk
def St.c10(x:St):x.cells[10]?=some (.int .i64 x.value.n):=jk
def St.c11(x:St):x.cells[11]?=some (.ae x.value.name):=jk
def St.c12(x:St):x.cells[12]?=some (.int .i64 x.value.op):=jk
def St.c13(x:St):x.cells[13]?=some (.ai (x.value.ak.map Ex.cells)):=jk
def St.c14(x:St):x.cells[14]?=some (.ai (x.args.map Ex.cells)):=jk
def St.c15(x:St):x.cells[15]?=some (.ai (x.a1.map St.cells)):=jk
def St.c16(x:St):x.cells[16]?=some (.ai (x.bh.map St.cells)):=jk
theorem St.aX(x:St):cH 17 x.cells=some (.agg x.cells):=by unfold cH;rw[l7];rfl
def St.one(x:St):x.cells.all AV.one=true:=jk
theorem SB(x:St):cH 5 (x.cells.drop 4)=some (.agg x.aL.cells):=by unfold cH;rw[l7,jm];rfl
theorem St.bO(x:St):cH 5 (x.cells.drop 9)=some (.agg x.value.cells):=by unfold cH;rw[l7,jm];rfl
structure Fu where
 name:qr
 params:qo
 ah:qo
 body:qt
 value:Ex
abbrev qG:=List Fu
def Fu.cells(x:Fu):qm:=[.ae x.name,cD x.params,cD x.ah,.ai (x.body.map St.cells),.int .i64 x.value.ag,.int .i64 x.value.n,.ae x.value.name,.int .i64 x.value.op,.ai (x.value.ak.map Ex.cells)]
theorem Fu.aq(x:Fu):x.cells=[.ae x.name,cD x.params,cD x.ah,.ai (x.body.map St.cells),.int .i64 x.value.ag,.int .i64 x.value.n,.ae x.value.name,.int .i64 x.value.op,.ai (x.value.ak.map Ex.cells)]:=rfl
def wr:=@Fu.aq
def Fu.aN(x:Fu):x.cells.length=9:=oU
def Fu.c0(x:Fu):x.cells[0]?=some (.ae x.name):=oU
def Fu.c1(x:Fu):x.cells[1]?=some (cD x.params):=oU
def Fu.c2(x:Fu):x.cells[2]?=some (cD x.ah):=oU
def Fu.c3(x:Fu):x.cells[3]?=some (.ai (x.body.map St.cells)):=oU
def Fu.c4(x:Fu):x.cells[4]?=some (.int .i64 x.value.ag):=oU
def Fu.c5(x:Fu):x.cells[5]?=some (.int .i64 x.value.n):=oU
def Fu.c6(x:Fu):x.cells[6]?=some (.ae x.value.name):=oU
def Fu.c7(x:Fu):x.cells[7]?=some (.int .i64 x.value.op):=oU
def Fu.c8(x:Fu):x.cells[8]?=some (.ai (x.value.ak.map Ex.cells)):=oU
theorem Fu.aX(x:Fu):cH 9 x.cells=some (.agg x.cells):=by unfold cH;rw[wr];rfl
def Fu.one(x:Fu):x.cells.all AV.one=true:=oU
theorem Fu.bO(x:Fu):cH 5 (x.cells.drop 4)=some (.agg x.value.cells):=by unfold cH;rw[wr,jm];rfl
structure Ar where
 name:qr
 len:Int
def Ar.cells(x:Ar):qm:=[.ae x.name,.int .i64 x.len]
theorem Ar.aq(x:Ar):x.cells=[.ae x.name,.int .i64 x.len]:=rfl
def Ar.aN(x:Ar):x.cells.length=2:=A2
def Ar.c0(x:Ar):x.cells[0]?=some (.ae x.name):=A2
def Ar.c1(x:Ar):x.cells[1]?=some (.int .i64 x.len):=A2
theorem Ar.aX(x:Ar):cH 2 x.cells=some (.agg x.cells):=by unfold cH;rw[Ar.aq];rfl
def Ar.one(x:Ar):x.cells.all AV.one=true:=A2
structure Pr where
 af:List Ar
 funcs:qG
def Pr.cells(x:Pr):qm:=[.ai (x.af.map Ar.cells),.ai (x.funcs.map Fu.cells)]
theorem Pr.aq(x:Pr):x.cells=[.ai (x.af.map Ar.cells),.ai (x.funcs.map Fu.cells)]:=rfl
def Bj:=@Pr.aq
def Pr.aN(x:Pr):x.cells.length=2:=A3
def Pr.c0(x:Pr):x.cells[0]?=some (.ai (x.af.map Ar.cells)):=A3
def Pr.c1(x:Pr):x.cells[1]?=some (.ai (x.funcs.map Fu.cells)):=A3
theorem Pr.aX(x:Pr):cH 2 x.cells=some (.agg x.cells):=by unfold cH;rw[Bj];rfl
def Pr.one(x:Pr):x.cells.all AV.one=true:=A3
structure Tk where
 ag:Int
 text:qr
 aL:Int
def Tk.cells(x:Tk):qm:=[.int .i64 x.ag,.ae x.text,.int .i64 x.aL]
theorem Tk.aq(x:Tk):x.cells=[.int .i64 x.ag,.ae x.text,.int .i64 x.aL]:=rfl
def Tk.aN(x:Tk):x.cells.length=3:=yB
def Tk.c0(x:Tk):x.cells[0]?=some (.int .i64 x.ag):=yB
def Tk.c1(x:Tk):x.cells[1]?=some (.ae x.text):=yB
def Tk.c2(x:Tk):x.cells[2]?=some (.int .i64 x.aL):=yB
theorem Tk.aX(x:Tk):cH 3 x.cells=some (.agg x.cells):=by unfold cH;rw[Tk.aq];rfl
def Tk.one(x:Tk):x.cells.all AV.one=true:=yB
structure Nd where
 op:Int
 cu:Int
 ak:qp
def Nd.cells(x:Nd):qm:=[.int .i64 x.op,.int .i64 x.cu,nV x.ak]
theorem Nd.aq(x:Nd):x.cells=[.int .i64 x.op,.int .i64 x.cu,nV x.ak]:=rfl
def Nd.aN(x:Nd):x.cells.length=3:=yC
def Nd.c0(x:Nd):x.cells[0]?=some (.int .i64 x.op):=yC
def Nd.c1(x:Nd):x.cells[1]?=some (.int .i64 x.cu):=yC
def Nd.c2(x:Nd):x.cells[2]?=some (nV x.ak):=yC
theorem Nd.aX(x:Nd):cH 3 x.cells=some (.agg x.cells):=by unfold cH;rw[Nd.aq];rfl
def Nd.one(x:Nd):x.cells.all AV.one=true:=yC
structure Gr where
 name:qr
 params:Int
 e7:List Nd
 value:Int
 e0:Int
def Gr.cells(x:Gr):qm:=[.ae x.name,.int .i64 x.params,.ai (x.e7.map Nd.cells),.int .i64 x.value,.int .i64 x.e0]
theorem Gr.aq(x:Gr):x.cells=[.ae x.name,.int .i64 x.params,.ai (x.e7.map Nd.cells),.int .i64 x.value,.int .i64 x.e0]:=rfl
def Gr.aN(x:Gr):x.cells.length=5:=uL
def Gr.c0(x:Gr):x.cells[0]?=some (.ae x.name):=uL
def Gr.c1(x:Gr):x.cells[1]?=some (.int .i64 x.params):=uL
def Gr.c2(x:Gr):x.cells[2]?=some (.ai (x.e7.map Nd.cells)):=uL
def Gr.c3(x:Gr):x.cells[3]?=some (.int .i64 x.value):=uL
def Gr.c4(x:Gr):x.cells[4]?=some (.int .i64 x.e0):=uL
theorem Gr.aX(x:Gr):cH 5 x.cells=some (.agg x.cells):=by unfold cH;rw[Gr.aq];rfl
def Gr.one(x:Gr):x.cells.all AV.one=true:=uL
structure Un where
 af:List Ar
 funcs:List Gr
def Un.cells(x:Un):qm:=[.ai (x.af.map Ar.cells),.ai (x.funcs.map Gr.cells)]
theorem Un.aq(x:Un):x.cells=[.ai (x.af.map Ar.cells),.ai (x.funcs.map Gr.cells)]:=rfl
def Un.aN(x:Un):x.cells.length=2:=A4
def Un.c0(x:Un):x.cells[0]?=some (.ai (x.af.map Ar.cells)):=A4
def Un.c1(x:Un):x.cells[1]?=some (.ai (x.funcs.map Gr.cells)):=A4
theorem Un.aX(x:Un):cH 2 x.cells=some (.agg x.cells):=by unfold cH;rw[Un.aq];rfl
def Un.one(x:Un):x.cells.all AV.one=true:=A4
end Go.Ab
namespace Go.Proofs.YtbflaciihaijgaaGreat
set_option maxRecDepth 20000
open Go Go.Ab Proofs.Tryz
variable{t:Nat}
def fit:Fit prog:=Fit.of aA
def pls:List (Nat×Nat×zdk):=[(6,4,(.bm [0,1,2,4,5,6,7,11,12,3,8,9,10,13,14])),
 (7,9,(.bm [0,1,2,4,5,8,10,3,6,7,9,11])),
 (7,10,(.bm [0,1,2,4,5,8,10,3,6,7,9,11])),
 (10,36,(.split 10 13 .text (.bm [0,1,2,3,4,5,6,7,8,9,11,12,13,10]))),
 (10,41,(.split 11 14 .text (.bm [0,1,2,3,4,5,6,7,8,9,10,12,13,14,11]))),
 (22,22,(.bm [0,1,2,3,4,5,6,7,10,8,9,11])),
 (54,14,(.bm [0,1,2,4,5,7,9,3,6,8,10])),
 (56,4,(.bm [0,1,2,4,5,7,8,10,11,12,3,6,9,13,14,15,16])),
 (108,23,(.bm [0,1,2,3,4,5,6,7,9,10,11,12,13,14,8,15,16,17,18,19])),
 (108,24,(.bm [0,1,2,3,4,5,6,8,9,10,11,12,13,7,14,15,16])),
 (175,23,(.bm [0,2,3,4,5,6,7,1,8,9])),
 (180,13,(.bm [0,1,2,3,4,5,6,8,9,7,10,11,12]))]
def aK:=ac @Sq (ac @List.toList_toArray.{0} (ac @cR (ac @rR (ac @l0 (ac @pL (ac @l4 (ac @List.length_map.{0,0} (ac @Int.natCast_zero (ac @Rq (ac @Rr (ac @Rt (ac @Ru (ac @Rv (ac @gc (ac @cond_true.{1} (ac @cond_false.{1} (@bR)))))))))))))))))
def aW:=ac @Ex.aN (ac @Ex.c0 (ac @Ex.c1 (ac @Ex.c2 (ac @Ex.c3 (ac @Ex.c4 (ac @Ex.aX (ac @Ex.one (ac @St.aN (ac @St.c0 (ac @St.c1 (ac @St.c2 (ac @St.c3 (ac @St.c4 (ac @St.c5 (ac @St.c6 (ac @St.c7 (ac @St.c8 (ac @St.c9 (ac @St.c10 (ac @St.c11 (ac @St.c12 (ac @St.c13 (ac @St.c14 (ac @St.c15 (ac @St.c16 (ac @St.aX (ac @St.one (ac @SB (ac @St.bO (ac @Fu.aN (ac @Fu.c0 (ac @Fu.c1 (ac @Fu.c2 (ac @Fu.c3 (ac @Fu.c4 (ac @Fu.c5 (ac @Fu.c6 (ac @Fu.c7 (ac @Fu.c8 (ac @Fu.aX (ac @Fu.one (ac @Fu.bO (ac @Ar.aN (ac @Ar.c0 (ac @Ar.c1 (ac @Ar.aX (ac @Ar.one (ac @Pr.aN (ac @Pr.c0 (ac @Pr.c1 (ac @Pr.aX (ac @Pr.one (ac @Tk.aN (ac @Tk.c0 (ac @Tk.c1 (ac @Tk.c2 (ac @Tk.aX (ac @Tk.one (ac @Nd.aN (ac @Nd.c0 (ac @Nd.c1 (ac @Nd.c2 (ac @Nd.aX (ac @Nd.one (ac @Gr.aN (ac @Gr.c0 (ac @Gr.c1 (ac @Gr.c2 (ac @Gr.c3 (ac @Gr.c4 (ac @Gr.aX (ac @Gr.one (ac @Un.aN (ac @Un.c0 (ac @Un.c1 (ac @Un.aX (ac @Un.one (ac @Si (ac @Sj (ac @Sk (ac @Sl (ac @List.getElem?_drop.{0} (ac @sZ (ac @if_true.{1} (ac @Er (ac @Ep (ac @Es (ac @RY (ac @cells_int (ac @RZ (ac @R0 (ac @R1 (ac @R2 (ac @R3 (ac @R4 (ac @R5 (ac @R6 (ac @R7 (ac @R8 (ac @R9 (ac @Sa (ac @Sb (ac @Sd (ac @Se (ac @Sf (ac @Sg (ac @List.all_cons.{0} (ac @List.all_nil.{0} (ac @jl (ac @iV (ac @bb (ac @oT (ac @dx (ac @aT (ac @List.nil_append.{0} (ac @List.append_nil.{0} (ac @List.cons_append.{0} (ac @br (ac @bG (ac @cR (ac @beq_self_eq_true.{0} (ac @IN (ac @IP (ac @IQ (ac @gU (ac @List.getElem?_map.{0,0} (ac @Option.map_some.{0,0} (ac @RW (ac @RX (ac @RV (ac @RR (ac @RS (ac @get_set (ac @yG (ac @List.getElem?_cons_succ.{0} (ac @List.getElem?_cons_zero.{0} (ac @List.drop_succ_cons.{0} (ac @List.drop_zero.{0} (ac @List.take_succ_cons.{0} (ac @List.take_zero.{0} (ac @List.length_cons.{0} (ac @List.length_nil.{0} (ac @Int.natCast_nonneg (ac @yD (ac @Rw (ac @Rz (ac @RA (ac @RB (ac @RC (ac @RD (ac @RE (ac @RF (ac @RG (ac @RH (ac @RI (ac @RJ (ac @RK (ac @RL (ac @RM (@RN))))))))))))))))))))))))))))))))))))))))))))))))))))))))))))))))))))))))))))))))))))))))))))))))))))))))))))))))))))))))))))))))))))))))))))))))))))))))))))))))
structure zc7 (cfg:Cfg) (f:FuncId):Prop where
 call:∀args,cfg.call f args=none
 ao:cfg.ao f=false
 am:cfg.am f=false
abbrev b8(t i k u:Nat):Prop:=(∀r o:Nat,sO prog t (.ptr r o) i=some (.ptr r (o+k)))/\(∀cs:qm,sO prog t (.a2 cs) i=some (.a2 (cs.drop k)))/\∀cs:qm,uo prog t (.agg cs) i=cM prog u cs k
def cj{i k u:Nat}(h:b8 t i k u:=by exact⟨fun _ _=>aA,fun _=>aA,fun _=>aA⟩):b8 t i k u:=h
abbrev mP(t s:Nat):Prop:=∀(r o l z:Nat) {n:Int} (_:0<=n) (k:IntKind),eS prog t (.sl r o l z) (.int k n)=bif decide (n.toNat<l)then some (.ptr r (o+n.toNat*s))else none
abbrev l8(t s:Nat):Prop:=(∀(V:List qm) {n:Int} (_:0<=n) (k:IntKind),eS prog t (.ai V) (.int k n)=Bb s (V[n.toNat]?))/\(∀(H:Hp) (V:List qm),gj prog H t (.ai V)=some (.int .i64 V.length))/\(∀(H:Hp) (r o n z:Nat),gj prog H t (.sl r o n z)=some (.int .i64 n))/\∀H:Hp,gj prog H t .ab=some (.int .i64 0)
def mQ{e s:Nat}(h:prog.underlying t=some (.slice e))(S:bD prog e=some s):l8 t s:=⟨fun V _ I k=>RT h S V I k,fun _ V=>Eo h V,fun _ r o n z=>wo h r o n z,fun _=>Ba h⟩
def oW:bD prog 2=some 1:=aA
def rW:cL prog 2=some 8:=aA
def SD(cs:qm)(o:Nat):cM prog 2 cs o=cs[o]?:=gx underlying2 rfl cs o
def rX:cn prog 2=some [(.int .i64 0)]:=aA
def dF:=ac @oW (ac @SD (ac @rW (@rX)))
def pP:bD prog 3=some 1:=aA
def uQ:cL prog 3=some 8:=aA
def SE(cs:qm)(o:Nat):cM prog 3 cs o=cs[o]?:=gx underlying3 rfl cs o
def uR:cn prog 3=some [(.int .i64 0)]:=aA
def cI:=ac @pP (ac @SE (ac @uQ (@uR)))
def SF:bD prog 4=some 1:=aA
def SG:cL prog 4=some 1:=aA
def SH(cs:qm)(o:Nat):cM prog 4 cs o=cs[o]?:=gx underlying4 rfl cs o
def SI:cn prog 4=some [(.bool false)]:=aA
def IY:=ac @SF (ac @SH (ac @SG (@SI)))
def SJ:bD prog 5=some 1:=aA
def SK:cL prog 5=some 1:=aA
def SL(cs:qm)(o:Nat):cM prog 5 cs o=cs[o]?:=gx underlying5 rfl cs o
def SM:cn prog 5=some [(.int .u8 0)]:=aA
def oX:=ac @SJ (ac @SL (ac @SK (@SM)))
def rY:bD prog 9=some 1:=aA
def tk:cL prog 9=some 16:=aA
def SN(cs:qm)(o:Nat):cM prog 9 cs o=cs[o]?:=gx underlying9 rfl cs o
def tl:cn prog 9=some [(.ae [])]:=aA
def SO(H:Hp)(s:qr):gj prog H 9 (.ae s)=some (.int .i64 s.length):=RO underlying9 s
def SP(s:qr){n:Int}(I:0<=n)(k:IntKind):oK prog 9 (.ae s) (.int k n)=Bc (s[n.toNat]?):=RU underlying9 s I k
def cY:=ac @rY (ac @SN (ac @tk (ac @tl (ac @SO (@SP)))))
def SQ:bD prog 22=some 1:=aA
def SR:cL prog 22=some 24:=aA
def SS(cs:qm)(o:Nat):cM prog 22 cs o=cs[o]?:=gx underlying22 rfl cs o
def SU:cn prog 22=some [.ab]:=aA
def SV:mP 22 2:=fun r o l z _ I k=>mN underlying22 (show bD prog 75=some 2 from by kernel_rfl) r o l z I k
def SW:l8 22 2:=mQ underlying22 (show bD prog 75=some 2 from by kernel_rfl)
def fg:=ac @SQ (ac @SS (ac @SR (ac @SU (ac @SV (@SW)))))
def SX:bD prog 23=some 1:=aA
def SY:cL prog 23=some 24:=aA
def SZ(cs:qm)(o:Nat):cM prog 23 cs o=cs[o]?:=gx underlying23 rfl cs o
def S0:cn prog 23=some [.ab]:=aA
def S1:mP 23 9:=fun r o l z _ I k=>mN underlying23 (show bD prog 72=some 9 from by kernel_rfl) r o l z I k
def S2:l8 23 9:=mQ underlying23 (show bD prog 72=some 9 from by kernel_rfl)
def fh:=ac @SX (ac @SZ (ac @SY (ac @S0 (ac @S1 (@S2)))))
def IZ:bD prog 25=some 2:=aA
def S3:cL prog 25=some 48:=aA
def S4(cs:qm)(o:Nat):cM prog 25 cs o=cH 2 (cs.drop o):=jG underlying25 rfl IZ cs o
def S5:cn prog 25=some [.ab,.ab]:=aA
def S6:b8 25 0 0 22/\b8 25 1 1 23:=⟨cj,cj⟩
def eL:=ac @IZ (ac @S4 (ac @S3 (ac @S5 (@S6))))
def S7:bD prog 26=some 1:=aA
def S8:cL prog 26=some 24:=aA
def S9(cs:qm)(o:Nat):cM prog 26 cs o=cs[o]?:=gx underlying26 rfl cs o
def Ta:cn prog 26=some [.ab]:=aA
def Ey:mP 26 1:=fun r o l z _ I k=>mN underlying26 (show bD prog 3=some 1 from by kernel_rfl) r o l z I k
def Tb:l8 26 1:=mQ underlying26 (show bD prog 3=some 1 from by kernel_rfl)
def pQ:=ac @S7 (ac @S9 (ac @S8 (ac @Ta (ac @Ey (@Tb)))))
def Ez:bD prog 27=some 1:=aA
def EA:cL prog 27=some 24:=aA
def Tc(cs:qm)(o:Nat):cM prog 27 cs o=cs[o]?:=gx underlying27 rfl cs o
def EB:cn prog 27=some [.ab]:=aA
def Td:mP 27 1:=fun r o l z _ I k=>mN underlying27 (show bD prog 2=some 1 from by kernel_rfl) r o l z I k
def Te:l8 27 1:=mQ underlying27 (show bD prog 2=some 1 from by kernel_rfl)
def jH:=ac @Ez (ac @Tc (ac @EA (ac @EB (ac @Td (@Te)))))
def Tf:bD prog 35=some 1:=aA
def Tg:cL prog 35=some 24:=aA
def Th(cs:qm)(o:Nat):cM prog 35 cs o=cs[o]?:=gx underlying35 rfl cs o
def Ti:cn prog 35=some [.ab]:=aA
def Tj:mP 35 5:=fun r o l z _ I k=>mN underlying35 (show bD prog 44=some 5 from by kernel_rfl) r o l z I k
def Tl:l8 35 5:=mQ underlying35 (show bD prog 44=some 5 from by kernel_rfl)
def Tm:=ac @Tf (ac @Th (ac @Tg (ac @Ti (ac @Tj (@Tl)))))
def I0:bD prog 37=some 2:=aA
def Tn:cL prog 37=some 48:=aA
def To(cs:qm)(o:Nat):cM prog 37 cs o=cH 2 (cs.drop o):=jG underlying37 rfl I0 cs o
def Tp:cn prog 37=some [.ab,.ab]:=aA
def Tq:b8 37 0 0 22/\b8 37 1 1 35:=⟨cj,cj⟩
def Tr:=ac @I0 (ac @To (ac @Tn (ac @Tp (@Tq))))
def Ts:bD prog 42=some 1:=aA
def Tt:cL prog 42=some 24:=aA
def Tu(cs:qm)(o:Nat):cM prog 42 cs o=cs[o]?:=gx underlying42 rfl cs o
def Tv:cn prog 42=some [.ab]:=aA
def Tw:mP 42 3:=fun r o l z _ I k=>mN underlying42 (show bD prog 58=some 3 from by kernel_rfl) r o l z I k
def Tx:l8 42 3:=mQ underlying42 (show bD prog 58=some 3 from by kernel_rfl)
def Ty:=ac @Ts (ac @Tu (ac @Tt (ac @Tv (ac @Tw (@Tx)))))
def I1:bD prog 44=some 5:=aA
def Tz:cL prog 44=some 64:=aA
def TA(cs:qm)(o:Nat):cM prog 44 cs o=cH 5 (cs.drop o):=jG underlying44 rfl I1 cs o
def TB:cn prog 44=some [(.ae []),(.int .i64 0),.ab,(.int .i64 0),(.int .i64 0)]:=aA
def TC:b8 44 0 0 9/\b8 44 1 1 3/\b8 44 2 2 42/\b8 44 3 3 3/\b8 44 4 4 3:=⟨cj,cj,cj,cj,cj⟩
def TD:=ac @I1 (ac @TA (ac @Tz (ac @TB (@TC))))
def TE:bD prog 46=some 1:=aA
def TF:cL prog 46=some 8:=aA
def TG(cs:qm)(o:Nat):cM prog 46 cs o=cs[o]?:=gx underlying46 rfl cs o
def TH:cn prog 46=some [(.int .i64 0)]:=aA
def rZ:=ac @TE (ac @TG (ac @TF (@TH)))
def I2:bD prog 51=some 4:=aA
def TI:cL prog 51=some 48:=aA
def TJ(cs:qm)(o:Nat):cM prog 51 cs o=cH 4 (cs.drop o):=jG underlying51 rfl I2 cs o
def TK:cn prog 51=some [(.int .i64 0),(.int .i64 0),.ab,(.int .i64 0)]:=aA
def TL:b8 51 0 0 3/\b8 51 1 1 3/\b8 51 2 2 27/\b8 51 3 3 2:=⟨cj,cj,cj,cj⟩
def pR:=ac @I2 (ac @TJ (ac @TI (ac @TK (@TL))))
def I3:bD prog 58=some 3:=aA
def TM:cL prog 58=some 40:=aA
def TN(cs:qm)(o:Nat):cM prog 58 cs o=cH 3 (cs.drop o):=jG underlying58 rfl I3 cs o
def TO:cn prog 58=some [(.int .i64 0),(.int .i64 0),.ab]:=aA
def TP:b8 58 0 0 3/\b8 58 1 1 2/\b8 58 2 2 26:=⟨cj,cj,cj⟩
def TQ:=ac @I3 (ac @TN (ac @TM (ac @TO (@TP))))
def TS:bD prog 66=some 1:=aA
def TT:cL prog 66=some 24:=aA
def TU(cs:qm)(o:Nat):cM prog 66 cs o=cs[o]?:=gx underlying66 rfl cs o
def TV:cn prog 66=some [.ab]:=aA
def EC:mP 66 1:=fun r o l z _ I k=>mN underlying66 (show bD prog 9=some 1 from by kernel_rfl) r o l z I k
def TW:l8 66 1:=mQ underlying66 (show bD prog 9=some 1 from by kernel_rfl)
def dW:=ac @TS (ac @TU (ac @TT (ac @TV (ac @EC (@TW)))))
def TX:bD prog 67=some 1:=aA
def TY:cL prog 67=some 24:=aA
def TZ(cs:qm)(o:Nat):cM prog 67 cs o=cs[o]?:=gx underlying67 rfl cs o
def T0:cn prog 67=some [.ab]:=aA
def I4:mP 67 17:=fun r o l z _ I k=>mN underlying67 (show bD prog 78=some 17 from by kernel_rfl) r o l z I k
def T1:l8 67 17:=mQ underlying67 (show bD prog 78=some 17 from by kernel_rfl)
def dR:=ac @TX (ac @TZ (ac @TY (ac @T0 (ac @I4 (@T1)))))
def T2:bD prog 68=some 1:=aA
def T3:cL prog 68=some 24:=aA
def T4(cs:qm)(o:Nat):cM prog 68 cs o=cs[o]?:=gx underlying68 rfl cs o
def T5:cn prog 68=some [.ab]:=aA
def I5:mP 68 5:=fun r o l z _ I k=>mN underlying68 (show bD prog 70=some 5 from by kernel_rfl) r o l z I k
def T6:l8 68 5:=mQ underlying68 (show bD prog 70=some 5 from by kernel_rfl)
def dX:=ac @T2 (ac @T4 (ac @T3 (ac @T5 (ac @I5 (@T6)))))
def r0:bD prog 70=some 5:=aA
def uS:cL prog 70=some 64:=aA
def T7(cs:qm)(o:Nat):cM prog 70 cs o=cH 5 (cs.drop o):=jG underlying70 rfl r0 cs o
def uT:cn prog 70=some [(.int .i64 0),(.int .i64 0),(.ae []),(.int .i64 0),.ab]:=aA
def T8:b8 70 0 0 3/\b8 70 1 1 2/\b8 70 2 2 9/\b8 70 3 3 3/\b8 70 4 4 68:=⟨cj,cj,cj,cj,cj⟩
def dy:=ac @r0 (ac @T7 (ac @uS (ac @uT (@T8))))
def ED:bD prog 72=some 9:=aA
def I6:cL prog 72=some 152:=aA
def T9(cs:qm)(o:Nat):cM prog 72 cs o=cH 9 (cs.drop o):=jG underlying72 rfl ED cs o
def I7:cn prog 72=some [(.ae []),.ab,.ab,.ab,(.int .i64 0),(.int .i64 0),(.ae []),(.int .i64 0),.ab]:=aA
def Ua:b8 72 0 0 9/\b8 72 1 1 66/\b8 72 2 2 66/\b8 72 3 3 67/\b8 72 4 4 70:=⟨cj,cj,cj,cj,cj⟩
def ge:=ac @ED (ac @T9 (ac @I6 (ac @I7 (@Ua))))
def Ub:bD prog 73=some 1:=aA
def Uc:cL prog 73=some 24:=aA
def Ud(cs:qm)(o:Nat):cM prog 73 cs o=cs[o]?:=gx underlying73 rfl cs o
def Ue:cn prog 73=some [.ab]:=aA
def Uf:mP 73 1:=fun r o l z _ I k=>mN underlying73 (show bD prog 5=some 1 from by kernel_rfl) r o l z I k
def Ug:l8 73 1:=mQ underlying73 (show bD prog 5=some 1 from by kernel_rfl)
def tm:=ac @Ub (ac @Ud (ac @Uc (ac @Ue (ac @Uf (@Ug)))))
def EE:bD prog 75=some 2:=aA
def I8:cL prog 75=some 24:=aA
def Uh(cs:qm)(o:Nat):cM prog 75 cs o=cH 2 (cs.drop o):=jG underlying75 rfl EE cs o
def I9:cn prog 75=some [(.ae []),(.int .i64 0)]:=aA
def Ui:b8 75 0 0 9/\b8 75 1 1 3:=⟨cj,cj⟩
def iW:=ac @EE (ac @Uh (ac @I8 (ac @I9 (@Ui))))
def oY:bD prog 78=some 17:=aA
def r1:cL prog 78=some 248:=aA
def Uj(cs:qm)(o:Nat):cM prog 78 cs o=cH 17 (cs.drop o):=jG underlying78 rfl oY cs o
def uU:cn prog 78=some [(.int .i64 0),(.ae []),(.ae []),(.int .i64 0),(.int .i64 0),(.int .i64 0),(.ae []),(.int .i64 0),.ab,(.int .i64 0),(.int .i64 0),(.ae []),(.int .i64 0),.ab,.ab,.ab,.ab]:=aA
def Uk:b8 78 0 0 3/\b8 78 1 1 9/\b8 78 2 2 9/\b8 78 3 3 3/\b8 78 4 4 70/\b8 78 5 9 70/\b8 78 6 14 68/\b8 78 7 15 67/\b8 78 8 16 67:=⟨cj,cj,cj,cj,cj,cj,cj,cj,cj⟩
def eD:=ac @oY (ac @Uj (ac @r1 (ac @uU (@Uk))))
def Ja:bD prog 82=some 2:=aA
def Ul:cL prog 82=some 32:=aA
def Um(cs:qm)(o:Nat):cM prog 82 cs o=cH 2 (cs.drop o):=jG underlying82 rfl Ja cs o
def Uo:cn prog 82=some [.ab,(.int .i64 0)]:=aA
def Up:b8 82 0 0 26/\b8 82 1 1 3:=⟨cj,cj⟩
def wt:=ac @Ja (ac @Um (ac @Ul (ac @Uo (@Up))))
def Jb:bD prog 87=some 2:=aA
def Uq:cL prog 87=some 16:=aA
def Ur(cs:qm)(o:Nat):cM prog 87 cs o=cH 2 (cs.drop o):=jG underlying87 rfl Jb cs o
def Us:cn prog 87=some [(.int .i64 0),(.int .i64 0)]:=aA
def Ut:b8 87 0 0 46/\b8 87 1 1 3:=⟨cj,cj⟩
def EF:=ac @Jb (ac @Ur (ac @Uq (ac @Us (@Ut))))
def Uu:bD prog 98=some 1:=aA
def Uv:cL prog 98=some 8:=aA
def Uw(cs:qm)(o:Nat):cM prog 98 cs o=cs[o]?:=gx underlying98 rfl cs o
def Ux:cn prog 98=some [.a5]:=aA
def pS:=ac @Uu (ac @Uw (ac @Uv (@Ux)))
def Uy:bD prog 107=some 1:=aA
def Uz:cL prog 107=some 24:=aA
def UA(cs:qm)(o:Nat):cM prog 107 cs o=cs[o]?:=gx underlying107 rfl cs o
def UB:cn prog 107=some [.ab]:=aA
def UC:mP 107 1:=fun r o l z _ I k=>mN underlying107 (show bD prog 27=some 1 from by kernel_rfl) r o l z I k
def UD:l8 107 1:=mQ underlying107 (show bD prog 27=some 1 from by kernel_rfl)
def uV:=ac @Uy (ac @UA (ac @Uz (ac @UB (ac @UC (@UD)))))
def UE:bD prog 117=some 1:=aA
def UF:cL prog 117=some 8:=aA
def UG(cs:qm)(o:Nat):cM prog 117 cs o=cs[o]?:=gx underlying117 rfl cs o
def UH:cn prog 117=some [.a5]:=aA
def tn:=ac @UE (ac @UG (ac @UF (@UH)))
def Jc:bD prog 119=some 8:=aA
def UI:cL prog 119=some 112:=aA
def UJ(cs:qm)(o:Nat):cM prog 119 cs o=cH 8 (cs.drop o):=jG underlying119 rfl Jc cs o
def UK:cn prog 119=some [.ab,.ab,.a5,.a5,(.int .i64 0),(.int .i64 0),(.int .i64 0),.ab]:=aA
def UL:b8 119 0 0 25/\b8 119 1 2 117/\b8 119 2 3 98/\b8 119 3 4 3/\b8 119 4 5 3/\b8 119 5 6 3/\b8 119 6 7 27:=⟨cj,cj,cj,cj,cj,cj,cj⟩
def tp:=ac @Jc (ac @UJ (ac @UI (ac @UK (@UL))))
def Jd:bD prog 125=some 9:=aA
def UM:cL prog 125=some 152:=aA
def UN(cs:qm)(o:Nat):cM prog 125 cs o=cH 9 (cs.drop o):=jG underlying125 rfl Jd cs o
def UO:cn prog 125=some [.ab,.ab,.ab,.ab,(.int .i64 0),(.int .i64 0),(.int .i64 0),.ab,(.int .i64 0)]:=aA
def UP:b8 125 0 0 25/\b8 125 1 2 107/\b8 125 2 3 27/\b8 125 3 4 3/\b8 125 4 5 51:=⟨cj,cj,cj,cj,cj⟩
def uW:=ac @Jd (ac @UN (ac @UM (ac @UO (@UP))))
def UQ:bD prog 128=some 1:=aA
def UR:cL prog 128=some 24:=aA
def US(cs:qm)(o:Nat):cM prog 128 cs o=cs[o]?:=gx underlying128 rfl cs o
def UT:cn prog 128=some [.ab]:=aA
def UU:mP 128 3:=fun r o l z _ I k=>mN underlying128 (show bD prog 178=some 3 from by kernel_rfl) r o l z I k
def UV:l8 128 3:=mQ underlying128 (show bD prog 178=some 3 from by kernel_rfl)
def EG:=ac @UQ (ac @US (ac @UR (ac @UT (ac @UU (@UV)))))
def Je:bD prog 140=some 7:=aA
def UW:cL prog 140=some 136:=aA
def UX(cs:qm)(o:Nat):cM prog 140 cs o=cH 7 (cs.drop o):=jG underlying140 rfl Je cs o
def UY:cn prog 140=some [.ab,.ab,.ab,.ab,.ab,(.int .i64 0),(.int .i64 0)]:=aA
def UZ:b8 140 0 0 25/\b8 140 1 2 42/\b8 140 2 3 66/\b8 140 3 4 26/\b8 140 4 5 3/\b8 140 5 6 3:=⟨cj,cj,cj,cj,cj,cj⟩
def U0:=ac @Je (ac @UX (ac @UW (ac @UY (@UZ))))
def U1:bD prog 154=some 1:=aA
def U2:cL prog 154=some 8:=aA
def U3(cs:qm)(o:Nat):cM prog 154 cs o=cs[o]?:=gx underlying154 rfl cs o
def U4:cn prog 154=some [(.int .u64 0)]:=aA
def Jf:=ac @U1 (ac @U3 (ac @U2 (@U4)))
def U5:bD prog 165=some 1:=aA
def U6:cL prog 165=some 8:=aA
def U7(cs:qm)(o:Nat):cM prog 165 cs o=cs[o]?:=gx underlying165 rfl cs o
def U8:cn prog 165=some [.a5]:=aA
def yK:=ac @U5 (ac @U7 (ac @U6 (@U8)))
def Jg:bD prog 169=some 4:=aA
def U9:cL prog 169=some 96:=aA
def Va(cs:qm)(o:Nat):cM prog 169 cs o=cH 4 (cs.drop o):=jG underlying169 rfl Jg cs o
def Vb:cn prog 169=some [.ab,.ab,.ab,.ab]:=aA
def Vc:b8 169 0 0 66/\b8 169 1 1 66/\b8 169 2 2 25:=⟨cj,cj,cj⟩
def EH:=ac @Jg (ac @Va (ac @U9 (ac @Vb (@Vc))))
def Jh:bD prog 174=some 2:=aA
def Vd:cL prog 174=some 48:=aA
def Ve(cs:qm)(o:Nat):cM prog 174 cs o=cH 2 (cs.drop o):=jG underlying174 rfl Jh cs o
def Vf:cn prog 174=some [.ab,.ab]:=aA
def Vg:b8 174 0 0 66/\b8 174 1 1 27:=⟨cj,cj⟩
def wu:=ac @Jh (ac @Ve (ac @Vd (ac @Vf (@Vg))))
def Bk:bD prog 178=some 3:=aA
def EI:cL prog 178=some 32:=aA
def Vh(cs:qm)(o:Nat):cM prog 178 cs o=cH 3 (cs.drop o):=jG underlying178 rfl Bk cs o
def EJ:cn prog 178=some [(.int .i64 0),(.ae []),(.int .i64 0)]:=aA
def Vi:b8 178 0 0 3/\b8 178 1 1 9/\b8 178 2 2 3:=⟨cj,cj,cj⟩
def Bl:=ac @Bk (ac @Vh (ac @EI (ac @EJ (@Vi))))
def Vj:bD prog 180=some 1:=aA
def Vk:cL prog 180=some 8:=aA
def Vl(cs:qm)(o:Nat):cM prog 180 cs o=cs[o]?:=gx underlying180 rfl cs o
def Vm:cn prog 180=some [(.int .u64 0)]:=aA
def Ji:=ac @Vj (ac @Vl (ac @Vk (@Vm)))
def Vn:bD prog 194=some 1:=aA
def Vo:cL prog 194=some 8:=aA
def Vp(cs:qm)(o:Nat):cM prog 194 cs o=cs[o]?:=gx underlying194 rfl cs o
def Vq:cn prog 194=some [.bP]:=aA
def Jj:=ac @Vn (ac @Vp (ac @Vo (@Vq)))
def Vr:bD prog 200=some 1:=aA
def Vs:cL prog 200=some 8:=aA
def Vt(cs:qm)(o:Nat):cM prog 200 cs o=cs[o]?:=gx underlying200 rfl cs o
def Vu:cn prog 200=some [.a5]:=aA
def EK:=ac @Vr (ac @Vt (ac @Vs (@Vu)))
def Jk:bD prog 223=some 8:=aA
def Vv:cL prog 223=some 8:=aA
def Vw(cs:qm)(o:Nat):cM prog 223 cs o=cH 8 (cs.drop o):=jG underlying223 rfl Jk cs o
def Vx:cn prog 223=some [(.bool false),(.bool false),(.bool false),(.bool false),(.bool false),(.bool false),(.bool false),(.bool false)]:=aA
def Vy:b8 223 0 0 4/\b8 223 1 1 4/\b8 223 2 2 4/\b8 223 3 3 4/\b8 223 4 4 4/\b8 223 5 5 4/\b8 223 6 6 4/\b8 223 7 7 4:=⟨cj,cj,cj,cj,cj,cj,cj,cj⟩
def Jl:=ac @Jk (ac @Vw (ac @Vv (ac @Vx (@Vy))))
def Vz:bD prog 228=some 1:=aA
def VA:cL prog 228=some 24:=aA
def VB(cs:qm)(o:Nat):cM prog 228 cs o=cs[o]?:=gx underlying228 rfl cs o
def VC:cn prog 228=some [.ab]:=aA
def VD:mP 228 1:=fun r o l z _ I k=>mN underlying228 (show bD prog 66=some 1 from by kernel_rfl) r o l z I k
def VE:l8 228 1:=mQ underlying228 (show bD prog 66=some 1 from by kernel_rfl)
def EL:=ac @Vz (ac @VB (ac @VA (ac @VC (ac @VD (@VE)))))
def Jm:bD prog 255=some 7:=aA
def VF:cL prog 255=some 112:=aA
def VG(cs:qm)(o:Nat):cM prog 255 cs o=cH 7 (cs.drop o):=jG underlying255 rfl Jm cs o
def VH:cn prog 255=some [(.ae []),(.ae []),(.ae []),(.ae []),(.ae []),(.ae []),(.ae [])]:=aA
def VI:=ac @Jm (ac @VG (ac @VF (@VH)))
def Jn(H:Hp)(k:IntKind)(n:Int):lV prog H 2 154 (.int k n)=some (.int .u64 (IntKind.wrap .u64 n)):=A5
def Jo(H:Hp)(k:IntKind)(n:Int):lV prog H 2 180 (.int k n)=some (.int .u64 (IntKind.wrap .u64 n)):=A5
def pT(H:Hp)(k:IntKind)(n:Int):lV prog H 3 5 (.int k n)=some (.int .u8 (IntKind.wrap .u8 n)):=A5
def Jp(H:Hp)(k:IntKind)(n:Int):lV prog H 180 2 (.int k n)=some (.int .i64 (IntKind.wrap .i64 n)):=A5
end Go.Proofs.YtbflaciihaijgaaGreat
namespace Go.Ab
set_option maxRecDepth 20000
open Go
variable {P:Program} {cfg:Cfg} {f N:Nat}
variable{a:Nat}{E:aD}{H:Hp}{Q:AX->aD->Hp->Prop}{p:Nat->Prop}{A:Type}
def dG{a:SC}(cs rs:qx)(K n:Nat)(J:Nat->aD->Hp->Prop)(I:E.at K=.int .i64 0)(V:J 0 E H)
 (h:∀(i:Nat) (E':aD) (H':Hp),i<=n->(∀k∈cs,E'.at k=E.at k)->(∀r∈rs,H'.get r=H.get r)->H.next<=H'.next->E'.at K=.int .i64 i->J i E' H' ->
   bN P cfg f N a E' H' (lE Q fun Z Y=>i<n/\(∀k∈cs,Z.at k=E.at k)/\(∀r∈rs,Y.get r=H.get r)/\H.next<=Y.next/\Z.at K=.int .i64 ((i+1:Nat):Int)/\J (i+1) Z Y)):bN P cfg f N (.loop a) E H Q:=
 jU (fun i E' H'=>(∀k∈cs,E'.at k=E.at k)/\(∀r∈rs,H'.get r=H.get r)/\H.next<=H'.next/\E'.at K=.int .i64 i/\J i E' H') n (fun i E' H' F ⟨j,m,A,O,U⟩=>h i E' H' F j m A O U) ⟨fun _ _=>rfl,fun _ _=>rfl,aT _,I,V⟩
def VJ{a:SC}(cs rs:qx)(J:Nat->aD->Hp->Prop)(n:Nat)(V:J n E H)
 (h:∀(i:Nat) (E':aD) (H':Hp),(∀k∈cs,E'.at k=E.at k)->(∀r∈rs,H'.get r=H.get r)->H.next<=H'.next->J i E' H' ->
   bN P cfg f N a E' H' (lE Q fun Y Z=>(∀k∈cs,Y.at k=E.at k)/\(∀r∈rs,Z.get r=H.get r)/\H.next<=Z.next/\∃m,m<i/\J m Y Z)):bN P cfg f N (.loop a) E H Q:=
 uN (fun i E' H'=>(∀k∈cs,E'.at k=E.at k)/\(∀r∈rs,H'.get r=H.get r)/\H.next<=H'.next/\J i E' H') (fun i E' H' ⟨j,U,A,O⟩=>yF (fun x Y Z F=>by
  cases x with
  |normal=>obtain⟨I,S,M,m,K,C⟩:=F;exact⟨m,K,I,S,M,C⟩
  |exit id=>exact F
  |ret=>exact F) (h i E' H' j U A O)) (n:=n) ⟨fun _ _=>rfl,fun _ _=>rfl,aT _,V⟩
def bL{l:qx}:(∀k∈a::l,p k)↔p a/\∀k∈l,p k:=yE
def bK:(∀k∈([]:qx),p k)↔True:=⟨fun _=>trivial,fun _ _ h=>lC⟩
def ay{b:Nat}(h:a≠b):(a == b)=false:=fQ
def jV{i n:Nat}(h:i<n)(I:n<2^62):AV.int .i64 (IntKind.wrap .i64 ((i:Int)+1))=.int .i64 ((i+1:Nat):Int):=by rw[ft aa]
theorem mR(v:Option A)(f:Nat)(u:Option A)(l r:T A)(k:Nat):jb v (f+1) (.n u l r) k=if k=0 then .n v l r else if k%2=1 then .n u (jb v f l (k/2)) r else .n u l (jb v f r (k/2-1)):=by
 rw[At];show ja (Nat.beq k 0) _ (ja (Nat.beq (k%2) 1) _ _)=_;cases z:Nat.beq k 0 with
 |true=>rw[au (ib z)];rfl
 |false=>
  rw[ad (x6 z)];cases hc:Nat.beq (k%2) 1 with
  |true=>rw[au (ib hc)];rfl
  |false=>rw[ad (x6 hc)];rfl
def Jq(v:Option A)(f k:Nat):jb v (f+1) .e k=jb v (f+1) (.n none .e .e) k:=by
 rw[At,At]
theorem EM{Z:Type}(v w:Option Z):∀(f g:Nat) (t:T Z) (k j:Nat),k<f->j<g->k≠j->jb w g (jb v f t k) j=jb v f (jb w g t j) k
 |0,_,_,_,_,h,_,_=>by omega
 |_+1,0,_,_,_,_,h,_=>by omega
 |f+1,g+1,t,k,j,hk,hj,hne=>by
  have F:∀(u:Option Z) (l r:T Z),jb w (g+1) (jb v (f+1) (.n u l r) k) j=jb v (f+1) (jb w (g+1) (.n u l r) j) k:=fun u l r=>by
   rw[mR,mR];by_cases k0:k=0
   .rw[au k0,mR];have M:¬j=0:=aa;rw[ad M,ad M];by_cases O:j%2=1
    .rw[au O,au O,mR,au k0]
    .rw[ad O,ad O,mR,au k0]
   .rw[ad k0];by_cases A:k%2=1
    .rw[au A,mR];by_cases M:j=0
     .rw[au M,au M,mR,ad k0,au A]
     .rw[ad M,ad M];by_cases O:j%2=1
      .rw[au O,au O,mR,ad k0,au A,EM v w f g l (k/2) (j/2) aa aa aa]
      .rw[ad O,ad O,mR,ad k0,au A]
    .rw[ad A,mR];by_cases M:j=0
     .rw[au M,au M,mR,ad k0,ad A]
     .rw[ad M,ad M];by_cases O:j%2=1
      .rw[au O,au O,mR,ad k0,ad A]
      .rw[ad O,ad O,mR,ad k0,ad A,EM v w f g r (k/2-1) (j/2-1) aa aa aa]
  cases t with
  |e=>rw[Jq v,Jq w];exact F _ _ _
  |n u l r=>exact F u l r
def Jr(H:Hp){r s:Nat}(h:r≠s)(a b:HB):(H.set r a).set s b=(H.set s b).set r a:=by
 show Hp.mk H.next _=Hp.mk H.next _
 congr 1
 exact EM (some a) (some b) (r+1) (s+1) H.t r s aa aa h
theorem T.beq_refl{A:Type}{Y:A->A->Bool}(C:∀a,Y a a=true):∀x:T A,T.beq Y x x=true
 | .e=>rfl
 | .n none l r=>by simp[T.beq,T.beq_refl C l,T.beq_refl C r]
 | .n (some a) l r=>by simp[T.beq,C a,T.beq_refl C l,T.beq_refl C r]
theorem VK(ops:qs)(E:aD)(H:Hp):xX ops E E H H=true:=by
 unfold xX;rw[T.beq_refl HB.beq_refl,Nat.beq_refl,jl,jl,kj];intro o _;cases o.dst with
 |none=>rfl
 |some d=>exact AV.beq_refl _
def jn(o:Oper):Option Tmp×Op×Option (Nat×Bool):=(o.dst,o.op,o.guard)
theorem VL{Z S:qs}(h:Z.map jn=S.map jn)(g:Option (Nat×Bool)):bB Z g=bB S g:=by
 cases g with
 |none=>rfl
 |some g=>
  obtain⟨j,b⟩:=g;have e:(Z[j]?).map jn=(S[j]?).map jn:=by rw[<-ev,<-ev,h]
  unfold bB;cases Y:Z[j]? with
  |none=>
   rw[Y]at e;cases m:S[j]? with
   |none=>simp only[Y,m]
   |some o=>rw[m]at e;cases e
  |some o=>
   rw[Y]at e;cases m:S[j]? with
   |none=>rw[m]at e;cases e
   |some M=>
    rw[m]at e;simp only[iT,jn,gl]at e;simp only[Y,m,gX,e.1]
theorem EN{N:Nat}{Z S:qs}(h:Z.map jn=S.map jn):∀{l M:qs},l.map jn=M.map jn->bq N Z l=bq N S M
 |[],[],_=>rfl
 |[],_::_,k=>by simp at k
 |_::_,[],k=>by simp at k
 |o::l,o'::M,k=>by
  simp only[el,ew]at k;have e:=k.1;simp only[jn,gl]at e;rw[bq,bq,e.1,e.2.1,e.2.2,VL h,EN h k.2]
theorem Bm(q p:Nat)(l:qs):(eC q p l).map jn=l.map jn:=by
 unfold eC;cases h:l[q]? with
 |none=>rfl
 |some o=>
  simp only;rw[uM];apply Em;intro i;rw[AI];by_cases e:q=i
  .subst e;rw[au rfl,ev,h];simp only[ec,pI,jn];rw[au (eu.1 h).1]
  .rw[ad e]
theorem Js(ord:qx){l M:qs}(h:l.map jn=M.map jn):(eK ord l).map jn=(eK ord M).map jn:=by
 unfold eK;rw[List.map_filterMap,List.map_filterMap]
 congr 1
 funext i
 have e:(l[i]?).map jn=(M[i]?).map jn:=by rw[<-ev,<-ev,h]
 cases j:l[i]? with
 |none=>
  rw[j]at e;cases m:M[i]? with
  |none=>rfl
  |some o=>rw[m]at e;cases e
 |some o=>
  rw[j]at e;cases m:M[i]? with
  |none=>rw[m]at e;cases e
  |some Z=>
   rw[m]at e;simp only[iT,jn,gl]at e⊢;simp only[rK,e.1,e.2.1,e.2.2,nT]
section
variable {P:Program} {cfg:Cfg} {f N:Nat}
def VM{id p q:Nat}{ord:qx}{ops:qs}{l1 l2:List SOp}{U V:qD}{O:aD}{S:Hp}
 (A:cfg.bI f id=.split p q .text (.bm ord)) (K:Nat.beq p q=false) (c1:lX (eC q p ops)=true) (s1:bq N ops ops=some l1) (dl:kN (eC q p ops)=U)
 (F:uu ord (eC p q ops)=true) (c2:lX (eK ord (eC p q ops))=true) (M:bq N (eK ord ops) (eK ord ops)=some l2) (o:kN (eK ord (eC p q ops))=V)
 (h1:dV P cfg f l1 [] E H fun J E' H'=>mO P cfg U J H'/\E'=O/\H'=S) (h2:dV P cfg f l2 [] E H fun J E' H'=>mO P cfg V J H'/\E'=O/\H'=S) (C:Q .normal O S):bN P cfg f N (.br id ops) E H Q:=by
 have s1:bq N (eC q p ops) (eC q p ops)=some l1:=by rw[EN (Bm q p ops) (Bm q p ops)];exact s1
 have M:bq N (eK ord (eC p q ops)) (eK ord (eC p q ops))=some l2:=by rw[EN (Js ord (Bm p q ops)) (Js ord (Bm p q ops))];exact M
 unfold bN;intro code hc;cases code with
 |region id' z draw=>
  cases draw with
  |false=>simp only[aG,bz]at hc;split at hc<;>simp at hc
  |true=>
   simp only[aG,SC.br.injEq]at hc;obtain⟨rfl,rfl⟩:=hc;obtain⟨n,E',H',rs,b7,ci,rfl,rfl⟩:=dV.run s1 h1;obtain⟨m,Z,Y,j,b1,b2,rfl,rfl⟩:=dV.run M h2;have aw:jf P cfg (dw P cfg (n+m)) f N (eC q p z.toList) E H=.done .normal Z Y:=by
    have e:jf P cfg (dw P cfg n) f N (eC q p z.toList) E H=.done .normal Z Y:=by
     unfold jf;rw[c1];simp only[b7];rw[dl,Ew (by simpa using ci)]
    rw[AZ (fun t I=>yA (Nat.le_add_right n m) I) (by rw[e];simp),e]
   have a1:jf P cfg (dw P cfg (n+m)) f N (eK ord (eC p q z.toList)) E H=.done .normal Z Y:=by
    have e:jf P cfg (dw P cfg m) f N (eK ord (eC p q z.toList)) E H=.done .normal Z Y:=by
     unfold jf;rw[c2];simp only[b1];rw[o,Ew (by simpa using b2)]
    rw[AZ (fun t I=>yA (Nat.le_add_left m n) I) (by rw[e];simp),e]
   refine⟨_,_,_,dm.br (n:=n+m) (r:=.done .normal Z Y) ?_ aI,C⟩;rw[A];simp only[jg,K,F,aw,a1,sW,VK]
 |_=>simp[aG]at hc
end
end Go.Ab
