/- Lemmas for the last file. -/
import Derived.IntWalk
import Derived.KernelRfl
import Derived.Test.YtbflaciihaijgaaGED
import Derived.Test.YtbflaciihaijgaaRows
set_option linter.all false
set_option maxHeartbeats 32000000
namespace Go.Ab
set_option maxRecDepth 20000
open Go
abbrev qm:=List qn
variable{qd:Prop}
def Bc(h:qd:=by simp only[fA,h,h1]):=h
def nt(h:qd:=by simp[dw,pe,hO]):=h
def xD(h:qd:=by unfold gh;rw[h]):=h
def rT(h:qd:=by rw[Ex.au];rfl):=h
def il(h:qd:=by rw[St.au];rfl):=h
def mE(h:qd:=by rw[Fu.au];rfl):=h
def xE(h:qd:=by rw[Ar.au];rfl):=h
def xF(h:qd:=by rw[Pr.au];rfl):=h
def vq(h:qd:=by rw[Tk.au];rfl):=h
def vr(h:qd:=by rw[Nd.au];rfl):=h
def rU(h:qd:=by rw[Gr.au];rfl):=h
def xG(h:qd:=by rw[Un.au];rfl):=h
def Ej(h:qd:=by simp only[aI,gO,beq_self_eq_true,cond_true]):=h
def aF(h:qd:=by kernel_rfl):=h
def pE(h:qd:=by cases k<;>kernel_rfl):=h
def rV:=@cond_false
def rW:=@Int.eq_ofNat_of_zero_le
def eM:=@List.drop_eq_getElem_cons
def xH:=@List.drop_succ_cons
def lL:=@Bool.or_false
def rX:=@List.flatMap_cons
def kJ:=@Bool.and_true
def oz:=@and_self
def ad:=@And.intro
def lM:=@Bool.not_false
def gm:=@Bool.true_and
def bu:=@and_true
def ny:=@Int.toNat_natCast
end Go.Ab
namespace Go.Ab
set_option maxRecDepth 20000
open Go
structure SOp where
 d:qD
 op:Op
 g:Option (Nat×Bool)
inductive SC where
 |skip|ret|bad
 |dI (l:List SOp)
 |bK (id:Nat) (l:qo)
 |seq (a b:SC)
 |cond (x:Operand) (a b:SC)
 |block (id:Nat) (a:SC)
 |loop (a:SC)
 |exit (id:Nat)
variable{K:AV->Hp->Prop}{Q:AX->ax->Hp->Prop}{d:qD}{o s r m i O:Nat}{l:List SOp}{v:AV}{b a:Hp}{t e:TypeId}{c:Call}{vs z cs:ql}{g:FuncId}{U:Array (Nat×Operand)}{lo J:Option Operand}{Y:qr}{ih:zac->Res}{ops:qo}{x:Operand}
def bH(N:Nat):Option Tmp->Option qD
 |none=>some none
 |some d=>match Nat.blt d N with
  |true=>some (some d)
  |false=>none
def bI(I:qo):Option (Nat×Bool)->Option (Option (Nat×Bool))
 |none=>some none
 |some (j,b)=>match (I[j]?).bind (·.dst)with
  |some d=>some (some (d,b))
  |none=>none
def bw(N:Nat)(I:qo):qo->Option (List SOp)
 |[]=>some []
 |o::l=>match bH N o.dst,bI I o.guard,bw N I l with
  |some d,some g,some r=>some (⟨d,o.op,g⟩::r)
  |_,_,_=>none
def bF(l:Option (List SOp)):SC:=match l with
 |some l=>.dI l
 |none=>.bad
def aG(N:Nat):Code->SC
 | .skip=>.skip
 | .region id ops draw=>match draw with
   |false=>bF (bw N ops.toList ops.toList)
   |true=>.bK id ops.toList
 | .seq a b=>.seq (aG N a) (aG N b)
 | .cond x a b=>.cond x (aG N a) (aG N b)
 | .block id a=>.block id (aG N a)
 | .loop a=>.loop (aG N a)
 | .exit id=>.exit id
 | .ret=>.ret
 |_=>.bad
section
variable (P:Program) (cfg:Cfg) (f N:Nat)
def aX(g:FuncId)(C:ql)(H:Hp)(Q:AV->Hp->Prop):Prop:=∃v H',cB P cfg (.call g C H) (.val v H')/\Q v H'
def fE(op:Op)(E:ax)(H:Hp)(K:AV->Hp->Prop):Prop:=∃n v H',cZ P cfg (cI P cfg n) f E H op=.val v H'/\K v H'
noncomputable def aI(E:ax):qD->AV->ax
 |some d,v=>T.set E d (some v)
 |none,_=>E
def aA:List SOp->ax->Hp->(ax->Hp->Prop)->Prop
 |[],E,H,Q=>Q E H
 |o::l,E,H,Q=>match o.g with
  |none=>fE P cfg f o.op E H fun v H'=>aA l (aI E o.d v) H' Q
  |some (s,b)=>(E.at s=.bool b/\fE P cfg f o.op E H fun v H'=>aA l (aI E o.d v) H' Q)\/((E.at s=.bool (!b)\/E.at s=cT)/\aA l (aI E o.d cT) H Q)
def bU(c:SC)(E:ax)(H:Hp)(Q:AX->ax->Hp->Prop):Prop:=∀code,aG N code=c->∃x E' H',cB P cfg (.aw f N code E H) (.done x E' H')/\Q x E' H'
end
section
variable {P:Program} {cfg:Cfg} {f N:Nat}
def fE.mono{op:Op}{E:ax}{H:Hp}{J:AV->Hp->Prop}(h:∀v H',K v H'->J v H')(z:fE P cfg f op E H K):fE P cfg f op E H J:=by
 obtain⟨n,v,H',o,m⟩:=z;exact⟨n,v,H',o,h v H' m⟩
def bU.mono{c:SC}{E:ax}{H:Hp}{o:AX->ax->Hp->Prop}(h:∀x E H,Q x E H->o x E H)(V:bU P cfg f N c E H Q):bU P cfg f N c E H o:=fun code hc=>by
 obtain⟨x,E',H',Z,m⟩:=V code hc;exact⟨x,E',H',Z,h _ _ _ m⟩
def tA:=@bU.mono
def bU.skip{E:ax}{H:Hp}{Q:AX->ax->Hp->Prop}(h:Q .normal E H):bU P cfg f N .skip E H Q:=fun code hc=>by
 cases code with
 |skip=>exact⟨_,_,_,cB.skip,h⟩
 |region id ops draw=>cases draw<;>simp only[aG,bF,reduceCtorEq]at hc;split at hc<;>simp at hc
 |_=>simp[aG]at hc
def bU.ret{E:ax}{H:Hp}{Q:AX->ax->Hp->Prop}(h:Q .ret E H):bU P cfg f N .ret E H Q:=fun code hc=>by
 cases code with
 |ret=>exact⟨_,_,_,cB.ret,h⟩
 |region id ops draw=>cases draw<;>simp only[aG,bF,reduceCtorEq]at hc;split at hc<;>simp at hc
 |_=>simp[aG]at hc
def bU.exit{id:Nat}{E:ax}{H:Hp}{Q:AX->ax->Hp->Prop}(h:Q (.exit id) E H):bU P cfg f N (.exit id) E H Q:=fun code hc=>by
 cases code with
 |exit O=>simp only[aG,SC.exit.injEq]at hc;subst hc;exact⟨_,_,_,cB.exit,h⟩
 |region id ops draw=>cases draw<;>simp only[aG,bF,reduceCtorEq]at hc;split at hc<;>simp at hc
 |_=>simp[aG]at hc
def lN(Q:AX->ax->Hp->Prop)(K:ax->Hp->Prop):AX->ax->Hp->Prop
 | .normal,E,H=>K E H
 | .exit id,E,H=>Q (.exit id) E H
 | .ret,E,H=>Q .ret E H
def bU.seq{a b:SC}{E:ax}{H:Hp}{Q:AX->ax->Hp->Prop}(h:bU P cfg f N a E H (lN Q fun E H=>bU P cfg f N b E H Q)):bU P cfg f N (.seq a b) E H Q:=fun code hc=>by
 cases code with
 |seq p q=>
  simp only[aG,SC.seq.injEq]at hc;obtain⟨x,E1,H1,o,m⟩:=h p hc.1;cases x with
  |normal=>
   obtain⟨x,Z,U,I,Y⟩:=m q hc.2;exact⟨x,Z,U,cB.seq o I,Y⟩
  |exit id=>exact⟨_,_,_,Eh o aE,m⟩
  |ret=>exact⟨_,_,_,Eh o aE,m⟩
 |region id ops draw=>cases draw<;>simp only[aG,bF,reduceCtorEq]at hc;split at hc<;>simp at hc
 |_=>simp[aG]at hc
def ai:=@bU.seq
def bU.cond{x:Operand}{a b:SC}{E:ax}{H:Hp}{Q:AX->ax->Hp->Prop}{t:Bool}(O:aH E x=some (.bool t))(h1:t=true->bU P cfg f N a E H Q)(h2:t=false->bU P cfg f N b E H Q):
 bU P cfg f N (.cond x a b) E H Q:=fun code hc=>by
 cases code with
 |cond y p q=>
  simp only[aG,SC.cond.injEq]at hc;obtain⟨rfl,I,Z⟩:=hc;cases t with
  |true=>
   obtain⟨x,E1,H1,U,M⟩:=h1 rfl p I;exact⟨x,E1,H1,Mr O U,M⟩
  |false=>
   obtain⟨x,E1,H1,U,M⟩:=h2 rfl q Z;exact⟨x,E1,H1,Ms O U,M⟩
 |region id ops draw=>cases draw<;>simp only[aG,bF,reduceCtorEq]at hc;split at hc<;>simp at hc
 |_=>simp[aG]at hc
def tB(id:Nat)(Q:AX->ax->Hp->Prop):AX->ax->Hp->Prop
 | .normal,E,H=>Q .normal E H
 | .exit O,E,H=>if O=id then Q .normal E H else Q (.exit O) E H
 | .ret,E,H=>Q .ret E H
def bU.block{id:Nat}{a:SC}{E:ax}{H:Hp}{Q:AX->ax->Hp->Prop}(h:bU P cfg f N a E H (tB id Q)):bU P cfg f N (.block id a) E H Q:=fun code hc=>by
 cases code with
 |block O p=>
  simp only[aG,SC.block.injEq]at hc;obtain⟨rfl,I⟩:=hc;obtain⟨x,E1,H1,U,M⟩:=h p I;cases x with
  |normal=>exact⟨_,_,_,Mt U,M⟩
  |ret=>exact⟨_,_,_,Mu U,M⟩
  |exit k=>
   simp only[tB]at M;split at M
   .rename_i e;subst e;exact⟨_,_,_,cB.block U,M⟩
   .rename_i e;exact⟨_,_,_,Mv (by cases C:Nat.beq k O with|true=>exact(e (gM C)).elim|false=>rfl) U,M⟩
 |region id ops draw=>cases draw<;>simp only[aG,bF,reduceCtorEq]at hc;split at hc<;>simp at hc
 |_=>simp[aG]at hc
def aq:=@bU.block
def bU.loop{a:SC}{Q:AX->ax->Hp->Prop}(I:Nat->ax->Hp->Prop)(h:∀n E H,I n E H->bU P cfg f N a E H (lN Q fun E H=>∃m,m<n/\I m E H)){n:Nat}{E:ax}{H:Hp}(Z:I n E H):bU P cfg f N (.loop a) E H Q:=by
 induction n using Nat.strongRecOn generalizing E H with
 |_ n ih=>
  intro code hc;cases code with
  |loop p=>
   simp only[aG,SC.loop.injEq]at hc;obtain⟨x,E1,H1,U,M⟩:=h n E H Z p hc;cases x with
   |normal=>
    obtain⟨m,Y,W⟩:=M;obtain⟨x,V,O,L,J⟩:=ih m Y W (.loop p) (by simp[aG,hc]);exact⟨x,V,O,cB.loop U L,J⟩
   |exit id=>exact⟨_,_,_,Ei U aE,M⟩
   |ret=>exact⟨_,_,_,Ei U aE,M⟩
  |region id ops draw=>cases draw<;>simp only[aG,bF,reduceCtorEq]at hc;split at hc<;>simp at hc
  |_=>simp[aG]at hc
def vt:=@bU.loop
def kK{a:SC}(I:Nat->ax->Hp->Prop)(z:Nat)(h:∀i E H,i<=z->I i E H->bU P cfg f N a E H (lN Q fun E H=>i<z/\I (i+1) E H)){E:ax}{H:Hp}(Y:I 0 E H):bU P cfg f N (.loop a) E H Q:=
 vt (fun n E H=>n<=z/\I (z-n) E H) (fun n E H Z=>tA (fun x E' H' o=>by
  cases x with
  |normal=>
   obtain⟨W,m⟩:=o;have:=Z.1;refine⟨n-1,ac,ac,?_⟩;rw[show z-(n-1)=z-n+1 by omega];exact m
  |exit id=>exact o
  |ret=>exact o) (h (z-n) E H (Nat.sub_le _ _) Z.2)) (n:=z) ⟨az _,by rw[rJ];exact Y⟩
def xI{N:Nat}{V:Option Tmp}(h:bH N V=some d)(E:ax)(v:AV):dH N E V v=some (aI E d v):=by
 cases V with
 |none=>simp only[bH,aC]at h;subst h;rfl
 |some t=>
  simp only[bH]at h;split at h
  .rename_i C;simp only[aC]at h;subst h;simp only[dH,C,aI]
  .simp at h
def Ek{I:qo}{E:ax}{o:Oper}{g:Option (Nat×Bool)}(h:bI I o.guard=some g):
 (g=none->gH I E o=true)/\∀s b,g=some (s,b)->(E.at s=.bool b->gH I E o=true)/\(E.at s=.bool (!b)\/E.at s=cT->gH I E o=false):=by
 unfold gH;cases L:o.guard with
 |none=>
  rw[L]at h;simp only[bI,aC]at h;subst h;exact⟨fun _=>rfl,fun s b e=>by simp at e⟩
 |some z=>
  obtain⟨j,b⟩:=z;rw[L]at h;simp only[bI]at h;split at h
  .rename_i d hd;simp only[aC]at h;subst h;refine⟨fun e=>by simp at e,fun s b' e=>?_⟩;simp only[b9]at e;obtain⟨rfl,rfl⟩:=e;simp only[wT,hd];refine⟨fun e=>by rw[e];simp,fun e=>by rcases e with e|e<;>rw[e]<;>simp[cT]⟩
  .simp at h
theorem aA.run{I:qo}{Q:ax->Hp->Prop}:∀{l:qo}{r:List SOp}{E:ax}{H:Hp},bw N I l=some r->aA P cfg f r E H Q ->
 ∃n E' H',hU P cfg (cI P cfg n) f N I l E H=.done .normal E' H'/\Q E' H'
 |[],r,E,H,hs,Z=>by
  simp only[bw,aC]at hs;subst hs;exact⟨0,E,H,rfl,Z⟩
 |o::l,r,E,H,hs,Z=>by
  simp only[bw]at hs;split at hs
  .rename_i d g r' J h2 C;simp only[aC]at hs;subst hs;obtain⟨dM,w2⟩:=Ek (E:=E) h2;have V:∀{K:Prop},fE P cfg f o.op E H (fun v H'=>aA P cfg f r' (aI E d v) H' Q)->gH I E o=true->∃n E' H',hU P cfg (cI P cfg n) f N I (o::l) E H=.done .normal E' H'/\Q E' H':=fun{K} hw Y=>by
    obtain⟨n,v,H1,g1,g2⟩:=hw;obtain⟨m,U,O,W,M⟩:=aA.run C g2;refine⟨max n m,U,O,?_,M⟩;have z:∀k k',k<=k'->cV (cI P cfg k) (cI P cfg k'):=fun k k' hk t ht=>Bb hk ht;rw[vp,Y];simp only[];rw[xz (z n (max n m) (xp _ _)) (by rw[g1];simp),g1];simp only[xI J,iB];rw[xA (z m (max n m) (xq _ _)) (by rw[W];simp),W]
   unfold aA at Z;cases L:g with
   |none=>
    rw[L]at Z;exact V (K:=True) Z (dM L)
   |some sb=>
    obtain⟨s,b⟩:=sb;rw[L]at Z;simp only[]at Z;rcases Z with⟨e,Z⟩|⟨e,Z⟩
    .exact V (K:=True) Z ((w2 s b L).1 e)
    .obtain⟨m,U,O,W,M⟩:=aA.run C Z;refine⟨m,U,O,?_,M⟩;rw[vp,(w2 s b L).2 e];simp only[xI J,iB];exact W
  .simp at hs
def bU.dI{l:List SOp}{E:ax}{H:Hp}{Q:AX->ax->Hp->Prop}(h:aA P cfg f l E H (Q .normal)):bU P cfg f N (.dI l) E H Q:=fun code hc=>by
 cases code with
 |region id ops draw=>
  cases draw with
  |true=>simp[aG]at hc
  |false=>
   simp only[aG,bF]at hc;split at hc
   .rename_i r hr;simp only[SC.dI.injEq]at hc;subst hc;obtain⟨n,E',H',o,m⟩:=aA.run hr h;exact⟨_,_,_,cB.region o aE,m⟩
   .simp at hc
 |_=>simp[aG]at hc
def ah{E:ax}{H:Hp}(h:∀K:ax->Hp->Prop,(∀E' H',Q .normal E' H'->K E' H')->aA P cfg f l E H K):bU P cfg f N (.dI l) E H Q:=
 bU.dI (h _ fun _ _ h=>h)
def aA.nil{E:ax}{H:Hp}{Q:ax->Hp->Prop}(h:Q E H):aA P cfg f [] E H Q:=h
def fE.plain{op:Op}{E:ax}{H H':Hp}(h:cA P cfg.b9 E H op=some (v,H'))(M:∀c,op≠.call c)(z:K v H'):fE P cfg f op E H K:=
 ⟨0,v,H',(rS M).2 h,z⟩
def xJ:Op->Bool
 | .call _=>false
 |_=>true
def El{op:Op}(h:xJ op=true):∀c,op≠.call c:=fun c e=>by subst e;simp[xJ]at h
def aA.op{d:Nat}{op:Op}{E:ax}{H H':Hp}{Q:ax->Hp->Prop}(M:xJ op=true)(h:cA P cfg.b9 E H op=some (v,H'))(z:aA P cfg f l (T.set E d (some v)) H' Q):aA P cfg f (⟨some d,op,none⟩::l) E H Q:=
 fE.plain h (El M) z
def fS:=@aA.op
def Em{op:Op}{E:ax}{H H':Hp}{Q:ax->Hp->Prop}(M:xJ op=true)(h:cA P cfg.b9 E H op=some (v,H'))(z:aA P cfg f l E H' Q):aA P cfg f (⟨none,op,none⟩::l) E H Q:=
 fE.plain h (El M) z
theorem aA.guard{op:Op}{b t:Bool}{E:ax}{H:Hp}{Q:ax->Hp->Prop}(h:E.at s=.bool t)(h1:t=b->aA P cfg f (⟨d,op,none⟩::l) E H Q)(h2:t=!b->aA P cfg f l (aI E d cT) H Q):
 aA P cfg f (⟨d,op,some (s,b)⟩::l) E H Q:=by
 unfold aA;by_cases e:t=b
 .exact .inl ⟨by rw[h,e],h1 e⟩
 .have:t=!b:=by cases t<;>cases b<;>simp_all
  exact .inr ⟨.inl (by rw[h,this]),h2 this⟩
def Eo{op:Op}{b:Bool}{E:ax}{H:Hp}{Q:ax->Hp->Prop}(h:some (E.at s)=some v)(Y:v=cT)(h2:aA P cfg f l (aI E d cT) H Q):
 aA P cfg f (⟨d,op,some (s,b)⟩::l) E H Q:=by
 subst Y;unfold aA;exact .inr ⟨.inr fQ,h2⟩
def aA.call{g:Operand}{k:FuncId}{cap:ql}{E:ax}{H:Hp}{Q:ax->Hp->Prop}(L:c.callee=.value g)(Z:aH E g=some (.a9 k cap))(Y:fA E c.args.toList=some vs)
 (h:aX P cfg k (vs++cap) H fun v H'=>aA P cfg f l (aI E d v) H' Q):aA P cfg f (⟨d,.call c,none⟩::l) E H Q:=by
 obtain⟨v,H',⟨_,n,o⟩,m⟩:=h;refine⟨n,v,H',?_,m⟩;simp only[cZ,pj,L,Z,Y];exact o
def aQ:=@aA.call
def aA.builtin{b:Builtin}{E:ax}{H H':Hp}{Q:ax->Hp->Prop}(L:c.callee=.builtin b)(Y:fA E c.args.toList=some vs)
 (h:mW P (cfg.keep f) H b c.argTypes.toList vs=some (v,H')) (z:aA P cfg f l (aI E d v) H' Q):aA P cfg f (⟨d,.call c,none⟩::l) E H Q:=by
 refine⟨0,v,H',?_,z⟩;simp only[cZ,pj,L,Y,h]
def xK:=@aA.builtin
def Mw{C:ql}{r:AV}{H:Hp}{Q:AV->Hp->Prop}(h:cfg.call g C=some r)(o:Q r H):aX P cfg g C H Q:=
 ⟨r,H,iI aE (n:=0) (by simp only[step,h]),o⟩
def Mx{C U:ql}{r:AV}{H H':Hp}{Q:AV->Hp->Prop}(Z:cfg.call g C=none)(J:cfg.aF g=true)(z:cfg.ak g=false)(Y:jA (hY 100) C H=some (U,H'))(h:cfg.call g U=some r)(o:Q r H')(W:zW r=true->Q r H):aX P cfg g C H Q:=
 ⟨r,wV r H H',iI aE (n:=0) (by simp only[step,Z,lB,J,z,te,uR,Y,h]),by
  unfold wV;split
  .rename_i h;exact W h
  .exact o⟩
def aX.mono{C:ql}{H:Hp}{Q o:AV->Hp->Prop}(h:∀v H',Q v H'->o v H')(V:aX P cfg g C H Q):aX P cfg g C H o:=by
 obtain⟨v,H',Z,m⟩:=V;exact⟨v,H',Z,h _ _ m⟩
def aL:=@aX.mono
def aX.body{C:ql}{H:Hp}{M:Func}{c:Code}{Q:AV->Hp->Prop}(z:cfg.call g C=none)(J:cfg.aF g=false)(Z:cfg.ak g=false)(o:P.funcs[g]?=some M)(Y:M.body=some c)
 (h:bU P cfg g (max M.ntmps C.length) (aG (max M.ntmps C.length) c) (bt 0 C (rF (max M.ntmps C.length))) H (fun x E' H'=>(x=.normal\/x=.ret)/\∃vs,cU P E' H' M.results.toList=some vs/\Q (aN vs) H')):aX P cfg g C H Q:=by
 obtain⟨x,E',H',W,O,vs,m,I⟩:=h c rfl;exact⟨aN vs,H',cB.call z J Z o Y W O (by unfold td;rw[m]),I⟩
def bA{C:ql}{H:Hp}{Z:Func}{c:Code}{s:SC}{M:Nat}{rs:List ResultVar}{Q:AV->Hp->Prop}(z:cfg.call g C=none)(J:cfg.aF g=false)(Y:cfg.ak g=false)(o:P.funcs[g]?=some Z)(W:Z.body=some c)(I:max Z.ntmps C.length=M)
 (U:aG M c=s) (hr:Z.results.toList=rs) (h:bU P cfg g M s (bt 0 C (rF M)) H (fun x E' H'=>(x=.normal\/x=.ret)/\∃vs,cU P E' H' rs=some vs/\Q (aN vs) H')):aX P cfg g C H Q:=by
 subst I U hr;exact aX.body z J Y o W h
def Ep(fit:Fit P){ρ:Nat->Int}(J:kF cfg.b9 ρ)(L:∀f C r,cfg.call f C=some r->cp P ρ f C r){C:ql}{r:AV}{k:Nat}
 (V:pq k C=true) (h:aX P cfg g C bE fun v H'=>iceV H' m v=some r):cp P ρ g C r:=by
 obtain⟨v,H',⟨_,n,o⟩,Z⟩:=h;exact Ec fit J L (n:=n) (m:=m) V (by unfold wW;rw[o];exact Z)
section
variable {l:List SOp} {E:ax} {H H':Hp} {Q:ax -> Hp -> Prop} {d:Nat} {v a b:AV} {x y:Operand} {t u:TypeId}
def aA.move(h:aH E x=some v)(z:aA P cfg f l (T.set E d (some v)) H Q):aA P cfg f (⟨some d,.move x,none⟩::l) E H Q:=fS rfl (by simp only[cA,Go.Ab.ret,h]) z
def aA.assign(h:aH E x=some v)(z:aA P cfg f l (T.set E d (some v)) H Q):aA P cfg f (⟨some d,.assign x,none⟩::l) E H Q:=fS rfl (by simp only[cA,Go.Ab.ret,h]) z
def aA.pick{z:Operand}{t:Bool}(h:aH E x=some (.bool t))(h1:aH E y=some a)(h2:aH E z=some b)(Z:aA P cfg f l (T.set E d (some (iV t a b))) H Q):aA P cfg f (⟨some d,.pick x y z,none⟩::l) E H Q:=
 fS rfl (by cases t<;>simp only[cA,wG,Go.Ab.ret,h,h1,h2]<;>rfl) Z
def aA.load(h:aH E x=some a)(h1:eR P H t a=some v)(z:aA P cfg f l (T.set E d (some v)) H Q):aA P cfg f (⟨some d,.load t x,none⟩::l) E H Q:=fS rfl (by simp only[cA,uI,Go.Ab.ret,h,h1]) z
def aA.store(h:aH E x=some a)(h1:aH E y=some b)(h2:ky P H t a b=some H')(z:aA P cfg f l E H' Q):aA P cfg f (⟨none,.store t x y,none⟩::l) E H Q:=Em rfl (by simp only[cA,wI,Go.Ab.ret,h,h1,h2];rfl) z
def Be:=@aA.store
def aA.nilCheck(h:aH E x=some (.ptr r o))(z:aA P cfg f l (T.set E d (some (.ptr r o))) H Q):aA P cfg f (⟨some d,.nilCheck x,none⟩::l) E H Q:=fS rfl (by simp only[cA,wJ,h]) z
def aA.bT{op:BinOp}(h:aH E x=some a)(h1:aH E y=some b)(h2:dw P cfg.b9 op t a b=some v)(z:aA P cfg f l (T.set E d (some v)) H Q):aA P cfg f (⟨some d,.binOp op t x y u,none⟩::l) E H Q:=
 fS rfl (by simp only[cA,wK,Go.Ab.ret,h,h1,h2]) z
def aA.un{op:UnOp}(h:aH E x=some a)(h2:ph op a=some v)(z:aA P cfg f l (T.set E d (some v)) H Q):aA P cfg f (⟨some d,.unOp op t x,none⟩::l) E H Q:=fS rfl (by simp only[cA,wL,Go.Ab.ret,h,h2]) z
def aA.convert(h:aH E x=some a)(h2:fB P H t u a=some v)(z:aA P cfg f l (T.set E d (some v)) H Q):aA P cfg f (⟨some d,.convert t u x,none⟩::l) E H Q:=fS rfl (by simp only[cA,uJ,Go.Ab.ret,h,h2]) z
def aA.fieldAddr(h:aH E x=some a)(h2:o0 P t a i=some v)(z:aA P cfg f l (T.set E d (some v)) H Q):aA P cfg f (⟨some d,.fieldAddr t x i,none⟩::l) E H Q:=fS rfl (by simp only[cA,wN,Go.Ab.ret,h,h2]) z
def Er:=@aA.fieldAddr
def aA.field(h:aH E x=some a)(h2:ry P t a i=some v)(z:aA P cfg f l (T.set E d (some v)) H Q):aA P cfg f (⟨some d,.field t x i,none⟩::l) E H Q:=fS rfl (by simp only[cA,wO,Go.Ab.ret,h,h2]) z
def aA.indexAddr(h:aH E x=some a)(h1:aH E y=some b)(h2:dZ P t a b=some v)(z:aA P cfg f l (T.set E d (some v)) H Q):aA P cfg f (⟨some d,.indexAddr t x y,none⟩::l) E H Q:=fS rfl (by simp only[cA,wP,Go.Ab.ret,h,h1,h2]) z
def Es:=@aA.indexAddr
def aA.index(h:aH E x=some a)(h1:aH E y=some b)(h2:mr P t a b=some v)(z:aA P cfg f l (T.set E d (some v)) H Q):aA P cfg f (⟨some d,.index t x y,none⟩::l) E H Q:=fS rfl (by simp only[cA,wQ,Go.Ab.ret,h,h1,h2]) z
def aA.extract(h:aH E x=some a)(h2:Ab.extract a i=some v)(z:aA P cfg f l (T.set E d (some v)) H Q):aA P cfg f (⟨some d,.extract x i,none⟩::l) E H Q:=fS rfl (by simp only[cA,wS,Go.Ab.ret,h,h2]) z
def aA.alloc{n:Nat}(h:cj P t=some z)(M:some H.next=some n)(Z:aA P cfg f l (T.set E d (some (.ptr n 0))) (H.alloc (.cells z 0 true)) Q):aA P cfg f (⟨some d,.alloc t,none⟩::l) E H Q:=by
 simp only[aC]at M;subst M;exact fS rfl (by simp only[cA,uF,h]) Z
def aA.box{n:Nat}(h:aH E x=some a)(L:some a.cells=some cs)(M:some H.next=some n)(z:aA P cfg f l (T.set E d (some (.ptr n 0))) (H.alloc (.cells cs 0 true)) Q):aA P cfg f (⟨some d,.box t x,none⟩::l) E H Q:=by
 simp only[aC]at L M;subst L M;exact fS rfl (by simp only[cA,uG,h]) z
def aA.build{ps:qE}(h:iW E U.toList=some ps)(h2:dF P t ps=some v)(z:aA P cfg f l (T.set E d (some v)) H Q):aA P cfg f (⟨some d,.build t U,none⟩::l) E H Q:=fS rfl (by simp only[cA,wH,Go.Ab.ret,h,h2]) z
def aA.buildSlice{n:Nat}{ps:qE}(h:iW E U.toList=some ps)(h2:ec P H t n ps=some (v,H'))(z:aA P cfg f l (T.set E d (some v)) H' Q):aA P cfg f (⟨some d,.buildSlice t n U,none⟩::l) E H Q:=
 fS rfl (by simp only[cA,uH,h,h2]) z
def Et:=@aA.buildSlice
def aA.makeMap{n:Nat}(M:some H.next=some n)(z:aA P cfg f l (T.set E d (some (.map n))) (H.alloc (.map [])) Q):aA P cfg f (⟨some d,.makeMap t none,none⟩::l) E H Q:=by
 simp only[aC]at M;subst M;exact fS rfl (by simp only[cA,uK]) z
def aA.lookup{ok:Bool}(h:aH E x=some a)(h1:aH E y=some b)(h2:gG P H t a b ok=some v)(z:aA P cfg f l (T.set E d (some v)) H Q):aA P cfg f (⟨some d,.lookup t x y ok,none⟩::l) E H Q:=fS rfl (by simp only[cA,uN,Go.Ab.ret,h,h1,h2]) z
def aA.mapUpdate{z:Operand}{c:AV}(h:aH E x=some a)(h1:aH E y=some b)(h2:aH E z=some c)(I:kz P H t a b c=some H')(Z:aA P cfg f l E H' Q):aA P cfg f (⟨none,.mapUpdate t x y z,none⟩::l) E H Q:=
 Em rfl (by simp only[cA,wR,Go.Ab.ret,h,h1,h2,I];rfl) Z
def Eu:=@aA.mapUpdate
def aA.makeFunc{cap:Array Operand}(h:fA E cap.toList=some vs)(z:aA P cfg f l (T.set E d (some (.a9 g vs))) H Q):aA P cfg f (⟨some d,.makeFunc (.func g) #[] cap,none⟩::l) E H Q:=fS rfl (by simp only[cA,wM,h]) z
def aA.slice{O:qr}(h:aH E x=some a)(h1:iA E lo=some O)(h2:iA E J=some Y)(I:lc P H t a O Y=some v)(z:aA P cfg f l (T.set E d (some v)) H Q):aA P cfg f (⟨some d,.slice t x lo J none,none⟩::l) E H Q:=
 fS rfl (by simp only[cA,uM,Go.Ab.ret,h,h1,h2,I]) z
def aA.makeSlice(h:aH E x=some a)(h1:aH E y=some b)(h2:mw P H t a b=some (v,H'))(z:aA P cfg f l (T.set E d (some v)) H' Q):aA P cfg f (⟨some d,.makeSlice t x y,none⟩::l) E H Q:=fS rfl (by simp only[cA,uL,h,h1,h2]) z
def Ev:=@aA.makeSlice
def aA.len{c:AV}(h:aH E x=some a)(h1:gh P H t a=some c)(z:aA P cfg f l (T.set E d (some c)) H Q):aA P cfg f (⟨some d,.call ⟨.builtin .len,#[x],#[t]⟩,none⟩::l) E H Q:=
 xK (c:=⟨.builtin .len,#[x],#[t]⟩) rfl (vs:=[a]) (by simp only[fA,h]) (by simp only[mW,h1]) z
def aA.append(h:aH E x=some a)(h1:aH E y=some b)(h2:cY P (cfg.keep f) H t u a b=some (v,H'))(z:aA P cfg f l (T.set E d (some v)) H' Q):aA P cfg f (⟨some d,.call ⟨.builtin .append,#[x,y],#[t,u]⟩,none⟩::l) E H Q:=
 xK (c:=⟨.builtin .append,#[x,y],#[t,u]⟩) rfl (vs:=[a,b]) Bc (by simp only[mW,h2]) z
def rY:=@aA.append
end
def gO(E:ax)(d t:Nat)(v:AV):ax.at (T.set E d (some v)) t=bif t == d then v else E.at t:=by
 rw[tj];by_cases h:t=d
 .simp[h]
 .have:(t == d)=false:=by simpa using h
  rw[ao h,this,rV]
def get_set(H:Hp)(d t:Nat)(b:HB):(H.set d b).get t=bif t == d then some b else H.get t:=by
 rw[bi];by_cases h:t=d
 .simp[h]
 .have:(t == d)=false:=by simpa using h
  rw[ao h,this,rV]
theorem My(E:ax)(t:Nat):aH E (.tmp t)=some (E.at t):=rfl
theorem Mz(E:ax)(k:IntKind)(n:Int):aH E (.const (.int k n))=some (.int k n):=rfl
theorem MA(E:ax)(b:Bool):aH E (.const (.bool b))=some (.bool b):=rfl
theorem MB(E:ax)(g:FuncId):aH E (.func g)=some (.a9 g []):=rfl
theorem MC(E:ax)(s:ByteArray):aH E (.const (.string s))=some (.ag s.data.toList):=rfl
section
variable {D:BinOp -> Sx -> Sx -> qA} {t:TypeId} {k:IntKind} {a b:Int} {s u:qn}
def MD:dw P D .add t (.int k a) (.int k b)=some (.int k (k.wrap (a+b))):=nt
def ME:dw P D .sub t (.int k a) (.int k b)=some (.int k (k.wrap (a-b))):=nt
def MF:dw P D .mul t (.int k a) (.int k b)=some (.int k (k.wrap (a*b))):=nt
def MG(h:b≠0):dw P D .quo t (.int k a) (.int k b)=some (.int k (k.wrap (a.tdiv b))):=by simp[dw,pe,hO,h]
def MH(h:b≠0):dw P D .rem t (.int k a) (.int k b)=some (.int k (a.tmod b)):=by simp[dw,pe,hO,h]
def MI:dw P D .and t (.int k a) (.int k b)=some (.int k (k.wrap (BitVec.ofInt k.bits a &&& BitVec.ofInt k.bits b).toNat)):=nt
def MJ:dw P D .or t (.int k a) (.int k b)=some (.int k (k.wrap (BitVec.ofInt k.bits a |||BitVec.ofInt k.bits b).toNat)):=nt
def MK:dw P D .xor t (.int k a) (.int k b)=some (.int k (k.wrap (BitVec.ofInt k.bits a^^^ BitVec.ofInt k.bits b).toNat)):=nt
theorem ML:dw P D .eql t (.int k a) (.int k b)=some (.bool (decide (a=b))):=by simp[dw,pe,hO];rfl
theorem MM:dw P D .neq t (.int k a) (.int k b)=some (.bool (!decide (a=b))):=by simp[dw,pe,hO];rfl
def MN:dw P D .lss t (.int k a) (.int k b)=some (.bool (decide (a<b))):=nt
def MO:dw P D .leq t (.int k a) (.int k b)=some (.bool (decide (a<=b))):=nt
def MP:dw P D .gtr t (.int k a) (.int k b)=some (.bool (decide (b<a))):=nt
def MQ:dw P D .geq t (.int k a) (.int k b)=some (.bool (decide (b<=a))):=nt
def MR:dw P D .eql t (.ag s) (.ag u)=some (.bool (decide (s=u))):=by
 simp only[dw,uE];by_cases h:s=u<;>simp[h]
def MS:dw P D .neq t (.ag s) (.ag u)=some (.bool (!decide (s=u))):=by
 simp only[dw,uE];by_cases h:s=u<;>simp[h]
theorem MT{x:Bool}:ph .not (.bool x)=some (.bool !x):=rfl
theorem MU:ph .neg (.int k a)=some (.int k (k.wrap (0-a))):=rfl
end
theorem gP(h:i<2^62):IntKind.wrap .i64 ((i:Int)+1)=((i+1:Nat):Int):=by
 rw[rK _ ac];rfl
def MV{H:Hp}(h:P.underlying t=some (.slice e))(xs:List ql):gh P H t (.aq xs)=some (.int .i64 xs.length):=xD
def Bf{H:Hp}(h:P.underlying t=some (.slice e))(r o n z:Nat):gh P H t (.sl r o n z)=some (.int .i64 n):=xD
def Bg{H:Hp}(h:P.underlying t=some (.slice e)):gh P H t .aa=some (.int .i64 0):=xD
def MW{H:Hp}(h:P.underlying t=some .string)(s:qn):gh P H t (.ag s)=some (.int .i64 s.length):=xD
def MX(h:P.underlying t=some (.slice e))(U:br P e=some s){xs:List ql}{row:ql}(hr:xs[i]?=some row)(z:row.length=s):dZ P t (.aq xs) (.int .i64 (i:Int))=some (.a2 row):=by
 show dZ P t (.aq xs) (.int .i64 (Int.ofNat i))=_;simp only[dZ,h,U,hr,z,cg]
def vu(h:P.underlying t=some (.slice e))(U:br P e=some s){n z:Nat}(J:i<n):dZ P t (.sl r o n z) (.int .i64 (i:Int))=some (.ptr r (o+i*s)):=by
 show dZ P t (.sl r o n z) (.int .i64 (Int.ofNat i))=_;simp only[dZ,h,U,J,cg]
def vx:TypeDesc->Bool
 | .struct _|.array _ _=>false
 |_=>true
theorem eV{d:TypeDesc}(h:P.underlying t=some d)(hd:vx d=true)(cs:ql)(o:Nat):cn P t cs o=cs[o]?:=by
 unfold cn;rw[h];cases d<;>simp_all[vx]
def Bh{H:Hp}{d:TypeDesc}(h:P.underlying t=some d)(hd:vx d=true){imm:Nat}{tip:Bool}(L:H.get r=some (.cells cs imm tip)):eR P H t (.ptr r o)=cs[o]?:=by
 simp only[eR,L,eV h hd]
def xL(z:Nat):Option ql->qr
 |some I=>if I.length=z then some (.a2 I)else none
 |none=>none
theorem MY(z:Nat)(row:ql):xL z (some row)=if row.length=z then some (.a2 row)else none:=rfl
def xM:Option UInt8->qr
 |some b=>some (.int .u8 b.toNat)
 |none=>none
theorem MZ(b:UInt8):xM (some b)=some (.int .u8 b.toNat):=rfl
def cr(s:Nat)(cs:ql):qr:=if (cs.take s).length=s then some (.agg (cs.take s))else none
theorem jp{d:TypeDesc}(h:P.underlying t=some d)(hd:vx d=false)(U:br P t=some s)(cs:ql)(o:Nat):cn P t cs o=cr s (cs.drop o):=by
 unfold cn cr;rw[h];cases d<;>simp_all[vx]
theorem M0(h:P.underlying t=some (.slice e))(U:br P e=some s)(xs:List ql){n:Int}(M:0<=n)(k:IntKind):dZ P t (.aq xs) (.int k n)=xL s (xs[n.toNat]?):=by
 obtain⟨m,rfl⟩:=rW M;show dZ P t (.aq xs) (.int k (Int.ofNat m))=xL s (xs[m]?);simp only[dZ,h,U];cases xs[m]? <;>rfl
def kL(h:P.underlying t=some (.slice e))(U:br P e=some s)(r o l z:Nat){n:Int}(M:0<=n)(k:IntKind):dZ P t (.sl r o l z) (.int k n)=bif decide (n.toNat<l)then some (.ptr r (o+n.toNat*s))else none:=by
 obtain⟨m,rfl⟩:=rW M;show dZ P t (.sl r o l z) (.int k (Int.ofNat m))=bif decide (m<l)then some (.ptr r (o+m*s))else none
 simp only[dZ,h,U];by_cases Z:m<l<;>simp[Z]
theorem M1(h:P.underlying t=some .string)(s:qn){n:Int}(M:0<=n)(k:IntKind):mr P t (.ag s) (.int k n)=xM (s[n.toNat]?):=by
 obtain⟨m,rfl⟩:=rW M;show mr P t (.ag s) (.int k (Int.ofNat m))=xM (s[m]?);simp only[mr,h];cases s[m]? <;>rfl
def Ew(P:Program)(t:TypeId)(o:Nat):Option HB->qr
 |some (.cells cs _ _)=>cn P t cs o
 |_=>none
theorem M3(t:TypeId)(o:Nat)(cs:ql)(imm:Nat)(tip:Bool):Ew P t o (some (.cells cs imm tip))=cn P t cs o:=rfl
theorem xN(H:Hp)(t:TypeId)(r o:Nat):eR P H t (.ptr r o)=Ew P t o (H.get r):=rfl
theorem M4(H:Hp)(t:TypeId)(cs:ql):eR P H t (.a2 cs)=cn P t cs 0:=rfl
def xO(H:Hp)(b:HB)(t:Nat):(H.alloc b).get t=bif t == H.next then some b else H.get t:=by
 rw[aJ];by_cases h:t=H.next
 .simp[h]
 .have:(t == H.next)=false:=by simpa using h
  rw[ao h,this,rV]
noncomputable def Ey(H:Hp)(r o:Nat)(z:ql):qD->Option HB->Option Hp
 |some s,some (.cells cs m Z)=>if z.length=s/\m<=o/\o+s<=cs.length/\z.all AV.one=true then some (H.set r (.cells (splice cs o z) m Z))else none
 |_,_=>none
theorem Bi(H:Hp)(r o:Nat)(z:ql)(s:Nat)(cs:ql)(imm:Nat)(tip:Bool):Ey H r o z (some s) (some (.cells cs imm tip))=if z.length=s/\imm<=o/\o+s<=cs.length/\z.all AV.one=true then some (H.set r (.cells (splice cs o z) imm tip))else none:=rfl
theorem Bj(H:Hp)(t:TypeId)(r o:Nat)(v:AV):ky P H t (.ptr r o) v=Ey H r o v.cells (br P t) (H.get r):=by
 unfold ky;simp only[];cases Y:H.get r with
 |none=>cases br P t<;>rfl
 |some b=>cases b with
  |map z=>cases br P t<;>rfl
  |cells cs m Z=>cases br P t with
   |none=>rfl
   |some s=>rfl
theorem Ez(cs:ql)(o:Nat)(J:ql):splice cs o J=cs.take o++J++cs.drop (o+J.length):=rfl
theorem M5(cs:ql):AV.cells (.agg cs)=cs:=rfl
theorem cells_int(k:IntKind)(n:Int):AV.cells (.int k n)=[.int k n]:=rfl
theorem EA(b:Bool):AV.cells (.bool b)=[.bool b]:=rfl
theorem M6(b:qn):AV.cells (.ag b)=[.ag b]:=rfl
theorem M7(b:List ql):AV.cells (.aq b)=[.aq b]:=rfl
theorem M8(r o l z:Nat):AV.cells (.sl r o l z)=[.sl r o l z]:=rfl
theorem M9:AV.cells .aa=[.aa]:=rfl
theorem Na(r o:Nat):AV.cells (.ptr r o)=[.ptr r o]:=rfl
theorem Nb(r:Nat):AV.cells (.map r)=[.map r]:=rfl
theorem Nc(g:Nat)(cap:ql):AV.cells (.a9 g cap)=[.a9 g cap]:=rfl
theorem Nf(k:IntKind)(n:Int):AV.one (.int k n)=true:=rfl
theorem Ng(b:Bool):AV.one (.bool b)=true:=rfl
theorem Nh(b:qn):AV.one (.ag b)=true:=rfl
theorem Nk(b:List ql):AV.one (.aq b)=true:=rfl
theorem Nl(r o l z:Nat):AV.one (.sl r o l z)=true:=rfl
theorem Nm:AV.one .aa=true:=rfl
theorem Nn(r o:Nat):AV.one (.ptr r o)=true:=rfl
theorem No(r:Nat):AV.one (.map r)=true:=rfl
theorem Np(g:Nat)(cap:ql):AV.one (.a9 g cap)=true:=rfl
theorem cL:bE.next=0:=rfl
theorem Nq(H:Hp)(t:TypeId)(s:qn)(lo J:qr):lc P H t (.ag s) lo J=g8 P t (.ag s) lo J:=rfl
theorem Nr(H:Hp)(t:TypeId)(s:List ql)(lo J:qr):lc P H t (.aq s) lo J=g8 P t (.aq s) lo J:=rfl
theorem Ns(H:Hp)(t:TypeId)(r o n z:Nat)(lo J:qr):lc P H t (.sl r o n z) lo J=g8 P t (.sl r o n z) lo J:=rfl
theorem Nt(H:Hp)(t:TypeId)(lo J:qr):lc P H t .aa lo J=g8 P t .aa lo J:=rfl
def EB(n k:Nat):(n == n+(k+1))=false:=aE
def EC(n k:Nat):(n+(k+1) == n)=false:=aE
def ED(n a b:Nat):(n+a == n+b)=(a == b):=by
 by_cases h:a=b
 .simp[h]
 .have o:(a == b)=false:=by simpa using h
  rw[o];simp;omega
end
attribute [irreducible] aA bU aX fE
abbrev cW(l:qm):AV:=.aq (l.map fun s=>[.ag s])
abbrev Bk(l:qp):AV:=.aq (l.map fun n=>[.int .i64 n])
inductive Ex where
 |mk (kind:Int) (n:Int) (name:qn) (op:Int) (kids:List Ex)
abbrev qC:=List Ex
def Ex.ah:Ex->Int|.mk x _ _ _ _=>x
def Ex.n:Ex->Int|.mk _ x _ _ _=>x
def Ex.name:Ex->qn|.mk _ _ x _ _=>x
def Ex.op:Ex->Int|.mk _ _ _ x _=>x
def Ex.aj:Ex->qC|.mk _ _ _ _ x=>x
mutual
def Ex.cells:Ex->ql
 | .mk iU J z O W=>[.int .i64 iU,.int .i64 J,.ag z,.int .i64 O,.aq (xP W)]
def xP:qC->List ql
 |[]=>[]
 |x::xs=>Ex.cells x::xP xs
end
theorem EE:∀l:qC,xP l=l.map Ex.cells
 |[]=>rfl
 |x::xs=>by rw[xP,EE xs];rfl
def Ex.au(x:Ex):x.cells=[.int .i64 x.ah,.int .i64 x.n,.ag x.name,.int .i64 x.op,.aq (x.aj.map Ex.cells)]:=by
 cases x;simp only[Ex.cells,EE,Ex.ah,Ex.n,Ex.name,Ex.op,Ex.aj]
def jE:=@Ex.au
def Ex.a7(x:Ex):x.cells.length=5:=rT
def Ex.c0(x:Ex):x.cells[0]?=some (.int .i64 x.ah):=rT
def Ex.c1(x:Ex):x.cells[1]?=some (.int .i64 x.n):=rT
def Ex.c2(x:Ex):x.cells[2]?=some (.ag x.name):=rT
def Ex.c3(x:Ex):x.cells[3]?=some (.int .i64 x.op):=rT
def Ex.c4(x:Ex):x.cells[4]?=some (.aq (x.aj.map Ex.cells)):=rT
theorem Ex.aZ(x:Ex):cr 5 x.cells=some (.agg x.cells):=by unfold cr;rw[jE];rfl
def Ex.one(x:Ex):x.cells.all AV.one=true:=rT
inductive St where
 |mk (kind:Int) (name:qn) (to:qn) (n:Int) (at_:Ex) (value:Ex) (args:qC) (thn:List St) (els:List St)
abbrev qy:=List St
def St.ah:St->Int|.mk x _ _ _ _ _ _ _ _=>x
def St.name:St->qn|.mk _ x _ _ _ _ _ _ _=>x
def St.to:St->qn|.mk _ _ x _ _ _ _ _ _=>x
def St.n:St->Int|.mk _ _ _ x _ _ _ _ _=>x
variable{n:Nat}
def St.aW:St->Ex|.mk _ _ _ _ x _ _ _ _=>x
def St.value:St->Ex|.mk _ _ _ _ _ x _ _ _=>x
def St.args:St->qC|.mk _ _ _ _ _ _ x _ _=>x
def St.a8:St->qy|.mk _ _ _ _ _ _ _ x _=>x
def St.bA:St->qy|.mk _ _ _ _ _ _ _ _ x=>x
mutual
def St.cells:St->ql
 | .mk iU J z O W o Z Y V=>[.int .i64 iU,.ag J,.ag z,.int .i64 O,.int .i64 W.ah,.int .i64 W.n,.ag W.name,.int .i64 W.op,.aq (W.aj.map Ex.cells),.int .i64 o.ah,.int .i64 o.n,.ag o.name,.int .i64 o.op,.aq (o.aj.map Ex.cells),.aq (Z.map Ex.cells),.aq (vy Y),.aq (vy V)]
def vy:qy->List ql
 |[]=>[]
 |x::xs=>St.cells x::vy xs
end
theorem EF:∀l:qy,vy l=l.map St.cells
 |[]=>rfl
 |x::xs=>by rw[vy,EF xs];rfl
def St.au(x:St):x.cells=[.int .i64 x.ah,.ag x.name,.ag x.to,.int .i64 x.n,.int .i64 x.aW.ah,.int .i64 x.aW.n,.ag x.aW.name,.int .i64 x.aW.op,.aq (x.aW.aj.map Ex.cells),.int .i64 x.value.ah,.int .i64 x.value.n,.ag x.value.name,.int .i64 x.value.op,.aq (x.value.aj.map Ex.cells),.aq (x.args.map Ex.cells),.aq (x.a8.map St.cells),.aq (x.bA.map St.cells)]:=by
 cases x;simp only[St.cells,EF,St.ah,St.name,St.to,St.n,St.aW,St.value,St.args,St.a8,St.bA]
def rZ:=@St.au
def St.a7(x:St):x.cells.length=17:=il
def St.c0(x:St):x.cells[0]?=some (.int .i64 x.ah):=il
def St.c1(x:St):x.cells[1]?=some (.ag x.name):=il
def St.c2(x:St):x.cells[2]?=some (.ag x.to):=il
def St.c3(x:St):x.cells[3]?=some (.int .i64 x.n):=il
def St.c4(x:St):x.cells[4]?=some (.int .i64 x.aW.ah):=il
def St.c5(x:St):x.cells[5]?=some (.int .i64 x.aW.n):=il
def St.c6(x:St):x.cells[6]?=some (.ag x.aW.name):=il
def St.c7(x:St):x.cells[7]?=some (.int .i64 x.aW.op):=il
def St.c8(x:St):x.cells[8]?=some (.aq (x.aW.aj.map Ex.cells)):=il
def St.c9(x:St):x.cells[9]?=some (.int .i64 x.value.ah):=il
def St.c10(x:St):x.cells[10]?=some (.int .i64 x.value.n):=il
def St.c11(x:St):x.cells[11]?=some (.ag x.value.name):=il
def St.c12(x:St):x.cells[12]?=some (.int .i64 x.value.op):=il
def St.c13(x:St):x.cells[13]?=some (.aq (x.value.aj.map Ex.cells)):=il
def St.c14(x:St):x.cells[14]?=some (.aq (x.args.map Ex.cells)):=il
def St.c15(x:St):x.cells[15]?=some (.aq (x.a8.map St.cells)):=il
def St.c16(x:St):x.cells[16]?=some (.aq (x.bA.map St.cells)):=il
theorem St.aZ(x:St):cr 17 x.cells=some (.agg x.cells):=by unfold cr;rw[rZ];rfl
def St.one(x:St):x.cells.all AV.one=true:=il
theorem Nu(x:St):cr 5 (x.cells.drop 4)=some (.agg x.aW.cells):=by unfold cr;rw[rZ,jE];rfl
theorem St.bq(x:St):cr 5 (x.cells.drop 9)=some (.agg x.value.cells):=by unfold cr;rw[rZ,jE];rfl
structure Fu where
 name:qn
 params:qm
 ai:qm
 body:qy
 value:Ex
abbrev qH:=List Fu
def Fu.cells(x:Fu):ql:=[.ag x.name,cW x.params,cW x.ai,.aq (x.body.map St.cells),.int .i64 x.value.ah,.int .i64 x.value.n,.ag x.value.name,.int .i64 x.value.op,.aq (x.value.aj.map Ex.cells)]
theorem Fu.au(x:Fu):x.cells=[.ag x.name,cW x.params,cW x.ai,.aq (x.body.map St.cells),.int .i64 x.value.ah,.int .i64 x.value.n,.ag x.value.name,.int .i64 x.value.op,.aq (x.value.aj.map Ex.cells)]:=rfl
def vz:=@Fu.au
def Fu.a7(x:Fu):x.cells.length=9:=mE
def Fu.c0(x:Fu):x.cells[0]?=some (.ag x.name):=mE
def Fu.c1(x:Fu):x.cells[1]?=some (cW x.params):=mE
def Fu.c2(x:Fu):x.cells[2]?=some (cW x.ai):=mE
def Fu.c3(x:Fu):x.cells[3]?=some (.aq (x.body.map St.cells)):=mE
def Fu.c4(x:Fu):x.cells[4]?=some (.int .i64 x.value.ah):=mE
def Fu.c5(x:Fu):x.cells[5]?=some (.int .i64 x.value.n):=mE
def Fu.c6(x:Fu):x.cells[6]?=some (.ag x.value.name):=mE
def Fu.c7(x:Fu):x.cells[7]?=some (.int .i64 x.value.op):=mE
def Fu.c8(x:Fu):x.cells[8]?=some (.aq (x.value.aj.map Ex.cells)):=mE
theorem Fu.aZ(x:Fu):cr 9 x.cells=some (.agg x.cells):=by unfold cr;rw[vz];rfl
def Fu.one(x:Fu):x.cells.all AV.one=true:=mE
theorem Fu.bq(x:Fu):cr 5 (x.cells.drop 4)=some (.agg x.value.cells):=by unfold cr;rw[vz,jE];rfl
structure Ar where
 name:qn
 len:Int
def Ar.cells(x:Ar):ql:=[.ag x.name,.int .i64 x.len]
theorem Ar.au(x:Ar):x.cells=[.ag x.name,.int .i64 x.len]:=rfl
def Ar.a7(x:Ar):x.cells.length=2:=xE
def Ar.c0(x:Ar):x.cells[0]?=some (.ag x.name):=xE
def Ar.c1(x:Ar):x.cells[1]?=some (.int .i64 x.len):=xE
theorem Ar.aZ(x:Ar):cr 2 x.cells=some (.agg x.cells):=by unfold cr;rw[Ar.au];rfl
def Ar.one(x:Ar):x.cells.all AV.one=true:=xE
structure Pr where
 af:List Ar
 funcs:qH
def Pr.cells(x:Pr):ql:=[.aq (x.af.map Ar.cells),.aq (x.funcs.map Fu.cells)]
theorem Pr.au(x:Pr):x.cells=[.aq (x.af.map Ar.cells),.aq (x.funcs.map Fu.cells)]:=rfl
def Pr.a7(x:Pr):x.cells.length=2:=xF
def Pr.c0(x:Pr):x.cells[0]?=some (.aq (x.af.map Ar.cells)):=xF
def Pr.c1(x:Pr):x.cells[1]?=some (.aq (x.funcs.map Fu.cells)):=xF
theorem Pr.aZ(x:Pr):cr 2 x.cells=some (.agg x.cells):=by unfold cr;rw[Pr.au];rfl
def Pr.one(x:Pr):x.cells.all AV.one=true:=xF
structure Tk where
 ah:Int
 text:qn
 aW:Int
abbrev qx:=List Tk
def Tk.cells(x:Tk):ql:=[.int .i64 x.ah,.ag x.text,.int .i64 x.aW]
theorem Tk.au(x:Tk):x.cells=[.int .i64 x.ah,.ag x.text,.int .i64 x.aW]:=rfl
def Tk.a7(x:Tk):x.cells.length=3:=vq
def Tk.c0(x:Tk):x.cells[0]?=some (.int .i64 x.ah):=vq
def Tk.c1(x:Tk):x.cells[1]?=some (.ag x.text):=vq
def Tk.c2(x:Tk):x.cells[2]?=some (.int .i64 x.aW):=vq
theorem Tk.aZ(x:Tk):cr 3 x.cells=some (.agg x.cells):=by unfold cr;rw[Tk.au];rfl
def Tk.one(x:Tk):x.cells.all AV.one=true:=vq
structure Nd where
 op:Int
 aY:Int
 aj:qp
abbrev qz:=List Nd
def Nd.cells(x:Nd):ql:=[.int .i64 x.op,.int .i64 x.aY,Bk x.aj]
theorem Nd.au(x:Nd):x.cells=[.int .i64 x.op,.int .i64 x.aY,Bk x.aj]:=rfl
def Nd.a7(x:Nd):x.cells.length=3:=vr
def Nd.c0(x:Nd):x.cells[0]?=some (.int .i64 x.op):=vr
def Nd.c1(x:Nd):x.cells[1]?=some (.int .i64 x.aY):=vr
def Nd.c2(x:Nd):x.cells[2]?=some (Bk x.aj):=vr
theorem Nd.aZ(x:Nd):cr 3 x.cells=some (.agg x.cells):=by unfold cr;rw[Nd.au];rfl
def Nd.one(x:Nd):x.cells.all AV.one=true:=vr
structure Gr where
 name:qn
 params:Int
 aP:qz
 value:Int
 ab:Int
def Gr.cells(x:Gr):ql:=[.ag x.name,.int .i64 x.params,.aq (x.aP.map Nd.cells),.int .i64 x.value,.int .i64 x.ab]
theorem Gr.au(x:Gr):x.cells=[.ag x.name,.int .i64 x.params,.aq (x.aP.map Nd.cells),.int .i64 x.value,.int .i64 x.ab]:=rfl
def Gr.a7(x:Gr):x.cells.length=5:=rU
def Gr.c0(x:Gr):x.cells[0]?=some (.ag x.name):=rU
def Gr.c1(x:Gr):x.cells[1]?=some (.int .i64 x.params):=rU
def Gr.c2(x:Gr):x.cells[2]?=some (.aq (x.aP.map Nd.cells)):=rU
def Gr.c3(x:Gr):x.cells[3]?=some (.int .i64 x.value):=rU
def Gr.c4(x:Gr):x.cells[4]?=some (.int .i64 x.ab):=rU
theorem Gr.aZ(x:Gr):cr 5 x.cells=some (.agg x.cells):=by unfold cr;rw[Gr.au];rfl
def Gr.one(x:Gr):x.cells.all AV.one=true:=rU
structure Un where
 af:List Ar
 funcs:List Gr
def Un.cells(x:Un):ql:=[.aq (x.af.map Ar.cells),.aq (x.funcs.map Gr.cells)]
theorem Un.au(x:Un):x.cells=[.aq (x.af.map Ar.cells),.aq (x.funcs.map Gr.cells)]:=rfl
def Un.a7(x:Un):x.cells.length=2:=xG
def Un.c0(x:Un):x.cells[0]?=some (.aq (x.af.map Ar.cells)):=xG
def Un.c1(x:Un):x.cells[1]?=some (.aq (x.funcs.map Gr.cells)):=xG
theorem Un.aZ(x:Un):cr 2 x.cells=some (.agg x.cells):=by unfold cr;rw[Un.au];rfl
def Un.one(x:Un):x.cells.all AV.one=true:=xG
abbrev er(n:Int):Int:=IntKind.wrap .i64 n
section
variable (q:Ex -> Int -> Bool)
mutual
def jF:Ex->Int->Bool
 | .mk k n s o C,d=>q (.mk k n s o C) d&&fT C (er (d+1))
def fT:qC->Int->Bool
 |[],_=>true
 |e::es,d=>jF e d&&fT es d
end
def Bl(e:Ex)(d:Int):jF q e d=(q e d&&fT q e.aj (er (d+1))):=by
 cases e;simp only[jF,Ex.aj]
def xQ{l:qC}(h:i<l.length)(d:Int):fT q (l.drop i) d=(jF q l[i] d&&fT q (l.drop (i+1)) d):=by
 rw[eM h,fT]
end
section
variable {σ:Type} (q:St -> Int -> σ -> Bool × σ)
mutual
def iJ:St->Int->σ->Bool×σ
 | .mk k z Y n a v C U V,d,s=>match q (.mk k z Y n a v C U V) d s with
   |(false,s)=>(false,s)
   |(true,s)=>match dk U (er (d+1)) s with
    |(false,s)=>(false,s)
    |(true,s)=>dk V (er (d+1)) s
def dk:qy->Int->σ->Bool×σ
 |[],_,s=>(true,s)
 |x::l,d,s=>match iJ x d s with
  |(false,s)=>(false,s)
  |(true,s)=>dk l d s
end
def Nv(x:St)(d:Int)(s:σ):iJ q x d s=match q x d s with
 |(false,s)=>(false,s)
 |(true,s)=>match dk q x.a8 (er (d+1)) s with
  |(false,s)=>(false,s)
  |(true,s)=>dk q x.bA (er (d+1)) s:=by
 cases x;simp only[iJ,St.a8,St.bA]
def Nw{l:qy}(h:i<l.length)(d:Int)(s:σ):dk q (l.drop i) d s=match iJ q l[i] d s with
 |(false,s)=>(false,s)
 |(true,s)=>dk q (l.drop (i+1)) d s:=by
 rw[eM h,dk]
end
mutual
def Ex.sz:Ex->Nat
 | .mk _ _ s _ C=>1+s.length+iK C
def iK:qC->Nat
 |[]=>0
 |e::es=>1+e.sz+iK es
end
mutual
def St.sz:St->Nat
 | .mk _ z Y _ a v C U V=>1+z.length+Y.length+a.sz+v.sz+iK C+dQ U+dQ V
def dQ:qy->Nat
 |[]=>0
 |x::l=>1+x.sz+dQ l
end
def eN:qm->Nat
 |[]=>0
 |s::l=>1+s.length+eN l
def Fu.sz(f:Fu):Nat:=1+f.name.length+eN f.params+eN f.ai+dQ f.body+f.value.sz
def j5:qH->Nat
 |[]=>0
 |f::l=>1+f.sz+j5 l
def j6:List Ar->Nat
 |[]=>0
 |a::l=>1+a.name.length+j6 l
def Pr.sz(p:Pr):Nat:=1+j6 p.af+j5 p.funcs
theorem tC:∀l:qC,l.length<=iK l
 |[]=>az _
 |e::es=>by have:=tC es;simp only[cy,iK];omega
theorem xR:∀l:qy,l.length<=dQ l
 |[]=>az _
 |e::es=>by have:=xR es;simp only[cy,dQ];omega
theorem pF:∀l:qm,l.length<=eN l
 |[]=>az _
 |e::es=>by have:=pF es;simp only[cy,eN];omega
theorem r0:∀l:qH,l.length<=j5 l
 |[]=>az _
 |e::es=>by have:=r0 es;simp only[cy,j5];omega
theorem r8:∀l:List Ar,l.length<=j6 l
 |[]=>az _
 |e::es=>by have:=r8 es;simp only[cy,j6];omega
theorem sd:∀{l:qC}{x:Ex},x∈l->x.sz<iK l
 |[],_,h=>by simp at h
 |e::es,x,h=>by
  rcases eK.1 h with rfl|h
  .simp only[iK];omega
  .have:=sd h;simp only[iK];omega
theorem pG:∀{l:qy}{x:St},x∈l->x.sz<dQ l
 |[],_,h=>by simp at h
 |e::es,x,h=>by
  rcases eK.1 h with rfl|h
  .simp only[dQ];omega
  .have:=pG h;simp only[dQ];omega
theorem EG:∀{l:qm}{x:qn},x∈l->x.length<eN l
 |[],_,h=>by simp at h
 |e::es,x,h=>by
  rcases eK.1 h with rfl|h
  .simp only[eN];omega
  .have:=EG h;simp only[eN];omega
theorem se:∀{l:qH}{x:Fu},x∈l->x.sz<j5 l
 |[],_,h=>by simp at h
 |e::es,x,h=>by
  rcases eK.1 h with rfl|h
  .simp only[j5];omega
  .have:=se h;simp only[j5];omega
def Ex.aV(e:Ex):e.sz=1+e.name.length+iK e.aj:=by cases e;simp only[Ex.sz,Ex.name,Ex.aj]
def St.aV(x:St):x.sz=1+x.name.length+x.to.length+x.aW.sz+x.value.sz+iK x.args+dQ x.a8+dQ x.bA:=by cases x;simp only[St.sz,St.name,St.to,St.aW,St.value,St.args,St.a8,St.bA]
structure FrB (base:Nat) (H H':Hp):Prop where
 next:H.next<=H'.next
 get:∀r,base<=r->r<H.next->H'.get r=H.get r
def FrB.refl(base:Nat)(H:Hp):FrB base H H:=⟨az _,fun _ _ _=>rfl⟩
def fU:=@FrB.refl
def FrB.trans{base:Nat}{c:Hp}(h:FrB base a b)(k:FrB base b c):FrB base a c:=⟨dq h.next k.next,fun r o m=>(k.get r o (jW m h.next)).trans (h.get r o m)⟩
def FrB.alloc{base:Nat}(h:FrB base a b)(x:HB):FrB base a (b.alloc x):=⟨dq h.next (dB _),fun r o m=>by
 have:=h.next
 rw[aJ,ao ac];exact h.get r o m⟩
def FrB.set{base:Nat}(h:FrB base a b)(hr:a.next<=r\/r<base)(x:HB):FrB base a (b.set r x):=⟨h.next,fun k o m=>by
 rw[bi,ao ac];exact h.get k o m⟩
def fu(base:Nat)(H H':Hp):Prop:=∀r,r<base->H'.get r=H.get r
theorem fu.refl(base:Nat)(H:Hp):fu base H H:=fun _ _=>rfl
def mF:=@fu.refl
def fu.trans{base:Nat}{c:Hp}(h:fu base a b)(k:fu base b c):fu base a c:=fun r hr=>(k r hr).trans (h r hr)
def fu.alloc{base:Nat}(h:fu base a b)(C:base<=b.next)(x:HB):fu base a (b.alloc x):=fun r hr=>by rw[aJ,ao ac];exact h r hr
def fu.set{base:Nat}(h:fu base a b)(hr:base<=r)(x:HB):fu base a (b.set r x):=fun k z=>by rw[bi,ao ac];exact h k z
def FrB.cG{base:Nat}(h:base<=O)(k:FrB base a b):FrB O a b:=⟨k.next,fun r o m=>k.get r (dq h o) m⟩
def fu.cG{base:Nat}(h:base<=O)(k:fu O a b):fu base a b:=fun r hr=>k r (jW hr h)
def kM(x:St)(d:Int)(s:Int×Int):Bool×(Int×Int):=
 let n:=er (s.1+1)
 let l:=if x.ah=4 then er (s.2+1)else s.2
 (decide (d<=20)&&decide (n<=200)&&decide (l<=16),(n,l))
def oA(_:Ex)(d:Int):Bool:=decide (d<=20)
def lO(q:Ex->Int->Bool)(x:St)(_:Int)(s:Unit):Bool×Unit:=(jF q x.aW 0&&jF q x.value 0&&fT q x.args 0,s)
def lP(q:Ex->Int->Bool)(f:Fu):Bool:=jF q f.value 0&&(dk (lO q) f.body 0 ()).1
def gQ(f:Fu):Bool:=decide ((f.params.length:Int)<=6)&&decide ((f.ai.length:Int)<=8)&&(dk kM f.body 0 (0,0)).1&&lP oA f
def iZ(p:Pr):Bool:=!decide (4<(p.af.length:Int)) && !decide (8<(p.funcs.length:Int))&&p.af.all (fun a=>!decide (a.len<1) && !decide (16<a.len))&&p.funcs.all gQ
def fV(n:Int):Bool:=(decide (97<=n)&&decide (n<=122))||(decide (65<=n)&&decide (n<=90))||decide (n=95)
def eW(n:Int):Bool:=decide (48<=n)&&decide (n<=57)
def ee(b:UInt8):Bool:=fV b.toNat||eW b.toNat
def cq:qn->Nat
 |[]=>0
 |b::s=>if ee b then cq s+1 else 0
theorem xS:∀s:qn,cq s<=s.length
 |[]=>az _
 |b::s=>by have:=xS s;simp only[cq,cy];split<;>omega
def gR:qn->Nat
 |[]=>0
 |b::s=>if b.toNat=10 then 0 else gR s+1
theorem EH:∀s:qn,gR s<=s.length
 |[]=>az _
 |b::s=>by have:=EH s;simp only[gR,cy];split<;>omega
def fF(b:UInt8):Bool:=decide (b.toNat=32)||decide (b.toNat=9)||decide (b.toNat=10)||decide (b.toNat=13)
def dI:Bool->qn->Nat
 |_,[]=>0
 |true,b::s=>if b.toNat=10 then (if fF b then dI false s+1 else 0)else dI true s+1
 |false,b::s=>if fF b then dI false s+1 else if b.toNat=35 then dI true s+1 else 0
theorem EI:∀s:qn,dI true s=gR s+dI false (s.drop (gR s))
 |[]=>rfl
 |b::s=>by
  simp only[dI,gR];by_cases h:b.toNat=10
  .have C:fF b=true:=by unfold fF;simp[h]
   simp[h,C,dI]
  .simp only[h,cm,xH,EI s];omega
theorem tD:∀(c:Bool) (s:qn),dI c s<=s.length
 |c,[]=>by cases c<;>exact az _
 |true,b::s=>by have o:=tD true s;have m:=tD false s;simp only[dI,cy];split<;>(try split)<;>omega
 |false,b::s=>by have o:=tD true s;have m:=tD false s;simp only[dI,cy];split<;>(try split)<;>omega
def EJ(s:qn)(k:Tk)(e:Int):Prop:=
 k.aW=0/\(e=0->∃n,1<=n/\n<=s.length/\k.text=s.take n/\(k.ah=1->n=cq s/\n<=16/\∀b,s[0]?=some b->eW b.toNat=false)) /\
 (1<=cq s->cq s<=16->(∀b,s[0]?=some b->eW b.toNat=false)->e=0/\k=⟨1,s.take (cq s),0⟩)
def pH(s:qn):Prop:=1<=cq s/\cq s=s.length/\s.length<=16/\∀b,s[0]?=some b->eW b.toNat=false
def xT(s:qn)(ts:qx):Prop:=∀k z,ts=k::z->∃dL,EJ (s.drop (dI false s)) dL 0/\k.ah=dL.ah/\k.text=dL.text
def tE(lo:Nat)(H:Hp)(O:AV)(ts:qx):Prop:=(ts=[]/\O=.aa)\/∃r,O=.sl r 0 ts.length 3/\H.get r=some (.cells (ts.flatMap Tk.cells) 0 true)/\lo<r/\r<H.next/\ts≠[]
theorem Nx{s:qn}(h:pH s):dI false s=0:=by
 obtain⟨o,m,I,Z⟩:=h;cases s with
 |nil=>rfl
 |cons b s=>
  have hd:=Z b rfl;simp only[cq]at o;have V:ee b=true:=by
   cases C:ee b with
   |true=>rfl
   |false=>rw[C]at o;simp at o
  simp only[ee,hd,lL]at V;have Y:fF b=false:=by
   unfold fF;simp only[fV,jl,j0]at V;simp;omega
  have U:¬b.toNat=35:=by
   simp only[fV,jl,j0]at V;omega
  simp only[dI,Y,cE,cm,U]
theorem EK:∀ts:qx,(ts.flatMap Tk.cells).length=ts.length*3
 |[]=>rfl
 |t::ts=>by rw[rX,em,EK ts,Tk.a7,cy];omega
def FrB.aU{base:Nat}(h:FrB base a b)(hr:a.next<=r):FrB base a (b.aU r):=⟨h.next,fun k o m=>by
 rw[fD,ao ac];exact h.get k o m⟩
def j7(s:qn):Bool:=decide (1<=cq s)&&decide (cq s=s.length)&&decide (s.length<=16)&&(match s with|b::_=>!eW b.toNat|[]=>true)
def xU(s:qn):j7 s=true↔pH s:=by
 unfold j7 pH;cases s with
 |nil=>simp[cq]
 |cons b s=>simp[and_assoc]
def oB(s:qn):Bool:=decide (s=[97,114,114,97,121])||decide (s=[102,117,110,99])||decide (s=[118,97,114])||decide (s=[114,101,116,117,114,110])||decide (s=[105,102])||decide (s=[101,108,115,101])||decide (s=[119,104,105,108,101])||decide (s=[111,117,116])||decide (s=[116,114,97,112])
def dt(s:qn):Bool:=j7 s && !oB s
def Ny{s:qn}{k:Tk}{z:qx}(h:xT s (k::z))(Z:k.ah=1)(Y:k.text=s):pH s:=by
 obtain⟨dL,o,m,I⟩:=h k z rfl;obtain⟨n,dW,U,W,O⟩:=o.2.1 rfl;obtain⟨J,L,V⟩:=O (by rw[<-m];exact Z);rw[<-I,Y]at W;have M:=jY List.length W;rw[iD,ib]at M;rw[ib]at U;have C:dI false s=0:=ac;rw[C,ft]at J V;have hn:n=s.length:=ac;exact⟨ac,ac,ac,V⟩
def dv(s:qn):Nat:=s.foldl (fun n c=>10*n+(c.toNat-48)) 0
def EL(c:UInt8):Bool:=decide (48<=c.toNat)&&decide (c.toNat<=57)
def lQ(s:qn):qD:=if decide (1<=s.length)&&decide (s.length<=19)&&s.all EL&&(decide (s.length=1) || !decide (s.headD 0=48))&&decide (dv s<=9223372036854775808)then some (dv s)else none
def pI:qm:=[[62,62,62],[60,60],[62,62],[60,61],[62,61],[61,61],[33,61]]
def nz:qn:=[43,45,42,47,37,38,124,94,126,33,60,62,61,63,58,59,44,40,41,123,125,91,93]
def xV(s:qn):Option qn:=if pI.all (fun t=>!decide (s.take t.length=t))&&nz.contains (s.headD 0)then some (s.take 1)else none
def jG:Nat->qn->Nat->Option qx
 |0,_,_=>none
 |n+1,s,i=>match s with
  |[]=>some []
  |c::r=>
   if fF c then jG n r (i+1)
   else if decide (c.toNat=35)then none
   else if ee c then
    if eW c.toNat then (lQ (s.take (cq s))).bind fun _=>(jG n (s.drop (cq s)) (i+cq s)).map fun l=>⟨2,s.take (cq s),i⟩::l
    else if 16<cq s then none
    else (jG n (s.drop (cq s)) (i+cq s)).map fun l=>⟨1,s.take (cq s),i⟩::l
   else (xV s).bind fun t=>(jG n r (i+1)).map fun l=>⟨3,t,i⟩::l
section
variable (l:qx)
def bP(i k:Nat)(s:qn):Bool:=match l[i+k]? with
 |some t=>decide (t.text=s) && !decide (t.ah=2)
 |none=>false
def i9(i:Nat)(k:Int):Bool:=match l[i]? with
 |some t=>decide (t.ah=k)
 |none=>false
def lR(i k:Nat):Bool:=match l[i+k]? with
 |some t=>decide (t.ah=1) && !oB t.text
 |none=>false
def gS(i:Nat):qn:=match l[i]? with
 |some t=>t.text
 |none=>[]
def cS(i:Nat)(s:qn):qD:=if bP l i 0 s then some (i+1)else none
def jq(i:Nat):Option (qn×Nat):=if lR l i 0 then some (gS l i,i+1)else none
def xW(i:Nat):Option (Int×Nat):=if i9 l i 2 then (lQ (gS l i)).bind fun n=>if n<=1000000 then some ((n:Int),i+1)else none else none
def lS(k:Nat)(s:qn):Int×Bool:=
 if k=0/\s=[124]then (10,false)
 else if k=1/\s=[94]then (11,false)
 else if k=2/\s=[38]then (9,false)
 else if k=3/\s=[61,61]then (15,false)
 else if k=3/\s=[33,61]then (16,false)
 else if k=4/\s=[60]then (17,false)
 else if k=4/\s=[60,61]then (18,false)
 else if k=4/\s=[62]then (17,true)
 else if k=4/\s=[62,61]then (18,true)
 else if k=5/\s=[60,60]then (12,false)
 else if k=5/\s=[62,62]then (14,false)
 else if k=5/\s=[62,62,62]then (13,false)
 else if k=6/\s=[43]then (4,false)
 else if k=6/\s=[45]then (5,false)
 else if k=7/\s=[42]then (6,false)
 else if k=7/\s=[47]then (7,false)
 else if k=7/\s=[37]then (8,false)
 else (0,false)
def dV:Nat->Nat->Nat->Ex->Nat->Option (Ex×Nat)
 |0,_,_,_,_=>none
 |n+1,m,k,a,i=>
  if m=2 then
   if bP l i 0 [45]||bP l i 0 [126]||bP l i 0 [33]then none
   else if i9 l i 2 then (lQ (gS l i)).bind fun v=>if v<9223372036854775808 then some (.mk 1 v [] 0 [],i+1)else none
   else if bP l i 0 [40]then (dV n 3 0 a (i+1)).bind fun r=>(cS l r.2 [41]).map fun j=>(r.1,j)
   else (jq l i).bind fun s=>
    if bP l s.2 0 [91]then (dV n 3 0 a (s.2+1)).bind fun r=>(cS l r.2 [93]).map fun j=>(.mk 3 0 s.1 0 [r.1],j)
    else some (.mk 2 0 s.1 0 [],s.2)
  else if m=3 then (dV n 0 0 a i).bind fun r=>if bP l r.2 0 [63]then none else some r
  else if m=0 then
   if 7<k then dV n 2 0 a i
   else (dV n 0 (k+1) a i).bind fun r=>dV n 1 k r.1 r.2
  else if i9 l i 3 then
   if (lS k (gS l i)).1=0 then some (a,i)
   else (dV n 0 (k+1) a (i+1)).bind fun r=>dV n 1 k (.mk 4 0 [] (lS k (gS l i)).1 (if (lS k (gS l i)).2 then [r.1,a]else [a,r.1])) r.2
  else some (a,i)
def mG:Ex:=.mk 0 0 [] 0 []
def ja(n i:Nat):Option (Ex×Nat):=dV l n 3 0 mG i
def gT(n:Nat):Nat->Nat->Option (St×Nat)
 |0,_=>none
 |d+1,i=>
  let W (i:Nat):Option (qy×Nat):=(cS l i [123]).bind fun j=>(many 0 (gT n d) [125] d j).bind fun r=>(cS l r.2 [125]).map fun j=>(r.1,j)
  if bP l i 0 [105,102]then (cS l (i+1) [40]).bind fun i=>(ja l n i).bind fun c=>(cS l c.2 [41]).bind fun i=>(W i).bind fun b=>if bP l b.2 0 [101,108,115,101]then none else some (.mk 3 [] [] 0 mG c.1 [] b.1 [],b.2)
  else if bP l i 0 [119,104,105,108,101]then (cS l (i+1) [40]).bind fun i=>(ja l n i).bind fun c=>(cS l c.2 [41]).bind fun i=>(W i).bind fun b=>some (.mk 4 [] [] 0 mG c.1 [] b.1 [],b.2)
  else if bP l i 0 [111,117,116]then (ja l n (i+1)).bind fun c=>(cS l c.2 [59]).map fun j=>(.mk 5 [] [] 0 mG c.1 [] [] [],j)
  else if bP l i 0 [116,114,97,112]then none
  else (jq l i).bind fun s=>
   if bP l s.2 0 [91]then (ja l n (s.2+1)).bind fun a=>(cS l a.2 [93]).bind fun i=>(cS l i [61]).bind fun i=>(ja l n i).bind fun c=>(cS l c.2 [59]).map fun j=>(.mk 2 s.1 [] 0 a.1 c.1 [] [] [],j)
   else (cS l s.2 [61]).bind fun i=>if lR l i 0&&bP l i 1 [40]then none else (ja l n i).bind fun c=>(cS l c.2 [59]).map fun j=>(.mk 1 s.1 [] 0 mG c.1 [] [] [],j)
where
 many (_:Nat) (f:Nat->Option (St×Nat)) (e:qn):Nat->Nat->Option (qy×Nat)
  |0,_=>none
  |m+1,i=>if bP l i 0 e then some ([],i)else (f i).bind fun s=>(many 0 f e m s.2).map fun r=>(s.1::r.1,r.2)
def sf:Nat->Nat->qm->Option (qm×Nat)
 |0,_,_=>none
 |m+1,i,acc=>if bP l i 0 [41]then some (acc,i)else
  (if acc.length=0 then some i else cS l i [44]).bind fun i=>(jq l i).bind fun s=>sf m s.2 (acc++[s.1])
def sg:Nat->Nat->qm->Option (qm×Nat)
 |0,_,_=>none
 |m+1,i,acc=>if bP l i 0 [44]then (jq l (i+1)).bind fun s=>sg m s.2 (acc++[s.1])else some (acc,i)
def xX(n i:Nat):Option (Fu×Nat):=
 (jq l i).bind fun s=>(cS l s.2 [40]).bind fun i=>(sf l n i []).bind fun p=>(cS l p.2 [41]).bind fun i=>
 (if bP l i 0 [118,97,114]then (jq l (i+1)).bind fun s=>sg l n s.2 [s.1]else some ([],i)).bind fun v=>(cS l v.2 [123]).bind fun i=>
 (gT.many l 0 (gT l n n) [114,101,116,117,114,110] n i).bind fun b=>(cS l b.2 [114,101,116,117,114,110]).bind fun i=>(ja l n i).bind fun e=>(cS l e.2 [59]).bind fun i=>(cS l i [125]).map fun i=>(⟨s.1,p.1,v.1,b.1,e.1⟩,i)
def j8(n:Nat):Nat->Nat->List Ar->qH->Option Pr
 |0,_,_,_=>none
 |m+1,i,asx,fs=>if l.length<=i then some ⟨asx,fs⟩
  else if bP l i 0 [97,114,114,97,121]then (jq l (i+1)).bind fun s=>(xW l s.2).bind fun k=>(cS l k.2 [59]).bind fun i=>j8 n m i (asx++[⟨s.1,k.1⟩]) fs
  else (cS l i [102,117,110,99]).bind fun i=>(xX l n i).bind fun f=>j8 n m f.2 asx (fs++[f.1])
end
theorem Sx.beq_refl:∀a:Sx,Sx.beq a a=true
 | .var i=>by simp[Sx.beq]
 | .lit n=>by simp[Sx.beq]
 | .bT o k a b=>by simp[Sx.beq,Sx.beq_refl a,Sx.beq_refl b]
 | .dk k a=>by simp[Sx.beq,Sx.beq_refl a]
mutual
theorem AV.beq_refl:∀a:AV,AV.beq a a=true
 | .int k n=>by simp[AV.beq]
 | .sx k e=>by simp[AV.beq,Sx.beq_refl]
 | .bool b=>by simp[AV.beq]
 | .ag s=>by simp[AV.beq]
 | .bl=>rfl
 | .a6=>rfl
 | .bz=>rfl
 | .aa=>rfl
 | .ptr r o=>by simp[AV.beq]
 | .a2 cs=>by simp only[AV.beq];exact oC cs
 | .sl r o l z=>by simp[AV.beq]
 | .aq Y=>by simp only[AV.beq];exact EM Y
 | .map r=>by simp[AV.beq]
 | .a9 f cs=>by simp only[AV.beq,oC cs,kJ];simp
 | .agg cs=>by simp only[AV.beq];exact oC cs
 | .aO cs=>by simp only[AV.beq];exact oC cs
theorem oC:∀a:ql,jg a a=true
 |[]=>rfl
 |a::l=>by simp only[jg,AV.beq_refl a,oC l,kJ]
theorem EM:∀a:List ql,rC a a=true
 |[]=>rfl
 |a::l=>by simp only[rC,oC a,EM l,kJ]
end
def sh(o:Oper):Bool:=ou o.op||ng o.op
def xY(o:Oper):Bool:=sh o||(match o.op with|.store ..|.mapUpdate ..=>true |_=>false)
def xZ(ops:qo):Bool:=
 mX ops&&(List.range ops.length).all (fun i=>match ops[i]? with|some o=>if Nat.blt (i+1) ops.length then sh o else xY o|none=>true)&&(lx ops).all (fun p=>Nat.blt p.2 ops.length)
section
variable {P:Program} {cfg:Cfg} {f N:Nat}
theorem Bm{ih:zac->Res}{I:qo}:∀{l:qo}{E E':ax}{H H':Hp},hU P cfg ih f N I l E H=.done .normal E' H'->∃rs,gI P cfg ih f N I l E H=.done E' H' rs
 |[],E,E',H,H',h=>by
  simp only[hU,Res.done.injEq,kI]at h;obtain⟨rfl,rfl⟩:=h;exact⟨[],rfl⟩
 |o::l,E,E',H,H',h=>by
  rw[vp]at h;simp only[gI];cases Z:gH I E o with
  |true=>
   rw[Z]at h;simp only[]at h⊢;cases V:cZ P cfg ih f E H o.op with
   |val v H1=>
    rw[V]at h;simp only[]at h⊢;cases hp:dH N E o.dst v with
    |none=>rw[hp]at h;simp[iB]at h
    |some E1=>
     rw[hp]at h;simp only[iB]at h;obtain⟨rs,hr⟩:=Bm h;exact⟨_,by simp only[ll,hr,lj];rfl⟩
   |done _ _ _=>rw[V]at h;simp at h
   |aM=>rw[V]at h;simp at h
  |false=>
   rw[Z]at h;simp only[]at h⊢;cases hp:dH N E o.dst cT with
   |none=>rw[hp]at h;simp[iB]at h
   |some E1=>
    rw[hp]at h;simp only[iB]at h;obtain⟨rs,hr⟩:=Bm h;exact⟨_,by simp only[ll,hr,lj];rfl⟩
def Bn{E:ax}{o:Oper}{H H':Hp}(z:sh o=true)(h:cZ P cfg ih f E H o.op=.val v H'):H'=H:=by
 unfold sh at z;rw[jl]at z;rcases z with z|z
 .have M:∀c,o.op≠.call c:=fun c e=>by
   rw[e]at z;simp only[ou,eB]at z;split at z
   .rename_i Z;split at Z<;>simp at Z
   .simp at z
  exact(AF z ((rS M).1 h)).1
 .exact AG z h
def Nz{E:ax}{o:Oper}{H H':Hp}(z:xY o=true)(h:cZ P cfg ih f E H o.op=.val v H'):H.next<=H'.next:=by
 unfold xY at z;rw[jl]at z;rcases z with z|z
 .rw[Bn z h];exact az _
 .obtain⟨V,Z,I,J,L,guard⟩:=o;simp only[]at z h;cases Z<;>simp only[cE]at z
  case store t a x=>
   simp only[cZ,cA,wI]at h;split at h
   .split at h
    .rename_i U;simp only[eA,Res.val.injEq]at h;obtain⟨rfl,rfl⟩:=h;unfold ky at U;split at U
     .split at U
      .split at U
       .simp only[aC]at U;rw[<-U];exact az _
       .simp at U
      .simp at U
     .simp at U
    .simp[eA]at h
   .simp[eA]at h
  case mapUpdate t m k x=>
   simp only[cZ,cA,wR]at h;split at h
   .split at h
    .rename_i U;simp only[eA,Res.val.injEq]at h;obtain⟨rfl,rfl⟩:=h;unfold kz at U;split at U
     .split at U
      .split at U
       .split at U
        .simp only[aC]at U;rw[<-U];exact az _
        .simp only[aC]at U;rw[<-U];exact az _
        .simp at U
       .simp at U
      .simp at U
     .simp at U
    .simp[eA]at h
   .simp[eA]at h
theorem NA{ih':zac->Res}{f':FuncId}{E:ax}{op:Op}{H:Hp}(z:ng op=true):cZ P cfg ih f E H op=cZ P cfg ih' f' E H op:=by
 cases op<;>simp only[ng,eB,cE]at z<;>try rfl
 rename_i c;simp only[cZ,pj];cases hc:c.callee with
 |value g=>rw[hc]at z;simp at z
 |invoke g m=>rfl
 |builtin b=>
  rw[hc]at z;simp only[];cases b<;>simp only[cE]at z<;>rfl
theorem NB{E E':ax}{H H':Hp}(hp:xZ ops=true)(h:hU P cfg ih f N ops ops E H=.done .normal E' H'):jU P cfg ih f N ops E H=.done .normal E' H':=by
 unfold xZ at hp;simp only[ca,gk,lI]at hp;obtain⟨⟨Y,U⟩,M⟩:=hp;obtain⟨rs,hr⟩:=Bm h;have W:=vb hr;have hlen:=AD W;obtain⟨_,z2⟩:=AE W;have O:∀(i:Nat) o,ops[i]?=some o->i+1<ops.length->sh o=true:=fun i o I hi=>by
  have:=U i ac;rw[I]at this;simp only[show Nat.blt (i+1) ops.length=true by simpa [hZ]using hi,cg]at this;exact this
 have z:∀i,i+1<=ops.length->bY rs H' i=H:=fun i=>by
  induction i with
  |zero=>intro _;exact z2
  |succ i ih=>
   intro hi;have hri:=bc (show i<rs.length by omega);obtain⟨o,I,J⟩:=rR W hri;have h1:=ih ac;have h2:bY rs H' (i+1)=bY rs H' i:=by
    cases hd:(rs[i]' ac).did with
    |true=>exact Bn (O i o I ac) (J.dE hd)
    |false=>exact(J.no hd).2
   rw[h2,h1]
 unfold jU;rw[Y];simp only[hr];have m:rD P cfg (lx ops) rs H'=true:=by
  unfold rD;simp only[ca,gk];refine⟨fun r hm=>?_,fun p hpm=>?_⟩
  .obtain⟨i,hi⟩:=AL.1 hm;obtain⟨o,I,J⟩:=rR W hi;have L:i<ops.length:=(dx.1 I).1;rw[J.eH,J.eH'];refine Nat.ble_eq_true_of_le ?_;cases hd:r.did with
   |false=>rw[(J.no hd).2];exact az _
   |true=>
    by_cases C:i+1<ops.length
    .rw[Bn (O i o I C) (J.dE hd)];exact az _
    .have:=U i L;rw[I]at this;have hb:Nat.blt (i+1) ops.length=false:=by
      cases hx:Nat.blt (i+1) ops.length with
      |false=>rfl
      |true=>exact(C (by simpa [hZ]using hx)).elim
     simp only[hb,cE,cm]at this;exact Nz this (J.dE hd)
  .have hm:p.2<ops.length:=by simpa [hZ]using M p hpm
   cases hrp:rs[p.1]? with
   |none=>rfl
   |some r=>
    obtain⟨o,I,J⟩:=rR W hrp;have L:p.1<ops.length:=(dx.1 I).1;simp only[];cases hd:r.did with
    |false=>rfl
    |true=>
     simp only[nh,jC];have hH:r.H=bY rs H' p.2:=by rw[J.eH,z _ ac,z _ ac]
     unfold zcm;cases Z:eB r.o.op with
     |calm=>rfl
     |cO=>rfl
     |read=>
      simp only[];have V:=J.dE hd;rw[<-J.eE,<-J.eo,<-J.eH,hH]at V;rw[NA (P:=P) (cfg:=cfg) (f:=f) (ih:=ih) (ih':=fun _=>.aM) (f':=0) (by simp[ng,Z])]at V;rw[V];simp only[AV.beq_refl]
     |make=>
      exfalso;rw[J.eo]at Z;by_cases C:p.1+1<ops.length
      .have:=O _ o I C;unfold sh ou ng at this;rw[Z]at this;simp at this
      .have h3:=U p.1 L;rw[I]at h3;have hb:Nat.blt (p.1+1) ops.length=false:=by
        cases hx:Nat.blt (p.1+1) ops.length with
        |false=>rfl
        |true=>exact(C (by simpa [hZ]using hx)).elim
       simp only[hb,cE,cm,xY,sh,ou,ng,Z,Bool.or_self,jC]at h3;split at h3
       .rename_i V;rw[V]at Z;simp[eB]at Z
       .rename_i V;rw[V]at Z;simp[eB]at Z
       .simp at h3
 rw[m]
def bU.bK{id:Nat}{ops:qo}{l:List SOp}{E:ax}{H:Hp}{Q:AX->ax->Hp->Prop}(U:cfg.bM f id=.text)(V:xZ ops=true)(Z:bw N ops ops=some l)
 (h:∀K:ax->Hp->Prop,(∀E' H',Q .normal E' H'->K E' H')->aA P cfg f l E H K):bU P cfg f N (.bK id ops) E H Q:=by
 unfold bU;intro code hc;cases code with
 |region O I draw=>
  cases draw with
  |false=>simp only[aG,bF]at hc;split at hc<;>simp at hc
  |true=>
   simp only[aG,SC.bK.injEq]at hc;obtain⟨rfl,rfl⟩:=hc;obtain⟨n,E',H',o,m⟩:=aA.run Z (h (Q .normal) fun _ _ h=>h);refine⟨_,_,_,cB.bK (n:=n) (r:=.done .normal E' H') ?_ aE,m⟩;rw[U];simp only[hT];exact NB V o
 |_=>simp[aG]at hc
end
section
variable {P:Program} {H:Hp} {t u e:TypeId} {keep:Bool}
theorem NC{D:BinOp->Sx->Sx->qA}{t:TypeId}{s u:qn}:dw P D .leq t (.ag s) (.ag u)=some (.bool (o7 s u||s == u)):=rfl
def sk{z:Nat}{imm:Nat}{tip:Bool}(L:H.get r=some (.cells cs imm tip))(W:((cs.drop o).take (n*s)).length=n*s):eF H s (.sl r o n z)=some (n,(cs.drop o).take (n*s)):=by
 unfold eF;simp only[L,W,cg]
def vA{k:IntKind}{s:qn}{m:Nat}(V:P.underlying t=some .string)(Z:m<=s.length):g8 P t (.ag s) none (some (.int k (m:Int)))=some (.ag (s.take m)):=by
 show g8 P t (.ag s) none (some (.int k (Int.ofNat m)))=_;simp[g8,V,eS,Z]
def Bo{k:IntKind}{s:qn}(V:P.underlying t=some .string)(Z:m<=s.length):g8 P t (.ag s) (some (.int k (m:Int))) none=some (.ag (s.drop m)):=by
 show g8 P t (.ag s) (some (.int k (Int.ofNat m))) none=_;simp only[g8,V,eS];rw[aB ⟨Z,az _⟩];rw[fk aE]
def append_nil{b:Nat}{J:ql}{x:AV}(Z:P.underlying t=some (.slice e))(Y:br P e=some s)(C:cw P e=some b)(W:cj P e=some z)(m:hB P u=true)
 (O:eF H s x=some (n+1,J)) (U:J.all AV.one=true) (V:z.length=s) (h1:(n+1)*b<=cX) (h2:n+1<=cX) :
 cY P keep H t u .aa x=some (.sl H.next 0 (n+1) s,H.alloc (.cells J 0 true)):=by
 simp only[cY,Z,Y,C,W,m,O,U,V,oz,cg,fN,lh,h1,h2]
theorem ND{b len:Nat}{J:ql}{x:AV}(Z:P.underlying t=some (.slice e))(Y:br P e=some s)(C:cw P e=some b)(O:cj P e=some z)(m:hB P u=true)
 (M:eF H s x=some (n+1,J)) (U:J.all AV.one=true) (V:z.length=s) (L:H.get r=some (.cells cs 0 true)) (I:cs.length=len*s) (h1:(len+(n+1))*b<=cX) (h2:len+(n+1)<=cX) :
 cY P false H t u (.sl r 0 len s) x=some (.sl H.next 0 (len+(n+1)) s,(H.aU r).alloc (.cells (cs++J) 0 true)):=by
 have W:fN false H s (.sl r 0 len s)=H:=by
  unfold fN;simp only[L,bX];have:Nat.blt (len*s) cs.length=false:=by
   cases C:Nat.blt (len*s) cs.length with
   |false=>rfl
   |true=>rw[hZ]at C;omega
  simp[this]
 simp only[cY,Z,Y,C,O,m,M,U,V,oz,cg,W,lh,L,h1,h2,bX,I,db,rJ,ft,cE,cm]
end
theorem NE(E:ax):aH E (.const (.slice none 0 0))=some .aa:=rfl
theorem EN(E:ax):aH E (.const (.map none))=some .a6:=rfl
structure Rc where
 op:Op
 did:Bool
 E:ax
 H:Hp
 val:AV
 H':Hp
variable{E:ax}{H H':Hp}{C:List Rc}
section
variable (P:Program) (cfg:Cfg) (f:FuncId)
def dg:List SOp->List Rc->ax->Hp->(List Rc->ax->Hp->Prop)->Prop
 |[],tr,E,H,Q=>Q tr E H
 |o::l,tr,E,H,Q=>match o.g with
  |none=>fE P cfg f o.op E H fun v H'=>dg l (tr++[⟨o.op,true,E,H,v,H'⟩]) (aI E o.d v) H' Q
  |some (s,b)=>(E.at s=.bool b/\fE P cfg f o.op E H fun v H'=>dg l (tr++[⟨o.op,true,E,H,v,H'⟩]) (aI E o.d v) H' Q)\/((E.at s=.bool (!b)\/E.at s=cT)/\dg l (tr++[⟨o.op,false,E,H,cT,H⟩]) (aI E o.d cT) H Q)
def vB(C:List Rc)(H':Hp)(m:Nat):Hp:=match C[m]? with
 |some r=>r.H
 |none=>H'
def nA(r:Rc)(H:Hp):Prop:=match eB r.op with
 | .read=>∃U,cZ P cfg (fun _=>.aM) 0 r.E H r.op=.val r.val U
 | .make=>∃b,H.get r.H.next=some b/\r.H'.get r.H.next=some b
 |_=>True
def x5(C:List Rc)(H':Hp)(i m:Nat):Prop:=match C[i]? with
 |some r=>r.did=true->nA P cfg r (vB C H' m)
 |none=>True
def oD(U:qI)(C:List Rc)(H':Hp):Prop:=(∀r∈C,r.H.next<=r.H'.next)/\∀p∈U,x5 P cfg C H' p.1 p.2
end
section
variable {P:Program} {cfg:Cfg} {f N:Nat}
def sm(r:Rec):Rc:=⟨r.o.op,r.did,r.E,r.H,r.val,r.H'⟩
def HB.beq_refl(b:HB):HB.beq b b=true:=by
 cases b with
 |cells a i t=>simp[HB.beq,oC]
 |map z=>simp[HB.beq,oC]
theorem dg.run{I:qo}{Q:List Rc->ax->Hp->Prop}:∀{l:qo}{r:List SOp}{C:List Rc}{E:ax}{H:Hp},bw N I l=some r->dg P cfg f r C E H Q ->
 ∃n E' H' rs,gI P cfg (cI P cfg n) f N I l E H=.done E' H' rs/\Q (C++rs.map sm) E' H'
 |[],r,C,E,H,hs,Z=>by
  simp only[bw,aC]at hs;subst hs;unfold dg at Z;exact⟨0,E,H,[],rfl,kB⟩
 |o::l,r,C,E,H,hs,Z=>by
  simp only[bw]at hs;split at hs
  .rename_i d g r' h1 h2 h3;simp only[aC]at hs;subst hs;obtain⟨dM,w2⟩:=Ek (E:=E) h2;have z:∀k k',k<=k'->cV (cI P cfg k) (cI P cfg k'):=fun k k' hk t ht=>Bb hk ht;have V:fE P cfg f o.op E H (fun v H'=>dg P cfg f r' (C++[⟨o.op,true,E,H,v,H'⟩]) (aI E d v) H' Q)->gH I E o=true->∃n E' H' rs,gI P cfg (cI P cfg n) f N I (o::l) E H=.done E' H' rs/\Q (C++rs.map sm) E' H':=fun J Y=>by
    unfold fE at J;obtain⟨n,v,H1,g1,g2⟩:=J;obtain⟨m,U,O,rs,W,M⟩:=dg.run h3 g2;refine⟨max n m,U,O,⟨o,true,E,H,v,H1⟩::rs,?_,by simpa [sm]using M⟩;simp only[gI,Y];rw[xz (z n (max n m) (xp _ _)) (by rw[g1];simp),g1];simp only[xI h1,ll];rw[xB (z m (max n m) (xq _ _)) (by rw[W];simp),W];rfl
   unfold dg at Z;cases L:g with
   |none=>
    rw[L]at Z;exact V Z (dM L)
   |some sb=>
    obtain⟨s,b⟩:=sb;rw[L]at Z;simp only[]at Z;rcases Z with⟨e,Z⟩|⟨e,Z⟩
    .exact V Z ((w2 s b L).1 e)
    .obtain⟨m,U,O,rs,W,M⟩:=dg.run h3 Z;refine⟨m,U,O,⟨o,false,E,H,cT,H⟩::rs,?_,by simpa [sm]using M⟩;simp only[gI,(w2 s b L).2 e,xI h1,ll,W,lj]
  .simp at hs
theorem NF{Z:qI}{rs:List Rec}(h:oD P cfg Z (rs.map sm) H'):rD P cfg Z rs H'=true:=by
 unfold rD;simp only[ca,gk];refine⟨fun r W=>Nat.ble_eq_true_of_le (h.1 _ (lJ.2 ⟨r,W,rfl⟩)),fun p hp=>?_⟩;have U:=h.2 p hp;have z:vB (rs.map sm) H' p.2=bY rs H' p.2:=by
  unfold vB bY;rw[ii];cases rs[p.2]? <;>rfl
 unfold x5 at U;rw[ii,z]at U;cases hr:rs[p.1]? with
 |none=>rfl
 |some r=>
  rw[hr]at U;simp only[iG,sm]at U;simp only[jl,pD];cases hd:r.did with
  |false=>exact .inl rfl
  |true=>
   right
   have U:=U hd;unfold nA at U;unfold zcm;cases Y:eB r.o.op with
   |calm=>rfl
   |cO=>rfl
   |read=>
    rw[Y]at U;simp only[]at U⊢;obtain⟨V,m⟩:=U;rw[m];exact AV.beq_refl _
   |make=>
    rw[Y]at U;simp only[]at U⊢;obtain⟨b,o,m⟩:=U;rw[o,m];exact HB.beq_refl b
def EO{id:Nat}{o:qo}{U:qI}
 (Z:∀ih:zac->Res,hT P cfg ih f N E H (cfg.bM f id) ops=jU P cfg ih f N o E H) (V:mX o=true) (Y:bw N o o=some l) (M:lx o=U)
 (h:∀K:List Rc->ax->Hp->Prop,(∀C E' H',oD P cfg U C H'->Q .normal E' H'->K C E' H')->dg P cfg f l [] E H K):bU P cfg f N (.bK id ops) E H Q:=by
 unfold bU;intro code hc;cases code with
 |region J I draw=>
  cases draw with
  |false=>simp only[aG,bF]at hc;split at hc<;>simp at hc
  |true=>
   simp only[aG,SC.bK.injEq]at hc;obtain⟨rfl,rfl⟩:=hc;obtain⟨n,E',H',rs,O,m,L⟩:=dg.run Y (h (fun C E' H'=>oD P cfg U C H'/\Q .normal E' H') fun _ _ _ h W=>⟨h,W⟩);refine⟨_,_,_,cB.bK (n:=n) (r:=.done .normal E' H') ?_ aE,L⟩;rw[Z];unfold jU;rw[V];simp only[O];rw[M,NF uT]
 |_=>simp[aG]at hc
def NG{id:Nat}{U:qI}(Z:cfg.bM f id=.text)(V:mX ops=true)(Y:bw N ops ops=some l)(M:lx ops=U)
 (h:∀K:List Rc->ax->Hp->Prop,(∀C E' H',oD P cfg U C H'->Q .normal E' H'->K C E' H')->dg P cfg f l [] E H K):bU P cfg f N (.bK id ops) E H Q:=
 EO (fun ih=>by rw[Z];rfl) V Y M h
def NH{id:Nat}{M:qu}{U:qI}(Z:cfg.bM f id=.b2 M)(Y:uP M ops=true)(V:mX (fj M ops)=true)(W:bw N (fj M ops) (fj M ops)=some l)(O:lx (fj M ops)=U)
 (h:∀K:List Rc->ax->Hp->Prop,(∀C E' H',oD P cfg U C H'->Q .normal E' H'->K C E' H')->dg P cfg f l [] E H K):bU P cfg f N (.bK id ops) E H Q:=
 EO (fun ih=>by rw[Z];simp only[hT,Y]) V W O h
def dg.nil{Q:List Rc->ax->Hp->Prop}(h:Q C E H):dg P cfg f [] C E H Q:=h
def dg.step{d:Nat}{op:Op}{Q:List Rc->ax->Hp->Prop}
 (h:aA P cfg f [⟨some d,op,none⟩] E H fun E' H'=>dg P cfg f l (C++[⟨op,true,E,H,E'.at d,H'⟩]) E' H' Q):dg P cfg f (⟨some d,op,none⟩::l) C E H Q:=by
 unfold aA at h;simp only[]at h;unfold dg;refine fE.mono (fun v H' o=>?_) h;unfold aA at o;have:(aI E (some d) v).at d=v:=Ej;rw[this]at o;exact o
def aU:=@dg.step
def bD{op:Op}{Q:List Rc->ax->Hp->Prop}(z:eB op=.cO)
 (h:aA P cfg f [⟨none,op,none⟩] E H fun E' H'=>∀v,dg P cfg f l (C++[⟨op,true,E,H,v,H'⟩]) E' H' Q):dg P cfg f (⟨none,op,none⟩::l) C E H Q:=by
 unfold aA at h;simp only[]at h;unfold dg;refine fE.mono (fun v H' o=>?_) h;unfold aA at o;exact o v
theorem dg.guard{op:Op}{b t:Bool}{Q:List Rc->ax->Hp->Prop}(h:E.at s=.bool t)(h1:t=b->dg P cfg f (⟨d,op,none⟩::l) C E H Q)(h2:t=!b->dg P cfg f l (C++[⟨op,false,E,H,cT,H⟩]) (aI E d cT) H Q):
 dg P cfg f (⟨d,op,some (s,b)⟩::l) C E H Q:=by
 unfold dg;simp only[];by_cases e:t=b
 .left
  refine⟨by rw[h,e],?_⟩;have:=h1 e;unfold dg at this;exact this
 .right
  have Y:t=!b:=by cases t<;>cases b<;>simp_all
  exact⟨.inl (by rw[h,Y]),h2 Y⟩
def NI{bE C:Hp}{a:AV}(h:aH E x=some a)(h1:eR P H t a=some v):nA P cfg ⟨.load t x,true,E,bE,v,C⟩ H:=
 ⟨H,by simp only[cZ,cA,uI,Go.Ab.ret,h,h1,eA]⟩
def NJ{y:Operand}{ok:Bool}{bE C:Hp}{a b:AV}(h:aH E x=some a)(h1:aH E y=some b)(h2:gG P H t a b ok=some v):nA P cfg ⟨.lookup t x y ok,true,E,bE,v,C⟩ H:=
 ⟨H,by simp only[cZ,cA,uN,Go.Ab.ret,h,h1,h2,eA]⟩
def NK{bE C:Hp}{a:AV}(h:aH E x=some a)(h1:gh P H t a=some v):nA P cfg ⟨.call ⟨.builtin .len,#[x],#[t]⟩,true,E,bE,v,C⟩ H:=
 ⟨H,by simp only[cZ,pj,fA,h,mW,h1,eA]⟩
def NL{s:TypeId}{bE C:Hp}{a:AV}(h:aH E x=some a)(h1:fB P H s t a=some v):nA P cfg ⟨.convert s t x,true,E,bE,v,C⟩ H:=
 ⟨H,by simp only[cZ,cA,uJ,Go.Ab.ret,h,h1,eA]⟩
def NM{O:qr}{bE C:Hp}{a:AV}(h:aH E x=some a)(h1:iA E lo=some O)(h2:iA E J=some Y)(I:lc P H t a O Y=some v):nA P cfg ⟨.slice t x lo J none,true,E,bE,v,C⟩ H:=
 ⟨H,by simp only[cZ,cA,uM,Go.Ab.ret,h,h1,h2,I,eA]⟩
def NN{op:Op}{bE C:Hp}{b:HB}(z:eB op=.make)(h:H.get bE.next=some b)(h2:C.get bE.next=some b):nA P cfg ⟨op,true,E,bE,v,C⟩ H:=by
 unfold nA;rw[z];exact⟨b,h,h2⟩
def NO{r:Rc}(h:C[i]?=some r)(U:r.did=true->nA P cfg r (vB C H' m)):x5 P cfg C H' i m:=by
 unfold x5;rw[h];exact U
end
section
variable {P:Program} {cfg:Cfg} {f:FuncId} {l:List SOp} {E:ax} {H:Hp} {Q:ax -> Hp -> Prop} {d:Nat} {x y:Operand} {ts:Array TypeId} {k k':IntKind} {a b:Int}
def aA.min2(h:aH E x=some (.int k a))(h1:aH E y=some (.int k' b))(z:aA P cfg f l (T.set E d (some (.int k (min a b)))) H Q):aA P cfg f (⟨some d,.call ⟨.builtin .min,#[x,y],ts⟩,none⟩::l) E H Q:=
 xK (c:=⟨.builtin .min,#[x,y],ts⟩) rfl (vs:=[.int k a,.int k' b]) Bc (v:=.int k (min a b)) (by
  simp only[mW,pi,mm,cE,cm,ji]
  congr 3;omega) z
def aA.max2(h:aH E x=some (.int k a))(h1:aH E y=some (.int k' b))(z:aA P cfg f l (T.set E d (some (.int k (max a b)))) H Q):aA P cfg f (⟨some d,.call ⟨.builtin .max,#[x,y],ts⟩,none⟩::l) E H Q:=
 xK (c:=⟨.builtin .max,#[x,y],ts⟩) rfl (vs:=[.int k a,.int k' b]) Bc (v:=.int k (max a b)) (by
  simp only[mW,pi,mm,cg,ji]
  congr 3;omega) z
end
attribute [irreducible] dg
end Go.Ab
namespace Go.Proofs.Ytbflaciihaijgaa
set_option maxRecDepth 20000
open Go Go.Ab Proofs.Try
variable{t:Nat}
def fit:Fit prog:=Fit.of aF
def pls:List (Nat×Nat×zai):=[(36,14,(.b2 [0,1,2,4,5,7,9,3,6,8,10])),
 (73,23,(.b2 [0,1,2,3,4,5,6,7,9,10,11,12,13,14,8,15,16,17,18,19])),
 (73,24,(.b2 [0,1,2,3,4,5,6,8,9,10,11,12,13,7,14,15,16])),
 (133,23,(.b2 [0,2,3,4,5,6,7,1,8,9]))]
def aM:=ad @NE (ad @List.toList_toArray.{0} (ad @cL (ad @oo (ad @jZ (ad @nh (ad @lM (ad @List.length_map.{0,0} (ad @Int.natCast_zero (ad @My (ad @Mz (ad @MA (ad @MB (ad @MC (ad @gO (ad @cond_true.{1} (ad @cond_false.{1} (@bX)))))))))))))))))
def a0:=ad @Ex.a7 (ad @Ex.c0 (ad @Ex.c1 (ad @Ex.c2 (ad @Ex.c3 (ad @Ex.c4 (ad @Ex.aZ (ad @Ex.one (ad @St.a7 (ad @St.c0 (ad @St.c1 (ad @St.c2 (ad @St.c3 (ad @St.c4 (ad @St.c5 (ad @St.c6 (ad @St.c7 (ad @St.c8 (ad @St.c9 (ad @St.c10 (ad @St.c11 (ad @St.c12 (ad @St.c13 (ad @St.c14 (ad @St.c15 (ad @St.c16 (ad @St.aZ (ad @St.one (ad @Nu (ad @St.bq (ad @Fu.a7 (ad @Fu.c0 (ad @Fu.c1 (ad @Fu.c2 (ad @Fu.c3 (ad @Fu.c4 (ad @Fu.c5 (ad @Fu.c6 (ad @Fu.c7 (ad @Fu.c8 (ad @Fu.aZ (ad @Fu.one (ad @Fu.bq (ad @Ar.a7 (ad @Ar.c0 (ad @Ar.c1 (ad @Ar.aZ (ad @Ar.one (ad @Pr.a7 (ad @Pr.c0 (ad @Pr.c1 (ad @Pr.aZ (ad @Pr.one (ad @Tk.a7 (ad @Tk.c0 (ad @Tk.c1 (ad @Tk.c2 (ad @Tk.aZ (ad @Tk.one (ad @Nd.a7 (ad @Nd.c0 (ad @Nd.c1 (ad @Nd.c2 (ad @Nd.aZ (ad @Nd.one (ad @Gr.a7 (ad @Gr.c0 (ad @Gr.c1 (ad @Gr.c2 (ad @Gr.c3 (ad @Gr.c4 (ad @Gr.aZ (ad @Gr.one (ad @Un.a7 (ad @Un.c0 (ad @Un.c1 (ad @Un.aZ (ad @Un.one (ad @Nq (ad @Nr (ad @Ns (ad @Nt (ad @List.getElem?_drop.{0} (ad @kE (ad @if_true.{1} (ad @Bj (ad @Bi (ad @Ez (ad @M5 (ad @cells_int (ad @EA (ad @M6 (ad @M7 (ad @M8 (ad @M9 (ad @Na (ad @Nb (ad @Nc (ad @Nf (ad @Ng (ad @Nh (ad @Nk (ad @Nl (ad @Nm (ad @Nn (ad @No (ad @Np (ad @List.all_cons.{0} (ad @List.all_nil.{0} (ad @kJ (ad @gm (ad @bu (ad @kI (ad @db (ad @az (ad @List.nil_append.{0} (ad @List.append_nil.{0} (ad @List.cons_append.{0} (ad @bj (ad @bJ (ad @cL (ad @beq_self_eq_true.{0} (ad @EB (ad @EC (ad @ED (ad @iE (ad @List.getElem?_map.{0,0} (ad @Option.map_some.{0,0} (ad @xN (ad @M4 (ad @M3 (ad @MY (ad @MZ (ad @get_set (ad @xO (ad @List.getElem?_cons_succ.{0} (ad @List.getElem?_cons_zero.{0} (ad @List.drop_succ_cons.{0} (ad @List.drop_zero.{0} (ad @List.take_succ_cons.{0} (ad @List.take_zero.{0} (ad @List.length_cons.{0} (ad @List.length_nil.{0} (ad @Int.natCast_nonneg (ad @ny (ad @MD (ad @ME (ad @MF (ad @MI (ad @MJ (ad @MK (ad @ML (ad @MM (ad @MN (ad @MO (ad @MP (ad @MQ (ad @MR (ad @MS (ad @MT (@MU))))))))))))))))))))))))))))))))))))))))))))))))))))))))))))))))))))))))))))))))))))))))))))))))))))))))))))))))))))))))))))))))))))))))))))))))))))))))))))))))
structure zaa (cfg:Cfg) (f:FuncId):Prop where
 call:∀args,cfg.call f args=none
 aF:cfg.aF f=false
 ak:cfg.ak f=false
abbrev b8(t i k u:Nat):Prop:=(∀r o:Nat,o0 prog t (.ptr r o) i=some (.ptr r (o+k)))/\(∀cs:ql,o0 prog t (.a2 cs) i=some (.a2 (cs.drop k)))/\∀cs:ql,ry prog t (.agg cs) i=cn prog u cs k
def cb{i k u:Nat}(h:b8 t i k u:=by exact⟨fun _ _=>aF,fun _=>aF,fun _=>aF⟩):b8 t i k u:=h
abbrev kN(t s:Nat):Prop:=∀(r o l z:Nat) {n:Int} (_:0<=n) (k:IntKind),dZ prog t (.sl r o l z) (.int k n)=bif decide (n.toNat<l)then some (.ptr r (o+n.toNat*s))else none
abbrev j9(t s:Nat):Prop:=(∀(Y:List ql) {n:Int} (_:0<=n) (k:IntKind),dZ prog t (.aq Y) (.int k n)=xL s (Y[n.toNat]?))/\(∀(H:Hp) (Y:List ql),gh prog H t (.aq Y)=some (.int .i64 Y.length))/\(∀(H:Hp) (r o n z:Nat),gh prog H t (.sl r o n z)=some (.int .i64 n))/\∀H:Hp,gh prog H t .aa=some (.int .i64 0)
def kO{e s:Nat}(h:prog.underlying t=some (.slice e))(U:br prog e=some s):j9 t s:=⟨fun Y _ M k=>M0 h U Y M k,fun _ Y=>MV h Y,fun _ r o n z=>Bf h r o n z,fun _=>Bg h⟩
def NP:br prog 2=some 1:=aF
def NQ:cw prog 2=some 8:=aF
def NR(cs:ql)(o:Nat):cn prog 2 cs o=cs[o]?:=eV underlying2 rfl cs o
def NS:cj prog 2=some [(.int .i64 0)]:=aF
def ef:=ad @NP (ad @NR (ad @NQ (@NS)))
def kP:br prog 3=some 1:=aF
def oE:cw prog 3=some 8:=aF
def NT(cs:ql)(o:Nat):cn prog 3 cs o=cs[o]?:=eV underlying3 rfl cs o
def oF:cj prog 3=some [(.int .i64 0)]:=aF
def cJ:=ad @kP (ad @NT (ad @oE (@oF)))
def x6:br prog 4=some 1:=aF
def EP:cw prog 4=some 1:=aF
def NU(cs:ql)(o:Nat):cn prog 4 cs o=cs[o]?:=eV underlying4 rfl cs o
def EQ:cj prog 4=some [(.bool false)]:=aF
def x7:=ad @x6 (ad @NU (ad @EP (@EQ)))
def Bp:br prog 5=some 1:=aF
def Bq:cw prog 5=some 1:=aF
def NV(cs:ql)(o:Nat):cn prog 5 cs o=cs[o]?:=eV underlying5 rfl cs o
def Br:cj prog 5=some [(.int .u8 0)]:=aF
def oG:=ad @Bp (ad @NV (ad @Bq (@Br)))
def vC:br prog 9=some 1:=aF
def x8:cw prog 9=some 16:=aF
def NW(cs:ql)(o:Nat):cn prog 9 cs o=cs[o]?:=eV underlying9 rfl cs o
def x9:cj prog 9=some [(.ag [])]:=aF
def NX(H:Hp)(s:qn):gh prog H 9 (.ag s)=some (.int .i64 s.length):=MW underlying9 s
def NY(s:qn){n:Int}(M:0<=n)(k:IntKind):mr prog 9 (.ag s) (.int k n)=xM (s[n.toNat]?):=M1 underlying9 s M k
def cM:=ad @vC (ad @NW (ad @x8 (ad @x9 (ad @NX (@NY)))))
def NZ:br prog 22=some 1:=aF
def N0:cw prog 22=some 24:=aF
def N2(cs:ql)(o:Nat):cn prog 22 cs o=cs[o]?:=eV underlying22 rfl cs o
def N4:cj prog 22=some [.aa]:=aF
def N8:kN 22 1:=fun r o l z _ M k=>kL underlying22 (show br prog 3=some 1 from by kernel_rfl) r o l z M k
def N9:j9 22 1:=kO underlying22 (show br prog 3=some 1 from by kernel_rfl)
def jH:=ad @NZ (ad @N2 (ad @N0 (ad @N4 (ad @N8 (@N9)))))
def Oa:br prog 23=some 1:=aF
def Ob:cw prog 23=some 24:=aF
def Oc(cs:ql)(o:Nat):cn prog 23 cs o=cs[o]?:=eV underlying23 rfl cs o
def Od:cj prog 23=some [.aa]:=aF
def Oe:kN 23 2:=fun r o l z _ M k=>kL underlying23 (show br prog 71=some 2 from by kernel_rfl) r o l z M k
def Of:j9 23 2:=kO underlying23 (show br prog 71=some 2 from by kernel_rfl)
def kQ:=ad @Oa (ad @Oc (ad @Ob (ad @Od (ad @Oe (@Of)))))
def Og:br prog 24=some 1:=aF
def Oh:cw prog 24=some 24:=aF
def Oi(cs:ql)(o:Nat):cn prog 24 cs o=cs[o]?:=eV underlying24 rfl cs o
def Oj:cj prog 24=some [.aa]:=aF
def Ok:kN 24 5:=fun r o l z _ M k=>kL underlying24 (show br prog 32=some 5 from by kernel_rfl) r o l z M k
def Ol:j9 24 5:=kO underlying24 (show br prog 32=some 5 from by kernel_rfl)
def ER:=ad @Og (ad @Oi (ad @Oh (ad @Oj (ad @Ok (@Ol)))))
def ES:br prog 26=some 2:=aF
def Om:cw prog 26=some 48:=aF
def On(cs:ql)(o:Nat):cn prog 26 cs o=cr 2 (cs.drop o):=jp underlying26 rfl ES cs o
def Oo:cj prog 26=some [.aa,.aa]:=aF
def Oq:b8 26 0 0 23/\b8 26 1 1 24:=⟨cb,cb⟩
def ET:=ad @ES (ad @On (ad @Om (ad @Oo (@Oq))))
def Ot:br prog 30=some 1:=aF
def Ou:cw prog 30=some 24:=aF
def Ov(cs:ql)(o:Nat):cn prog 30 cs o=cs[o]?:=eV underlying30 rfl cs o
def Ow:cj prog 30=some [.aa]:=aF
def Oz:kN 30 3:=fun r o l z _ M k=>kL underlying30 (show br prog 35=some 3 from by kernel_rfl) r o l z M k
def OA:j9 30 3:=kO underlying30 (show br prog 35=some 3 from by kernel_rfl)
def lT:=ad @Ot (ad @Ov (ad @Ou (ad @Ow (ad @Oz (@OA)))))
def Bt:br prog 32=some 5:=aF
def EU:cw prog 32=some 64:=aF
def OB(cs:ql)(o:Nat):cn prog 32 cs o=cr 5 (cs.drop o):=jp underlying32 rfl Bt cs o
def EV:cj prog 32=some [(.ag []),(.int .i64 0),.aa,(.int .i64 0),(.int .i64 0)]:=aF
def OC:b8 32 0 0 9/\b8 32 1 1 3/\b8 32 2 2 30/\b8 32 3 3 3/\b8 32 4 4 3:=⟨cb,cb,cb,cb,cb⟩
def Bu:=ad @Bt (ad @OB (ad @EU (ad @EV (@OC))))
def Bv:br prog 35=some 3:=aF
def EW:cw prog 35=some 40:=aF
def OD(cs:ql)(o:Nat):cn prog 35 cs o=cr 3 (cs.drop o):=jp underlying35 rfl Bv cs o
def EX:cj prog 35=some [(.int .i64 0),(.int .i64 0),.aa]:=aF
def OE:b8 35 0 0 3/\b8 35 1 1 2/\b8 35 2 2 22:=⟨cb,cb,cb⟩
def vD:=ad @Bv (ad @OD (ad @EW (ad @EX (@OE))))
def OF:br prog 38=some 1:=aF
def OG:cw prog 38=some 24:=aF
def OH(cs:ql)(o:Nat):cn prog 38 cs o=cs[o]?:=eV underlying38 rfl cs o
def OI:cj prog 38=some [.aa]:=aF
def OJ:kN 38 1:=fun r o l z _ M k=>kL underlying38 (show br prog 5=some 1 from by kernel_rfl) r o l z M k
def OK:j9 38 1:=kO underlying38 (show br prog 5=some 1 from by kernel_rfl)
def Bw:=ad @OF (ad @OH (ad @OG (ad @OI (ad @OJ (@OK)))))
def OL:br prog 39=some 1:=aF
def OM:cw prog 39=some 24:=aF
def ON(cs:ql)(o:Nat):cn prog 39 cs o=cs[o]?:=eV underlying39 rfl cs o
def OO:cj prog 39=some [.aa]:=aF
def OP:kN 39 9:=fun r o l z _ M k=>kL underlying39 (show br prog 63=some 9 from by kernel_rfl) r o l z M k
def OQ:j9 39 9:=kO underlying39 (show br prog 63=some 9 from by kernel_rfl)
def kR:=ad @OL (ad @ON (ad @OM (ad @OO (ad @OP (@OQ)))))
def EY:br prog 41=some 2:=aF
def OR:cw prog 41=some 48:=aF
def OS(cs:ql)(o:Nat):cn prog 41 cs o=cr 2 (cs.drop o):=jp underlying41 rfl EY cs o
def OT:cj prog 41=some [.aa,.aa]:=aF
def OU:b8 41 0 0 23/\b8 41 1 1 39:=⟨cb,cb⟩
def fW:=ad @EY (ad @OS (ad @OR (ad @OT (@OU))))
def OV:br prog 42=some 1:=aF
def OW:cw prog 42=some 8:=aF
def OX(cs:ql)(o:Nat):cn prog 42 cs o=cs[o]?:=eV underlying42 rfl cs o
def OY:cj prog 42=some [(.int .i64 0)]:=aF
def lU:=ad @OV (ad @OX (ad @OW (@OY)))
def EZ:br prog 44=some 2:=aF
def OZ:cw prog 44=some 16:=aF
def O0(cs:ql)(o:Nat):cn prog 44 cs o=cr 2 (cs.drop o):=jp underlying44 rfl EZ cs o
def O1:cj prog 44=some [(.int .i64 0),(.int .i64 0)]:=aF
def O2:b8 44 0 0 42/\b8 44 1 1 3:=⟨cb,cb⟩
def kS:=ad @EZ (ad @O0 (ad @OZ (ad @O1 (@O2))))
def O3:br prog 50=some 1:=aF
def O4:cw prog 50=some 24:=aF
def O5(cs:ql)(o:Nat):cn prog 50 cs o=cs[o]?:=eV underlying50 rfl cs o
def O6:cj prog 50=some [.aa]:=aF
def O7:kN 50 1:=fun r o l z _ M k=>kL underlying50 (show br prog 2=some 1 from by kernel_rfl) r o l z M k
def O8:j9 50 1:=kO underlying50 (show br prog 2=some 1 from by kernel_rfl)
def O9:=ad @O3 (ad @O5 (ad @O4 (ad @O6 (ad @O7 (@O8)))))
def Pa:br prog 57=some 1:=aF
def Pb:cw prog 57=some 24:=aF
def Pc(cs:ql)(o:Nat):cn prog 57 cs o=cs[o]?:=eV underlying57 rfl cs o
def Pd:cj prog 57=some [.aa]:=aF
def Pe:kN 57 5:=fun r o l z _ M k=>kL underlying57 (show br prog 59=some 5 from by kernel_rfl) r o l z M k
def Pf:j9 57 5:=kO underlying57 (show br prog 59=some 5 from by kernel_rfl)
def eg:=ad @Pa (ad @Pc (ad @Pb (ad @Pd (ad @Pe (@Pf)))))
def E9:br prog 59=some 5:=aF
def Pg:cw prog 59=some 64:=aF
def Ph(cs:ql)(o:Nat):cn prog 59 cs o=cr 5 (cs.drop o):=jp underlying59 rfl E9 cs o
def Pi:cj prog 59=some [(.int .i64 0),(.int .i64 0),(.ag []),(.int .i64 0),.aa]:=aF
def Pj:b8 59 0 0 3/\b8 59 1 1 2/\b8 59 2 2 9/\b8 59 3 3 3/\b8 59 4 4 57:=⟨cb,cb,cb,cb,cb⟩
def dJ:=ad @E9 (ad @Ph (ad @Pg (ad @Pi (@Pj))))
def Pk:br prog 60=some 1:=aF
def Pl:cw prog 60=some 24:=aF
def Pm(cs:ql)(o:Nat):cn prog 60 cs o=cs[o]?:=eV underlying60 rfl cs o
def Pn:cj prog 60=some [.aa]:=aF
def Po:kN 60 1:=fun r o l z _ M k=>kL underlying60 (show br prog 9=some 1 from by kernel_rfl) r o l z M k
def Pp:j9 60 1:=kO underlying60 (show br prog 9=some 1 from by kernel_rfl)
def io:=ad @Pk (ad @Pm (ad @Pl (ad @Pn (ad @Po (@Pp)))))
def Pq:br prog 61=some 1:=aF
def Ps:cw prog 61=some 24:=aF
def Pt(cs:ql)(o:Nat):cn prog 61 cs o=cs[o]?:=eV underlying61 rfl cs o
def Pu:cj prog 61=some [.aa]:=aF
def Pv:kN 61 17:=fun r o l z _ M k=>kL underlying61 (show br prog 124=some 17 from by kernel_rfl) r o l z M k
def Pw:j9 61 17:=kO underlying61 (show br prog 124=some 17 from by kernel_rfl)
def eC:=ad @Pq (ad @Pt (ad @Ps (ad @Pu (ad @Pv (@Pw)))))
def Bx:br prog 63=some 9:=aF
def Fa:cw prog 63=some 152:=aF
def Px(cs:ql)(o:Nat):cn prog 63 cs o=cr 9 (cs.drop o):=jp underlying63 rfl Bx cs o
def Fc:cj prog 63=some [(.ag []),.aa,.aa,.aa,(.int .i64 0),(.int .i64 0),(.ag []),(.int .i64 0),.aa]:=aF
def Py:b8 63 0 0 9/\b8 63 1 1 60/\b8 63 2 2 60/\b8 63 3 3 61/\b8 63 4 4 59:=⟨cb,cb,cb,cb,cb⟩
def kc:=ad @Bx (ad @Px (ad @Fa (ad @Fc (@Py))))
def vE:br prog 71=some 2:=aF
def ya:cw prog 71=some 24:=aF
def Pz(cs:ql)(o:Nat):cn prog 71 cs o=cr 2 (cs.drop o):=jp underlying71 rfl vE cs o
def yb:cj prog 71=some [(.ag []),(.int .i64 0)]:=aF
def PA:b8 71 0 0 9/\b8 71 1 1 3:=⟨cb,cb⟩
def pJ:=ad @vE (ad @Pz (ad @ya (ad @yb (@PA))))
def PB:br prog 72=some 1:=aF
def PC:cw prog 72=some 24:=aF
def PD(cs:ql)(o:Nat):cn prog 72 cs o=cs[o]?:=eV underlying72 rfl cs o
def PE:cj prog 72=some [.aa]:=aF
def PF:kN 72 3:=fun r o l z _ M k=>kL underlying72 (show br prog 116=some 3 from by kernel_rfl) r o l z M k
def PG:j9 72 3:=kO underlying72 (show br prog 116=some 3 from by kernel_rfl)
def lV:=ad @PB (ad @PD (ad @PC (ad @PE (ad @PF (@PG)))))
def Fe:br prog 77=some 5:=aF
def PH:cw prog 77=some 56:=aF
def PI(cs:ql)(o:Nat):cn prog 77 cs o=cr 5 (cs.drop o):=jp underlying77 rfl Fe cs o
def PJ:cj prog 77=some [.aa,(.int .i64 0),(.int .i64 0),(.int .i64 0),(.int .i64 0)]:=aF
def PK:b8 77 0 0 72/\b8 77 1 1 3/\b8 77 2 2 3/\b8 77 3 3 44:=⟨cb,cb,cb,cb⟩
def sn:=ad @Fe (ad @PI (ad @PH (ad @PJ (@PK))))
def PL:br prog 83=some 1:=aF
def PM:cw prog 83=some 8:=aF
def PN(cs:ql)(o:Nat):cn prog 83 cs o=cs[o]?:=eV underlying83 rfl cs o
def PO:cj prog 83=some [.a6]:=aF
def kT:=ad @PL (ad @PN (ad @PM (@PO)))
def Ff:br prog 86=some 10:=aF
def PP:cw prog 86=some 144:=aF
def PQ(cs:ql)(o:Nat):cn prog 86 cs o=cr 10 (cs.drop o):=jp underlying86 rfl Ff cs o
def PR:cj prog 86=some [.aa,.aa,.a6,.a6,.aa,.a6,.a6,.aa,(.int .i64 0),(.int .i64 0)]:=aF
def PS:b8 86 0 0 41/\b8 86 1 2 83/\b8 86 2 3 83/\b8 86 3 4 30/\b8 86 4 5 83/\b8 86 5 6 83/\b8 86 6 7 22/\b8 86 7 8 3/\b8 86 8 9 3:=⟨cb,cb,cb,cb,cb,cb,cb,cb,cb⟩
def mH:=ad @Ff (ad @PQ (ad @PP (ad @PR (@PS))))
def Fg:br prog 104=some 2:=aF
def PT:cw prog 104=some 32:=aF
def PU(cs:ql)(o:Nat):cn prog 104 cs o=cr 2 (cs.drop o):=jp underlying104 rfl Fg cs o
def PV:cj prog 104=some [.aa,(.int .i64 0)]:=aF
def PW:b8 104 0 0 22/\b8 104 1 1 3:=⟨cb,cb⟩
def Fh:=ad @Fg (ad @PU (ad @PT (ad @PV (@PW))))
def PX:br prog 114=some 1:=aF
def PY:cw prog 114=some 24:=aF
def PZ(cs:ql)(o:Nat):cn prog 114 cs o=cs[o]?:=eV underlying114 rfl cs o
def P0:cj prog 114=some [.aa]:=aF
def P1:kN 114 1:=fun r o l z _ M k=>kL underlying114 (show br prog 4=some 1 from by kernel_rfl) r o l z M k
def P2:j9 114 1:=kO underlying114 (show br prog 4=some 1 from by kernel_rfl)
def Fk:=ad @PX (ad @PZ (ad @PY (ad @P0 (ad @P1 (@P2)))))
def tF:br prog 116=some 3:=aF
def yc:cw prog 116=some 32:=aF
def P3(cs:ql)(o:Nat):cn prog 116 cs o=cr 3 (cs.drop o):=jp underlying116 rfl tF cs o
def yd:cj prog 116=some [(.int .i64 0),(.ag []),(.int .i64 0)]:=aF
def P4:b8 116 0 0 3/\b8 116 1 1 9/\b8 116 2 2 3:=⟨cb,cb,cb⟩
def mI:=ad @tF (ad @P3 (ad @yc (ad @yd (@P4))))
def P5:br prog 118=some 1:=aF
def P6:cw prog 118=some 8:=aF
def P7(cs:ql)(o:Nat):cn prog 118 cs o=cs[o]?:=eV underlying118 rfl cs o
def P8:cj prog 118=some [(.int .u64 0)]:=aF
def vF:=ad @P5 (ad @P7 (ad @P6 (@P8)))
def ye:br prog 124=some 17:=aF
def By:cw prog 124=some 248:=aF
def P9(cs:ql)(o:Nat):cn prog 124 cs o=cr 17 (cs.drop o):=jp underlying124 rfl ye cs o
def Bz:cj prog 124=some [(.int .i64 0),(.ag []),(.ag []),(.int .i64 0),(.int .i64 0),(.int .i64 0),(.ag []),(.int .i64 0),.aa,(.int .i64 0),(.int .i64 0),(.ag []),(.int .i64 0),.aa,.aa,.aa,.aa]:=aF
def Qd:b8 124 0 0 3/\b8 124 1 1 9/\b8 124 2 2 9/\b8 124 3 3 3/\b8 124 4 4 59/\b8 124 5 9 59/\b8 124 6 14 57/\b8 124 7 15 61/\b8 124 8 16 61:=⟨cb,cb,cb,cb,cb,cb,cb,cb,cb⟩
def fw:=ad @ye (ad @P9 (ad @By (ad @Bz (@Qd))))
def Qe:br prog 132=some 1:=aF
def Qf:cw prog 132=some 8:=aF
def Qg(cs:ql)(o:Nat):cn prog 132 cs o=cs[o]?:=eV underlying132 rfl cs o
def Qh:cj prog 132=some [(.int .u64 0)]:=aF
def Fl:=ad @Qe (ad @Qg (ad @Qf (@Qh)))
def Fm:br prog 135=some 4:=aF
def Qi:cw prog 135=some 96:=aF
def Qj(cs:ql)(o:Nat):cn prog 135 cs o=cr 4 (cs.drop o):=jp underlying135 rfl Fm cs o
def Qk:cj prog 135=some [.aa,.aa,.aa,.aa]:=aF
def Ql:b8 135 0 0 60/\b8 135 1 1 60/\b8 135 2 2 41:=⟨cb,cb,cb⟩
def Qm:=ad @Fm (ad @Qj (ad @Qi (ad @Qk (@Ql))))
def Qn:br prog 148=some 1:=aF
def Qo:cw prog 148=some 8:=aF
def Qp(cs:ql)(o:Nat):cn prog 148 cs o=cs[o]?:=eV underlying148 rfl cs o
def Qq:cj prog 148=some [.bz]:=aF
def Fo:=ad @Qn (ad @Qp (ad @Qo (@Qq)))
def Qr:br prog 155=some 1:=aF
def Qs:cw prog 155=some 8:=aF
def Qt(cs:ql)(o:Nat):cn prog 155 cs o=cs[o]?:=eV underlying155 rfl cs o
def Qu:cj prog 155=some [.a6]:=aF
def BA:=ad @Qr (ad @Qt (ad @Qs (@Qu)))
def Fp:br prog 174=some 8:=aF
def Qv:cw prog 174=some 8:=aF
def Qw(cs:ql)(o:Nat):cn prog 174 cs o=cr 8 (cs.drop o):=jp underlying174 rfl Fp cs o
def Qx:cj prog 174=some [(.bool false),(.bool false),(.bool false),(.bool false),(.bool false),(.bool false),(.bool false),(.bool false)]:=aF
def Qy:b8 174 0 0 4/\b8 174 1 1 4/\b8 174 2 2 4/\b8 174 3 3 4/\b8 174 4 4 4/\b8 174 5 5 4/\b8 174 6 6 4/\b8 174 7 7 4:=⟨cb,cb,cb,cb,cb,cb,cb,cb⟩
def Fq:=ad @Fp (ad @Qw (ad @Qv (ad @Qx (@Qy))))
def Qz:br prog 179=some 1:=aF
def QA:cw prog 179=some 24:=aF
def QB(cs:ql)(o:Nat):cn prog 179 cs o=cs[o]?:=eV underlying179 rfl cs o
def QC:cj prog 179=some [.aa]:=aF
def QD:kN 179 1:=fun r o l z _ M k=>kL underlying179 (show br prog 60=some 1 from by kernel_rfl) r o l z M k
def QE:j9 179 1:=kO underlying179 (show br prog 60=some 1 from by kernel_rfl)
def BB:=ad @Qz (ad @QB (ad @QA (ad @QC (ad @QD (@QE)))))
def Fs:br prog 193=some 7:=aF
def QF:cw prog 193=some 112:=aF
def QG(cs:ql)(o:Nat):cn prog 193 cs o=cr 7 (cs.drop o):=jp underlying193 rfl Fs cs o
def QH:cj prog 193=some [(.ag []),(.ag []),(.ag []),(.ag []),(.ag []),(.ag []),(.ag [])]:=aF
def QI:=ad @Fs (ad @QG (ad @QF (@QH)))
def Ft(H:Hp)(k:IntKind)(n:Int):fB prog H 2 118 (.int k n)=some (.int .u64 (IntKind.wrap .u64 n)):=pE
def BC(H:Hp)(k:IntKind)(n:Int):fB prog H 3 5 (.int k n)=some (.int .u8 (IntKind.wrap .u8 n)):=pE
def Fv(H:Hp)(k:IntKind)(n:Int):fB prog H 3 118 (.int k n)=some (.int .u64 (IntKind.wrap .u64 n)):=pE
def Fw(H:Hp)(k:IntKind)(n:Int):fB prog H 3 132 (.int k n)=some (.int .u64 (IntKind.wrap .u64 n)):=pE
def QJ(H:Hp)(k:IntKind)(n:Int):fB prog H 5 118 (.int k n)=some (.int .u64 (IntKind.wrap .u64 n)):=pE
def QK(H:Hp)(k:IntKind)(n:Int):fB prog H 118 2 (.int k n)=some (.int .i64 (IntKind.wrap .i64 n)):=pE
def Fx(H:Hp)(k:IntKind)(n:Int):fB prog H 118 3 (.int k n)=some (.int .i64 (IntKind.wrap .i64 n)):=pE
def Fy(H:Hp)(k:IntKind)(n:Int):fB prog H 118 5 (.int k n)=some (.int .u8 (IntKind.wrap .u8 n)):=pE
end Go.Proofs.Ytbflaciihaijgaa
namespace Go.Ab
set_option maxRecDepth 20000
open Go
variable {P:Program} {cfg:Cfg} {f N:Nat}
variable{a:Nat}{E:ax}{H:Hp}{Q:AX->ax->Hp->Prop}{p:Nat->Prop}
def dz{a:SC}(cs rs:qu)(z n:Nat)(J:Nat->ax->Hp->Prop)(Z:E.at z=.int .i64 0)(W:J 0 E H)
 (h:∀(i:Nat) (E':ax) (H':Hp),i<=n->(∀k∈cs,E'.at k=E.at k)->(∀r∈rs,H'.get r=H.get r)->H.next<=H'.next->E'.at z=.int .i64 i->J i E' H' ->
   bU P cfg f N a E' H' (lN Q fun m U=>i<n/\(∀k∈cs,m.at k=E.at k)/\(∀r∈rs,U.get r=H.get r)/\H.next<=U.next/\m.at z=.int .i64 ((i+1:Nat):Int)/\J (i+1) m U)):bU P cfg f N (.loop a) E H Q:=
 kK (fun i E' H'=>(∀k∈cs,E'.at k=E.at k)/\(∀r∈rs,H'.get r=H.get r)/\H.next<=H'.next/\E'.at z=.int .i64 i/\J i E' H') n (fun i E' H' Y ⟨o,V,I,O,M⟩=>h i E' H' Y o V I O M) ⟨fun _ _=>rfl,fun _ _=>rfl,az _,Z,W⟩
def so{a:SC}(cs rs:qu)(J:Nat->ax->Hp->Prop)(n:Nat)(W:J n E H)
 (h:∀(i:Nat) (E':ax) (H':Hp),(∀k∈cs,E'.at k=E.at k)->(∀r∈rs,H'.get r=H.get r)->H.next<=H'.next->J i E' H' ->
   bU P cfg f N a E' H' (lN Q fun Z U=>(∀k∈cs,Z.at k=E.at k)/\(∀r∈rs,U.get r=H.get r)/\H.next<=U.next/\∃m,m<i/\J m Z U)):bU P cfg f N (.loop a) E H Q:=
 vt (fun i E' H'=>(∀k∈cs,E'.at k=E.at k)/\(∀r∈rs,H'.get r=H.get r)/\H.next<=H'.next/\J i E' H') (fun i E' H' ⟨Y,V,I,O⟩=>tA (fun x Z U o=>by
  cases x with
  |normal=>obtain⟨M,L,C,m,z,q5⟩:=o;exact⟨m,z,M,L,C,q5⟩
  |exit id=>exact o
  |ret=>exact o) (h i E' H' Y V I O)) (n:=n) ⟨fun _ _=>rfl,fun _ _=>rfl,az _,W⟩
def bN{l:qu}:(∀k∈a::l,p k)↔p a/\∀k∈l,p k:=List.forall_mem_cons
def bO:(∀k∈([]:qu),p k)↔True:=⟨fun _=>trivial,fun _ _ h=>jk⟩
def bQ{b:Nat}(h:a≠b):(a == b)=false:=fQ
def gp{i n:Nat}(h:i<n)(M:n<2^62):AV.int .i64 (IntKind.wrap .i64 ((i:Int)+1))=.int .i64 ((i+1:Nat):Int):=by rw[gP ac]
end Go.Ab
