/- Lemmas for the last file. -/
import Derived.IntWalk
import Derived.KernelRfl
import Derived.Test.YtbflaciihaijgaaGreatJED
import Derived.Test.YtbflaciihaijgaaGreatRows
set_option linter.all false
set_option maxHeartbeats 32000000
namespace Go.Ab
set_option maxRecDepth 20000
open Go
abbrev qw:=List qx
variable{qf:Prop}
def IG(h:qf:=by simp only[jx,h,h1]):=h
def sh(h:qf:=by simp[eK,uX,ly]):=h
def DJ(h:qf:=by unfold ij;rw[h]):=h
def M7(h:qf:=by simp only[aU,kW,beq_self_eq_true,cond_true]):=h
def vo(h:qf:=by rw[Ex.aO];rfl):=h
def lI(h:qf:=by rw[St.aO];rfl):=h
def sk(h:qf:=by rw[Fu.aO];rfl):=h
def DK(h:qf:=by rw[Ar.aO];rfl):=h
def DL(h:qf:=by rw[Pr.aO];rfl):=h
def AU(h:qf:=by rw[Tk.aO];rfl):=h
def AW(h:qf:=by rw[Nd.aO];rfl):=h
def xc(h:qf:=by rw[Gr.aO];rfl):=h
def DM(h:qf:=by rw[Un.aO];rfl):=h
def aB(h:qf:=by kernel_rfl):=h
def yL(h:qf:=by cases k<;>kernel_rfl):=h
def rz:=@cond_false
def gO:=@Int.eq_ofNat_of_zero_le
def gW:=@Bool.and_true
def po:=@and_self
def ad:=@And.intro
def iC:=@Bool.not_false
def el:=@Bool.true_and
def aN:=@and_true
def fK:=@Int.toNat_natCast
def DN:=@List.forall_mem_cons
end Go.Ab
namespace Go.Ab
set_option maxRecDepth 20000
open Go
structure SOp where
 d:qI
 op:Op
 g:Option (Nat×Bool)
inductive SC where
 |skip|ret|dH
 |dW (l:List SOp)
 |bT (id:Nat) (l:qA)
 |seq (a b:SC)
 |cond (x:Operand) (a b:SC)
 |block (id:Nat) (a:SC)
 |loop (a:SC)
 |exit (id:Nat)
variable{K:AV->Hp->Prop}{Q:AX->ax->Hp->Prop}{d:qI}{o s r m i:Nat}{l:List SOp}{v a:AV}{b:Bool}{t e:TypeId}{c:Call}{vs O Z z cs:qt}{g:FuncId}{L:Array (Nat×Operand)}{lo C:Option Operand}{Y V:qC}{ih:zd3->Res}{ops:qA}{x:Operand}{I:Hp}
def bA(N:Nat):Option Tmp->Option qI
 |none=>some none
 |some d=>match Nat.blt d N with
  |true=>some (some d)
  |false=>none
def bB(Y:qA):Option (Nat×Bool)->Option (Option (Nat×Bool))
 |none=>some none
 |some (j,b)=>match (Y[j]?).bind (·.dst)with
  |some d=>some (some (d,b))
  |none=>none
def bt(N:Nat)(Y:qA):qA->Option (List SOp)
 |[]=>some []
 |o::l=>match bA N o.dst,bB Y o.guard,bt N Y l with
  |some d,some g,some r=>some (⟨d,o.op,g⟩::r)
  |_,_,_=>none
def bw(l:Option (List SOp)):SC:=match l with
 |some l=>.dW l
 |none=>.dH
def aC(N:Nat):Code->SC
 | .skip=>.skip
 | .region id ops draw=>match draw with
   |false=>bw (bt N ops.toList ops.toList)
   |true=>.bT id ops.toList
 | .seq a b=>.seq (aC N a) (aC N b)
 | .cond x a b=>.cond x (aC N a) (aC N b)
 | .block id a=>.block id (aC N a)
 | .loop a=>.loop (aC N a)
 | .exit id=>.exit id
 | .ret=>.ret
 |_=>.dH
section
variable (P:Program) (cfg:Cfg) (f N:Nat)
def aM(g:FuncId)(O:qt)(H:Hp)(Q:AV->Hp->Prop):Prop:=∃v H',dO P cfg (.call g O H) (.val v H')/\Q v H'
def jz(op:Op)(E:ax)(H:Hp)(K:AV->Hp->Prop):Prop:=∃n v H',eR P cfg (ek P cfg n) f E H op=.val v H'/\K v H'
noncomputable def aU(E:ax):qI->AV->ax
 |some d,v=>T.set E d (some v)
 |none,_=>E
def aJ:List SOp->ax->Hp->(ax->Hp->Prop)->Prop
 |[],E,H,Q=>Q E H
 |o::l,E,H,Q=>match o.g with
  |none=>jz P cfg f o.op E H fun v H'=>aJ l (aU E o.d v) H' Q
  |some (s,b)=>(E.at s=.bool b/\jz P cfg f o.op E H fun v H'=>aJ l (aU E o.d v) H' Q)\/((E.at s=.bool (!b)\/E.at s=dK)/\aJ l (aU E o.d dK) H Q)
def cb(c:SC)(E:ax)(H:Hp)(Q:AX->ax->Hp->Prop):Prop:=∀code,aC N code=c->∃x E' H',dO P cfg (.aP f N code E H) (.done x E' H')/\Q x E' H'
end
section
variable {P:Program} {cfg:Cfg} {f N:Nat}
def jz.mono{op:Op}{E:ax}{H:Hp}{z:AV->Hp->Prop}(h:∀v H',K v H'->z v H')(j:jz P cfg f op E H K):jz P cfg f op E H z:=by
 obtain⟨n,v,H',i,g⟩:=j;exact⟨n,v,H',i,h v H' g⟩
def cb.mono{c:SC}{E:ax}{H:Hp}{C:AX->ax->Hp->Prop}(h:∀x E H,Q x E H->C x E H)(L:cb P cfg f N c E H Q):cb P cfg f N c E H C:=fun code hc=>by
 obtain⟨x,E',H',i,g⟩:=L code hc;exact⟨x,E',H',i,h _ _ _ g⟩
def cb.skip{E:ax}{H:Hp}{Q:AX->ax->Hp->Prop}(h:Q .normal E H):cb P cfg f N .skip E H Q:=fun code hc=>by
 cases code with
 |skip=>exact⟨_,_,_,dO.skip,h⟩
 |region id ops draw=>cases draw<;>simp only[aC,bw,reduceCtorEq]at hc;split at hc<;>simp at hc
 |_=>simp[aC]at hc
def cb.ret{E:ax}{H:Hp}{Q:AX->ax->Hp->Prop}(h:Q .ret E H):cb P cfg f N .ret E H Q:=fun code hc=>by
 cases code with
 |ret=>exact⟨_,_,_,dO.ret,h⟩
 |region id ops draw=>cases draw<;>simp only[aC,bw,reduceCtorEq]at hc;split at hc<;>simp at hc
 |_=>simp[aC]at hc
def cb.exit{id:Nat}{E:ax}{H:Hp}{Q:AX->ax->Hp->Prop}(h:Q (.exit id) E H):cb P cfg f N (.exit id) E H Q:=fun code hc=>by
 cases code with
 |exit Y=>simp only[aC,SC.exit.injEq]at hc;subst hc;exact⟨_,_,_,dO.exit,h⟩
 |region id ops draw=>cases draw<;>simp only[aC,bw,reduceCtorEq]at hc;split at hc<;>simp at hc
 |_=>simp[aC]at hc
def mX(Q:AX->ax->Hp->Prop)(K:ax->Hp->Prop):AX->ax->Hp->Prop
 | .normal,E,H=>K E H
 | .exit id,E,H=>Q (.exit id) E H
 | .ret,E,H=>Q .ret E H
def cb.seq{a b:SC}{E:ax}{H:Hp}{Q:AX->ax->Hp->Prop}(h:cb P cfg f N a E H (mX Q fun E H=>cb P cfg f N b E H Q)):cb P cfg f N (.seq a b) E H Q:=fun code hc=>by
 cases code with
 |seq p q=>
  simp only[aC,SC.seq.injEq]at hc;obtain⟨x,E1,H1,i,g⟩:=h p hc.1;cases x with
  |normal=>
   obtain⟨x,j,Z,m,U⟩:=g q hc.2;exact⟨x,j,Z,dO.seq i m,U⟩
  |exit id=>exact⟨_,_,_,M5 i au,g⟩
  |ret=>exact⟨_,_,_,M5 i au,g⟩
 |region id ops draw=>cases draw<;>simp only[aC,bw,reduceCtorEq]at hc;split at hc<;>simp at hc
 |_=>simp[aC]at hc
def vp:=@cb.seq
def cb.cond{x:Operand}{a b:SC}{E:ax}{H:Hp}{Q:AX->ax->Hp->Prop}{t:Bool}(z:aS E x=some (.bool t))(h1:t=true->cb P cfg f N a E H Q)(h2:t=false->cb P cfg f N b E H Q):
 cb P cfg f N (.cond x a b) E H Q:=fun code hc=>by
 cases code with
 |cond y p q=>
  simp only[aC,SC.cond.injEq]at hc;obtain⟨rfl,m,U⟩:=hc;cases t with
  |true=>
   obtain⟨x,E1,H1,L,i⟩:=h1 rfl p m;exact⟨x,E1,H1,X7 z L,i⟩
  |false=>
   obtain⟨x,E1,H1,L,i⟩:=h2 rfl q U;exact⟨x,E1,H1,X8 z L,i⟩
 |region id ops draw=>cases draw<;>simp only[aC,bw,reduceCtorEq]at hc;split at hc<;>simp at hc
 |_=>simp[aC]at hc
def ul(id:Nat)(Q:AX->ax->Hp->Prop):AX->ax->Hp->Prop
 | .normal,E,H=>Q .normal E H
 | .exit Y,E,H=>if Y=id then Q .normal E H else Q (.exit Y) E H
 | .ret,E,H=>Q .ret E H
def cb.block{id:Nat}{a:SC}{E:ax}{H:Hp}{Q:AX->ax->Hp->Prop}(h:cb P cfg f N a E H (ul id Q)):cb P cfg f N (.block id a) E H Q:=fun code hc=>by
 cases code with
 |block Y p=>
  simp only[aC,SC.block.injEq]at hc;obtain⟨rfl,m⟩:=hc;obtain⟨x,E1,H1,L,i⟩:=h p m;cases x with
  |normal=>exact⟨_,_,_,X9 L,i⟩
  |ret=>exact⟨_,_,_,Ya L,i⟩
  |exit k=>
   simp only[ul]at i;split at i
   .rename_i e;subst e;exact⟨_,_,_,dO.block L,i⟩
   .rename_i e;exact⟨_,_,_,Yb (by cases hb:Nat.beq k Y with|true=>exact(e (kh hb)).elim|false=>rfl) L,i⟩
 |region id ops draw=>cases draw<;>simp only[aC,bw,reduceCtorEq]at hc;split at hc<;>simp at hc
 |_=>simp[aC]at hc
def cb.loop{a:SC}{Q:AX->ax->Hp->Prop}(I:Nat->ax->Hp->Prop)(h:∀n E H,I n E H->cb P cfg f N a E H (mX Q fun E H=>∃m,m<n/\I m E H)){n:Nat}{E:ax}{H:Hp}(U:I n E H):cb P cfg f N (.loop a) E H Q:=by
 induction n using Nat.strongRecOn generalizing E H with
 |_ n ih=>
  intro code hc;cases code with
  |loop p=>
   simp only[aC,SC.loop.injEq]at hc;obtain⟨x,E1,H1,L,i⟩:=h n E H U p hc;cases x with
   |normal=>
    obtain⟨m,O,Z⟩:=i;obtain⟨x,j,Y,V,M⟩:=ih m O Z (.loop p) (by simp[aC,hc]);exact⟨x,j,Y,dO.loop L V,M⟩
   |exit id=>exact⟨_,_,_,M6 L au,i⟩
   |ret=>exact⟨_,_,_,M6 L au,i⟩
  |region id ops draw=>cases draw<;>simp only[aC,bw,reduceCtorEq]at hc;split at hc<;>simp at hc
  |_=>simp[aC]at hc
def AY:=@cb.loop
def sm{a:SC}(I:Nat->ax->Hp->Prop)(V:Nat)(h:∀i E H,i<=V->I i E H->cb P cfg f N a E H (mX Q fun E H=>i<V/\I (i+1) E H)){E:ax}{H:Hp}(U:I 0 E H):cb P cfg f N (.loop a) E H Q:=
 AY (fun n E H=>n<=V/\I (V-n) E H) (fun n E H Z=>cb.mono (fun x E' H' L=>by
  cases x with
  |normal=>
   obtain⟨Y,g⟩:=L;have:=Z.1;refine⟨n-1,ac,ac,?_⟩;rw[show V-(n-1)=V-n+1 by omega];exact g
  |exit id=>exact L
  |ret=>exact L) (h (V-n) E H (Nat.sub_le _ _) Z.2)) (n:=V) ⟨aH _,by rw[nP];exact U⟩
def DO{N:Nat}{M:Option Tmp}(h:bA N M=some d)(E:ax)(v:AV):gB N E M v=some (aU E d v):=by
 cases M with
 |none=>simp only[bA,aI]at h;subst h;rfl
 |some t=>
  simp only[bA]at h;split at h
  .rename_i hb;simp only[aI]at h;subst h;simp only[gB,hb,aU]
  .simp at h
def M8{Y:qA}{E:ax}{o:Oper}{g:Option (Nat×Bool)}(h:bB Y o.guard=some g):
 (g=none->kN Y E o=true)/\∀s b,g=some (s,b)->(E.at s=.bool b->kN Y E o=true)/\(E.at s=.bool (!b)\/E.at s=dK->kN Y E o=false):=by
 unfold kN;cases hg:o.guard with
 |none=>
  rw[hg]at h;simp only[bB,aI]at h;subst h;exact⟨fun _=>rfl,fun s b e=>by simp at e⟩
 |some U=>
  obtain⟨j,b⟩:=U;rw[hg]at h;simp only[bB]at h;split at h
  .rename_i d hd;simp only[aI]at h;subst h;refine⟨fun e=>by simp at e,fun s Z e=>?_⟩;simp only[cT]at e;obtain⟨rfl,rfl⟩:=e;simp only[C1,hd];refine⟨fun e=>by rw[e];simp,fun e=>by rcases e with e|e<;>rw[e]<;>simp[dK]⟩
  .simp at h
theorem aJ.run{Y:qA}{Q:ax->Hp->Prop}:∀{l:qA}{r:List SOp}{E:ax}{H:Hp},bt N Y l=some r->aJ P cfg f r E H Q ->
 ∃n E' H',lB P cfg (ek P cfg n) f N Y l E H=.done .normal E' H'/\Q E' H'
 |[],r,E,H,hs,L=>by
  simp only[bt,aI]at hs;subst hs;exact⟨0,E,H,rfl,L⟩
 |o::l,r,E,H,hs,L=>by
  simp only[bt]at hs;split at hs
  .rename_i d g r' O h2 M;simp only[aI]at hs;subst hs;obtain⟨dC,C⟩:=M8 (E:=E) h2;have V:∀{K:Prop},jz P cfg f o.op E H (fun v H'=>aJ P cfg f r' (aU E d v) H' Q)->kN Y E o=true->∃n E' H',lB P cfg (ek P cfg n) f N Y (o::l) E H=.done .normal E' H'/\Q E' H':=fun{K} hw Z=>by
    obtain⟨n,v,H1,z,g2⟩:=hw;obtain⟨m,j,i,U,I⟩:=aJ.run M g2;refine⟨max n m,j,i,?_,I⟩;have J:∀k k',k<=k'->ey (ek P cfg k) (ek P cfg k'):=fun k k' hk t ht=>IF hk ht;rw[AT,Z];simp only[];rw[DF (J n (max n m) (Dz _ _)) (by rw[z];simp),z];simp only[DO O,lS];rw[DG (J m (max n m) (DA _ _)) (by rw[U];simp),U]
   unfold aJ at L;cases hg:g with
   |none=>
    rw[hg]at L;exact V (K:=True) L (dC hg)
   |some sb=>
    obtain⟨s,b⟩:=sb;rw[hg]at L;simp only[]at L;rcases L with⟨e,L⟩|⟨e,L⟩
    .exact V (K:=True) L ((C s b hg).1 e)
    .obtain⟨m,j,i,U,I⟩:=aJ.run M L;refine⟨m,j,i,?_,I⟩;rw[AT,(C s b hg).2 e];simp only[DO O,lS];exact U
  .simp at hs
def cb.dW{l:List SOp}{E:ax}{H:Hp}{Q:AX->ax->Hp->Prop}(h:aJ P cfg f l E H (Q .normal)):cb P cfg f N (.dW l) E H Q:=fun code hc=>by
 cases code with
 |region id ops draw=>
  cases draw with
  |true=>simp[aC]at hc
  |false=>
   simp only[aC,bw]at hc;split at hc
   .rename_i r hr;simp only[SC.dW.injEq]at hc;subst hc;obtain⟨n,E',H',i,g⟩:=aJ.run hr h;exact⟨_,_,_,dO.region i au,g⟩
   .simp at hc
 |_=>simp[aC]at hc
def ak{E:ax}{H:Hp}(h:∀K:ax->Hp->Prop,(∀E' H',Q .normal E' H'->K E' H')->aJ P cfg f l E H K):cb P cfg f N (.dW l) E H Q:=
 cb.dW (h _ fun _ _ h=>h)
def aJ.nil{E:ax}{H:Hp}{Q:ax->Hp->Prop}(h:Q E H):aJ P cfg f [] E H Q:=h
def AZ:=@aJ.nil
def jz.plain{op:Op}{E:ax}{H H':Hp}(h:dM P cfg.cl E H op=some (v,H'))(I:∀c,op≠.call c)(j:K v H'):jz P cfg f op E H K:=
 ⟨0,v,H',(w6 I).2 h,j⟩
def DP:Op->Bool
 | .call _=>false
 |_=>true
def M9{op:Op}(h:DP op=true):∀c,op≠.call c:=fun c e=>by subst e;simp[DP]at h
def aJ.op{d:Nat}{op:Op}{E:ax}{H H':Hp}{Q:ax->Hp->Prop}(I:DP op=true)(h:dM P cfg.cl E H op=some (v,H'))(j:aJ P cfg f l (T.set E d (some v)) H' Q):aJ P cfg f (⟨some d,op,none⟩::l) E H Q:=
 jz.plain h (M9 I) j
def jO:=@aJ.op
def Na{op:Op}{E:ax}{H H':Hp}{Q:ax->Hp->Prop}(I:DP op=true)(h:dM P cfg.cl E H op=some (v,H'))(j:aJ P cfg f l E H' Q):aJ P cfg f (⟨none,op,none⟩::l) E H Q:=
 jz.plain h (M9 I) j
theorem aJ.guard{op:Op}{t:Bool}{E:ax}{H:Hp}{Q:ax->Hp->Prop}(h:E.at s=.bool t)(h1:t=b->aJ P cfg f (⟨d,op,none⟩::l) E H Q)(h2:t=!b->aJ P cfg f l (aU E d dK) H Q):
 aJ P cfg f (⟨d,op,some (s,b)⟩::l) E H Q:=by
 unfold aJ;by_cases e:t=b
 .exact .inl ⟨by rw[h,e],h1 e⟩
 .have:t=!b:=by cases t<;>cases b<;>simp_all
  exact .inr ⟨.inl (by rw[h,this]),h2 this⟩
def aJ.b0{op:Op}{E:ax}{H:Hp}{Q:ax->Hp->Prop}(h:some (E.at s)=some v)(V:v=dK)(h2:aJ P cfg f l (aU E d dK) H Q):
 aJ P cfg f (⟨d,op,some (s,b)⟩::l) E H Q:=by
 subst V;unfold aJ;exact .inr ⟨.inr jf,h2⟩
def aJ.call{g:Operand}{k:FuncId}{cap:qt}{E:ax}{H:Hp}{Q:ax->Hp->Prop}(Z:c.callee=.value g)(hg:aS E g=some (.bm k cap))(V:jx E c.args.toList=some vs)
 (h:aM P cfg k (vs++cap) H fun v H'=>aJ P cfg f l (aU E d v) H' Q):aJ P cfg f (⟨d,.call c,none⟩::l) E H Q:=by
 obtain⟨v,H',⟨_,n,i⟩,Y⟩:=h;refine⟨n,v,H',?_,Y⟩;simp only[eR,u5,Z,hg,V];exact i
def bb:=@aJ.call
def aJ.builtin{b:Builtin}{E:ax}{H H':Hp}{Q:ax->Hp->Prop}(g:c.callee=.builtin b)(V:jx E c.args.toList=some vs)
 (h:sV P (cfg.keep f) H b c.argTypes.toList vs=some (v,H')) (j:aJ P cfg f l (aU E d v) H' Q):aJ P cfg f (⟨d,.call c,none⟩::l) E H Q:=by
 refine⟨0,v,H',?_,j⟩;simp only[eR,u5,g,V,h]
def DQ:=@aJ.builtin
def Yc{r:AV}{H:Hp}{Q:AV->Hp->Prop}(h:cfg.call g O=some r)(L:Q r H):aM P cfg g O H Q:=
 ⟨r,H,lY au (n:=0) (by simp only[step,h]),L⟩
def Nb{r:AV}{H H':Hp}{Q:AV->Hp->Prop}(U:cfg.call g O=none)(C:cfg.aG g=true)(I:cfg.az g=false)(z:iA (fF 100) O H=some (Z,H'))(h:cfg.call g Z=some r)(L:Q r H'):aM P cfg g O H Q:=
 ⟨r,H',lY au (n:=0) (by simp only[step,U,rp,C,I,yu,An,z,h]),L⟩
def aM.mono{H:Hp}{Q C:AV->Hp->Prop}(h:∀v H',Q v H'->C v H')(L:aM P cfg g O H Q):aM P cfg g O H C:=by
 obtain⟨v,H',i,Z⟩:=L;exact⟨v,H',i,h _ _ Z⟩
def aY:=@aM.mono
def aM.body{H:Hp}{z:Func}{c:Code}{Q:AV->Hp->Prop}(j:cfg.call g O=none)(C:cfg.aG g=false)(I:cfg.az g=false)(Z:P.funcs[g]?=some z)(hb:z.body=some c)
 (h:cb P cfg g (max z.ntmps O.length) (aC (max z.ntmps O.length) c) (aW 0 O (wQ (max z.ntmps O.length))) H (fun x E' H'=>(x=.normal\/x=.ret)/\∃vs,cL P E' H' z.results.toList=some vs/\Q (am vs) H')):aM P cfg g O H Q:=by
 obtain⟨x,E',H',i,Y,vs,V,m⟩:=h c rfl;exact⟨am vs,H',dO.call j C I Z hb i Y (by unfold yr;rw[V]),m⟩
def a0{H:Hp}{z:Func}{c:Code}{s:SC}{M:Nat}{rs:List ResultVar}{Q:AV->Hp->Prop}(j:cfg.call g O=none)(C:cfg.aG g=false)(I:cfg.az g=false)(Z:P.funcs[g]?=some z)(hb:z.body=some c)(Y:max z.ntmps O.length=M)
 (V:aC M c=s) (hr:z.results.toList=rs) (h:cb P cfg g M s (aW 0 O (wQ M)) H (fun x E' H'=>(x=.normal\/x=.ret)/\∃vs,cL P E' H' rs=some vs/\Q (am vs) H')):aM P cfg g O H Q:=by
 subst Y V hr;exact aM.body j C I Z hb h
def Nc(fit:Fit P){ρ:Nat->Int}(Z:ru cfg.cl ρ)(Y:∀f O r,cfg.call f O=some r->bF P ρ f O r){O:qt}{r:AV}{k:Nat}
 (i:vc k O=true) (h:aM P cfg g O bM fun v H'=>iceV H' m v=some r):bF P ρ g O r:=by
 obtain⟨v,H',⟨_,n,V⟩,U⟩:=h;exact M0 fit Z Y (n:=n) (m:=m) i (by unfold C3;rw[V];exact U)
section
variable {l:List SOp} {E:ax} {H H':Hp} {Q:ax -> Hp -> Prop} {d:Nat} {v a b:AV} {x y:Operand} {t u:TypeId}
def aJ.move(h:aS E x=some v)(j:aJ P cfg f l (T.set E d (some v)) H Q):aJ P cfg f (⟨some d,.move x,none⟩::l) E H Q:=jO rfl (by simp only[dM,Go.Ab.ret,h]) j
def aJ.assign(h:aS E x=some v)(j:aJ P cfg f l (T.set E d (some v)) H Q):aJ P cfg f (⟨some d,.assign x,none⟩::l) E H Q:=jO rfl (by simp only[dM,Go.Ab.ret,h]) j
def aJ.pick{z:Operand}{t:Bool}(h:aS E x=some (.bool t))(h1:aS E y=some a)(h2:aS E z=some b)(j:aJ P cfg f l (T.set E d (some (mp t a b))) H Q):aJ P cfg f (⟨some d,.pick x y z,none⟩::l) E H Q:=
 jO rfl (by cases t<;>simp only[dM,CO,Go.Ab.ret,h,h1,h2]<;>rfl) j
def aJ.load(h:aS E x=some a)(h1:gL P H t a=some v)(j:aJ P cfg f l (T.set E d (some v)) H Q):aJ P cfg f (⟨some d,.load t x,none⟩::l) E H Q:=jO rfl (by simp only[dM,Ad,Go.Ab.ret,h,h1]) j
def aJ.store(h:aS E x=some a)(h1:aS E y=some b)(h2:mr P H t a b=some H')(j:aJ P cfg f l E H' Q):aJ P cfg f (⟨none,.store t x y,none⟩::l) E H Q:=Na rfl (by simp only[dM,CQ,h,h1,h2];rfl) j
def rA:=@aJ.store
def aJ.nilCheck(h:aS E x=some (.ptr r o))(j:aJ P cfg f l (T.set E d (some (.ptr r o))) H Q):aJ P cfg f (⟨some d,.nilCheck x,none⟩::l) E H Q:=jO rfl (by simp only[dM,CR,h]) j
def aJ.ca{op:BinOp}(h:aS E x=some a)(h1:aS E y=some b)(h2:eK P cfg.cl op t a b=some v)(j:aJ P cfg f l (T.set E d (some v)) H Q):aJ P cfg f (⟨some d,.binOp op t x y u,none⟩::l) E H Q:=
 jO rfl (by simp only[dM,CS,Go.Ab.ret,h,h1,h2]) j
def aJ.un{op:UnOp}(h:aS E x=some a)(h2:uY op a=some v)(j:aJ P cfg f l (T.set E d (some v)) H Q):aJ P cfg f (⟨some d,.unOp op t x,none⟩::l) E H Q:=jO rfl (by simp only[dM,CT,Go.Ab.ret,h,h2]) j
def aJ.convert(h:aS E x=some a)(h2:mM P H t u a=some v)(j:aJ P cfg f l (T.set E d (some v)) H Q):aJ P cfg f (⟨some d,.convert t u x,none⟩::l) E H Q:=jO rfl (by simp only[dM,Ae,Go.Ab.ret,h,h2]) j
def aJ.fieldAddr(h:aS E x=some a)(h2:uV P t a i=some v)(j:aJ P cfg f l (T.set E d (some v)) H Q):aJ P cfg f (⟨some d,.fieldAddr t x i,none⟩::l) E H Q:=jO rfl (by simp only[dM,CV,Go.Ab.ret,h,h2]) j
def Nf:=@aJ.fieldAddr
def aJ.field(h:aS E x=some a)(h2:wK P t a i=some v)(j:aJ P cfg f l (T.set E d (some v)) H Q):aJ P cfg f (⟨some d,.field t x i,none⟩::l) E H Q:=jO rfl (by simp only[dM,CW,Go.Ab.ret,h,h2]) j
def aJ.indexAddr(h:aS E x=some a)(h1:aS E y=some b)(h2:ej P t a b=some v)(j:aJ P cfg f l (T.set E d (some v)) H Q):aJ P cfg f (⟨some d,.indexAddr t x y,none⟩::l) E H Q:=jO rfl (by simp only[dM,CX,Go.Ab.ret,h,h1,h2]) j
def Ng:=@aJ.indexAddr
def aJ.index(h:aS E x=some a)(h1:aS E y=some b)(h2:sc P t a b=some v)(j:aJ P cfg f l (T.set E d (some v)) H Q):aJ P cfg f (⟨some d,.index t x y,none⟩::l) E H Q:=jO rfl (by simp only[dM,CY,Go.Ab.ret,h,h1,h2]) j
def aJ.extract(h:aS E x=some a)(h2:Ab.extract a i=some v)(j:aJ P cfg f l (T.set E d (some v)) H Q):aJ P cfg f (⟨some d,.extract x i,none⟩::l) E H Q:=jO rfl (by simp only[dM,C0,Go.Ab.ret,h,h2]) j
def aJ.alloc{n:Nat}(h:cS P t=some z)(I:some H.next=some n)(j:aJ P cfg f l (T.set E d (some (.ptr n 0))) (H.alloc (.cells z 0 true)) Q):aJ P cfg f (⟨some d,.alloc t,none⟩::l) E H Q:=by
 simp only[aI]at I;subst I;exact jO rfl (by simp only[dM,z8,h]) j
def aJ.box{n:Nat}(h:aS E x=some a)(g:some a.cells=some cs)(I:some H.next=some n)(j:aJ P cfg f l (T.set E d (some (.ptr n 0))) (H.alloc (.cells cs 0 true)) Q):aJ P cfg f (⟨some d,.box t x,none⟩::l) E H Q:=by
 simp only[aI]at g I;subst g I;exact jO rfl (by simp only[dM,z9,h]) j
def aJ.build{ps:qM}(h:mw E L.toList=some ps)(h2:dU P t ps=some v)(j:aJ P cfg f l (T.set E d (some v)) H Q):aJ P cfg f (⟨some d,.build t L,none⟩::l) E H Q:=jO rfl (by simp only[dM,CP,Go.Ab.ret,h,h2]) j
def aJ.buildSlice{n:Nat}{ps:qM}(h:mw E L.toList=some ps)(h2:et P H t n ps=some (v,H'))(j:aJ P cfg f l (T.set E d (some v)) H' Q):aJ P cfg f (⟨some d,.buildSlice t n L,none⟩::l) E H Q:=
 jO rfl (by simp only[dM,Ac,h,h2]) j
def Nh:=@aJ.buildSlice
def aJ.makeMap{n:Nat}(I:some H.next=some n)(j:aJ P cfg f l (T.set E d (some (.map n))) (H.alloc (.map [])) Q):aJ P cfg f (⟨some d,.makeMap t none,none⟩::l) E H Q:=by
 simp only[aI]at I;subst I;exact jO rfl (by simp only[dM,Af]) j
def aJ.lookup{ok:Bool}(h:aS E x=some a)(h1:aS E y=some b)(h2:mL P H t a b ok=some v)(j:aJ P cfg f l (T.set E d (some v)) H Q):aJ P cfg f (⟨some d,.lookup t x y ok,none⟩::l) E H Q:=jO rfl (by simp only[dM,Ai,Go.Ab.ret,h,h1,h2]) j
def aJ.mapUpdate{z:Operand}{c:AV}(h:aS E x=some a)(h1:aS E y=some b)(h2:aS E z=some c)(m:re P H t a b c=some H')(j:aJ P cfg f l E H' Q):aJ P cfg f (⟨none,.mapUpdate t x y z,none⟩::l) E H Q:=
 Na rfl (by simp only[dM,CZ,h,h1,h2,m];rfl) j
def Nk:=@aJ.mapUpdate
def aJ.makeFunc{cap:Array Operand}(h:jx E cap.toList=some vs)(j:aJ P cfg f l (T.set E d (some (.bm g vs))) H Q):aJ P cfg f (⟨some d,.makeFunc (.func g) #[] cap,none⟩::l) E H Q:=jO rfl (by simp only[dM,CU,h]) j
def aJ.slice(h:aS E x=some a)(h1:lR E lo=some Y)(h2:lR E C=some V)(m:ph P H t a Y V=some v)(j:aJ P cfg f l (T.set E d (some v)) H Q):aJ P cfg f (⟨some d,.slice t x lo C none,none⟩::l) E H Q:=
 jO rfl (by simp only[dM,Ah,Go.Ab.ret,h,h1,h2,m]) j
def aJ.makeSlice(h:aS E x=some a)(h1:aS E y=some b)(h2:j9 P H t a b=some (v,H'))(j:aJ P cfg f l (T.set E d (some v)) H' Q):aJ P cfg f (⟨some d,.makeSlice t x y,none⟩::l) E H Q:=jO rfl (by simp only[dM,Ag,h,h1,h2]) j
def Nl:=@aJ.makeSlice
def aJ.len{c:AV}(h:aS E x=some a)(h1:ij P H t a=some c)(j:aJ P cfg f l (T.set E d (some c)) H Q):aJ P cfg f (⟨some d,.call ⟨.builtin .len,#[x],#[t]⟩,none⟩::l) E H Q:=
 DQ (c:=⟨.builtin .len,#[x],#[t]⟩) rfl (vs:=[a]) (by simp only[jx,h]) (by simp only[sV,h1]) j
def aJ.append(h:aS E x=some a)(h1:aS E y=some b)(h2:cX P (cfg.keep f) H t u a b=some (v,H'))(j:aJ P cfg f l (T.set E d (some v)) H' Q):aJ P cfg f (⟨some d,.call ⟨.builtin .append,#[x,y],#[t,u]⟩,none⟩::l) E H Q:=
 DQ (c:=⟨.builtin .append,#[x,y],#[t,u]⟩) rfl (vs:=[a,b]) IG (by simp only[sV,h2]) j
def jP:=@aJ.append
end
def kW(E:ax)(d t:Nat)(v:AV):ax.at (T.set E d (some v)) t=bif t == d then v else E.at t:=by
 rw[yB];by_cases h:t=d
 .simp[h]
 .have:(t == d)=false:=by simpa using h
  rw[af h,this,rz]
def get_set(H:Hp)(d t:Nat)(b:HB):(H.set d b).get t=bif t == d then some b else H.get t:=by
 rw[aA];by_cases h:t=d
 .simp[h]
 .have:(t == d)=false:=by simpa using h
  rw[af h,this,rz]
theorem Yd(E:ax)(t:Nat):aS E (.tmp t)=some (E.at t):=rfl
theorem Ye(E:ax)(k:IntKind)(n:Int):aS E (.const (.int k n))=some (.int k n):=rfl
theorem Yf(E:ax)(b:Bool):aS E (.const (.bool b))=some (.bool b):=rfl
theorem Yg(E:ax)(g:FuncId):aS E (.func g)=some (.bm g []):=rfl
theorem Yh(E:ax)(s:ByteArray):aS E (.const (.string s))=some (.aq s.data.toList):=rfl
section
variable {D:BinOp -> Sx -> Sx -> qG} {t:TypeId} {k:IntKind} {a b:Int} {s u:qx}
def Yi:eK P D .add t (.int k a) (.int k b)=some (.int k (k.wrap (a+b))):=sh
def Yj:eK P D .sub t (.int k a) (.int k b)=some (.int k (k.wrap (a-b))):=sh
def Yk:eK P D .mul t (.int k a) (.int k b)=some (.int k (k.wrap (a*b))):=sh
def oH(h:b≠0):eK P D .quo t (.int k a) (.int k b)=some (.int k (k.wrap (a.tdiv b))):=by simp[eK,uX,ly,h]
def th(h:b≠0):eK P D .rem t (.int k a) (.int k b)=some (.int k (a.tmod b)):=by simp[eK,uX,ly,h]
def Yl:eK P D .and t (.int k a) (.int k b)=some (.int k (k.wrap (BitVec.ofInt k.bits a &&& BitVec.ofInt k.bits b).toNat)):=sh
def Ym:eK P D .or t (.int k a) (.int k b)=some (.int k (k.wrap (BitVec.ofInt k.bits a |||BitVec.ofInt k.bits b).toNat)):=sh
def Yn:eK P D .xor t (.int k a) (.int k b)=some (.int k (k.wrap (BitVec.ofInt k.bits a^^^ BitVec.ofInt k.bits b).toNat)):=sh
theorem Yo:eK P D .eql t (.int k a) (.int k b)=some (.bool (decide (a=b))):=by simp[eK,uX,ly];rfl
theorem Yp:eK P D .neq t (.int k a) (.int k b)=some (.bool (!decide (a=b))):=by simp[eK,uX,ly];rfl
def Yq:eK P D .lss t (.int k a) (.int k b)=some (.bool (decide (a<b))):=sh
def Yr:eK P D .leq t (.int k a) (.int k b)=some (.bool (decide (a<=b))):=sh
def Ys:eK P D .gtr t (.int k a) (.int k b)=some (.bool (decide (b<a))):=sh
def Yt:eK P D .geq t (.int k a) (.int k b)=some (.bool (decide (b<=a))):=sh
def Yu:eK P D .eql t (.aq s) (.aq u)=some (.bool (decide (s=u))):=by
 simp only[eK,z6];by_cases h:s=u<;>simp[h]
def Yv:eK P D .neq t (.aq s) (.aq u)=some (.bool (!decide (s=u))):=by
 simp only[eK,z6];by_cases h:s=u<;>simp[h]
def Yw{x y:Bool}(h:P.underlying t=some .bool):eK P D .eql t (.bool x) (.bool y)=some (.bool (x == y)):=by simp[eK,z7,ua,yn,h]
def Yx{x y:Bool}(h:P.underlying t=some .bool):eK P D .neq t (.bool x) (.bool y)=some (.bool (!(x == y))):=by simp[eK,z7,ua,yn,h]
theorem Yy{x:Bool}:uY .not (.bool x)=some (.bool !x):=rfl
theorem Yz:uY .neg (.int k a)=some (.int k (k.wrap (0-a))):=rfl
end
theorem iT(h:i<2^62):IntKind.wrap .i64 ((i:Int)+1)=((i+1:Nat):Int):=by
 rw[At _ ac];rfl
def Nm{H:Hp}(h:P.underlying t=some (.slice e))(xs:List qt):ij P H t (.aE xs)=some (.int .i64 xs.length):=DJ
def yM{H:Hp}(h:P.underlying t=some (.slice e))(r o n z:Nat):ij P H t (.sl r o n z)=some (.int .i64 n):=DJ
def DR{H:Hp}(h:P.underlying t=some (.slice e)):ij P H t .ak=some (.int .i64 0):=DJ
def YA{H:Hp}(h:P.underlying t=some .string)(s:qx):ij P H t (.aq s)=some (.int .i64 s.length):=DJ
def pp(h:P.underlying t=some (.slice e))(M:bE P e=some s){n z:Nat}(C:i<n):ej P t (.sl r o n z) (.int .i64 (i:Int))=some (.ptr r (o+i*s)):=by
 show ej P t (.sl r o n z) (.int .i64 (Int.ofNat i))=_;simp only[ej,h,M,C,dh]
def A0:TypeDesc->Bool
 | .struct _|.array _ _=>false
 |_=>true
theorem iD{d:TypeDesc}(h:P.underlying t=some d)(hd:A0 d=true)(cs:qt)(o:Nat):dd P t cs o=cs[o]?:=by
 unfold dd;rw[h];cases d<;>simp_all[A0]
def vr{H:Hp}{d:TypeDesc}(h:P.underlying t=some d)(hd:A0 d=true){imm:Nat}{tip:Bool}(hg:H.get r=some (.cells cs imm tip)):gL P H t (.ptr r o)=cs[o]?:=by
 simp only[gL,hg,iD h hd]
def DS(z:Nat):Option qt->qC
 |some L=>if L.length=z then some (.bj L)else none
 |none=>none
theorem YB(z:Nat)(row:qt):DS z (some row)=if row.length=z then some (.bj row)else none:=rfl
def DT:Option UInt8->qC
 |some b=>some (.int .u8 b.toNat)
 |none=>none
theorem YC(b:UInt8):DT (some b)=some (.int .u8 b.toNat):=rfl
def cI(s:Nat)(cs:qt):qC:=if (cs.take s).length=s then some (.agg (cs.take s))else none
theorem mA{d:TypeDesc}(h:P.underlying t=some d)(hd:A0 d=false)(M:bE P t=some s)(cs:qt)(o:Nat):dd P t cs o=cI s (cs.drop o):=by
 unfold dd cI;rw[h];cases d<;>simp_all[A0]
theorem YD(h:P.underlying t=some (.slice e))(M:bE P e=some s)(xs:List qt){n:Int}(I:0<=n)(k:IntKind):ej P t (.aE xs) (.int k n)=DS s (xs[n.toNat]?):=by
 obtain⟨m,rfl⟩:=gO I;show ej P t (.aE xs) (.int k (Int.ofNat m))=DS s (xs[m]?);simp only[ej,h,M];cases xs[m]? <;>rfl
def mY(h:P.underlying t=some (.slice e))(M:bE P e=some s)(r o l z:Nat){n:Int}(I:0<=n)(k:IntKind):ej P t (.sl r o l z) (.int k n)=bif decide (n.toNat<l)then some (.ptr r (o+n.toNat*s))else none:=by
 obtain⟨m,rfl⟩:=gO I;show ej P t (.sl r o l z) (.int k (Int.ofNat m))=bif decide (m<l)then some (.ptr r (o+m*s))else none
 simp only[ej,h,M];by_cases O:m<l<;>simp[O]
theorem YE(h:P.underlying t=some .string)(s:qx){n:Int}(I:0<=n)(k:IntKind):sc P t (.aq s) (.int k n)=DT (s[n.toNat]?):=by
 obtain⟨m,rfl⟩:=gO I;show sc P t (.aq s) (.int k (Int.ofNat m))=DT (s[m]?);simp only[sc,h];cases s[m]? <;>rfl
def Nn(P:Program)(t:TypeId)(o:Nat):Option HB->qC
 |some (.cells g _ _)=>dd P t g o
 |_=>none
theorem YF(t:TypeId)(o:Nat)(cs:qt)(imm:Nat)(tip:Bool):Nn P t o (some (.cells cs imm tip))=dd P t cs o:=rfl
theorem yN(H:Hp)(t:TypeId)(r o:Nat):gL P H t (.ptr r o)=Nn P t o (H.get r):=rfl
theorem YG(H:Hp)(t:TypeId)(cs:qt):gL P H t (.bj cs)=dd P t cs 0:=rfl
def xd(H:Hp)(b:HB)(t:Nat):(H.alloc b).get t=bif t == H.next then some b else H.get t:=by
 rw[aD];by_cases h:t=H.next
 .simp[h]
 .have:(t == H.next)=false:=by simpa using h
  rw[af h,this,rz]
noncomputable def No(H:Hp)(r o:Nat)(C:qt):qI->Option HB->Option Hp
 |some s,some (.cells g V Z)=>if C.length=s/\V<=o/\o+s<=g.length/\C.all AV.one=true then some (H.set r (.cells (splice g o C) V Z))else none
 |_,_=>none
theorem DU(H:Hp)(r o:Nat)(C:qt)(s:Nat)(cs:qt)(imm:Nat)(tip:Bool):No H r o C (some s) (some (.cells cs imm tip))=if C.length=s/\imm<=o/\o+s<=cs.length/\C.all AV.one=true then some (H.set r (.cells (splice cs o C) imm tip))else none:=rfl
theorem DV(H:Hp)(t:TypeId)(r o:Nat)(v:AV):mr P H t (.ptr r o) v=No H r o v.cells (bE P t) (H.get r):=by
 unfold mr;simp only[];cases i:H.get r with
 |none=>cases bE P t<;>rfl
 |some b=>cases b with
  |map Y=>cases bE P t<;>rfl
  |cells g V Z=>cases bE P t with
   |none=>rfl
   |some s=>rfl
theorem Np(cs:qt)(o:Nat)(Z:qt):splice cs o Z=cs.take o++Z++cs.drop (o+Z.length):=rfl
theorem YH(cs:qt):AV.cells (.agg cs)=cs:=rfl
theorem cells_int(k:IntKind)(n:Int):AV.cells (.int k n)=[.int k n]:=rfl
theorem Nq(b:Bool):AV.cells (.bool b)=[.bool b]:=rfl
theorem YI(b:qx):AV.cells (.aq b)=[.aq b]:=rfl
theorem YJ(b:List qt):AV.cells (.aE b)=[.aE b]:=rfl
theorem YK(r o l z:Nat):AV.cells (.sl r o l z)=[.sl r o l z]:=rfl
theorem YL:AV.cells .ak=[.ak]:=rfl
theorem YM(r o:Nat):AV.cells (.ptr r o)=[.ptr r o]:=rfl
theorem YN(r:Nat):AV.cells (.map r)=[.map r]:=rfl
theorem YO(g:Nat)(cap:qt):AV.cells (.bm g cap)=[.bm g cap]:=rfl
theorem YP(k:IntKind)(n:Int):AV.one (.int k n)=true:=rfl
theorem YQ(b:Bool):AV.one (.bool b)=true:=rfl
theorem YR(b:qx):AV.one (.aq b)=true:=rfl
theorem YS(b:List qt):AV.one (.aE b)=true:=rfl
theorem YT(r o l z:Nat):AV.one (.sl r o l z)=true:=rfl
theorem YU:AV.one .ak=true:=rfl
theorem YV(r o:Nat):AV.one (.ptr r o)=true:=rfl
theorem YW(r:Nat):AV.one (.map r)=true:=rfl
theorem YX(g:Nat)(cap:qt):AV.one (.bm g cap)=true:=rfl
theorem bX:bM.next=0:=rfl
theorem YY(H:Hp)(t:TypeId)(s:qx)(lo C:qC):ph P H t (.aq s) lo C=gU P t (.aq s) lo C:=rfl
theorem YZ(H:Hp)(t:TypeId)(s:List qt)(lo C:qC):ph P H t (.aE s) lo C=gU P t (.aE s) lo C:=rfl
theorem Y0(H:Hp)(t:TypeId)(r o n z:Nat)(lo C:qC):ph P H t (.sl r o n z) lo C=gU P t (.sl r o n z) lo C:=rfl
theorem Y1(H:Hp)(t:TypeId)(lo C:qC):ph P H t .ak lo C=gU P t .ak lo C:=rfl
def II(n k:Nat):(n == n+(k+1))=false:=au
def IJ(n k:Nat):(n+(k+1) == n)=false:=au
def Nr(n a b:Nat):(n+a == n+b)=(a == b):=by
 by_cases h:a=b
 .simp[h]
 .have i:(a == b)=false:=by simpa using h
  rw[i];simp;omega
end
attribute [irreducible] aJ cb aM jz
theorem Sx.beq_refl:∀a:Sx,Sx.beq a a=true
 | .var i=>by simp[Sx.beq]
 | .lit n=>by simp[Sx.beq]
 | .ca o k a b=>by simp[Sx.beq,Sx.beq_refl a,Sx.beq_refl b]
 | .di k a=>by simp[Sx.beq,Sx.beq_refl a]
mutual
theorem AV.beq_refl:∀a:AV,AV.beq a a=true
 | .int k n=>by simp[AV.beq]
 | .sx k e=>by simp[AV.beq,Sx.beq_refl]
 | .bool b=>by simp[AV.beq]
 | .aq s=>by simp[AV.beq]
 | .bC=>rfl
 | .bi=>rfl
 | .bL=>rfl
 | .ak=>rfl
 | .ptr r o=>by simp[AV.beq]
 | .bj g=>by simp only[AV.beq];exact um g
 | .sl r o l z=>by simp[AV.beq]
 | .aE C=>by simp only[AV.beq];exact Nt C
 | .map r=>by simp[AV.beq]
 | .bm f g=>by simp only[AV.beq,um g,gW];simp
 | .agg g=>by simp only[AV.beq];exact um g
 | .aX g=>by simp only[AV.beq];exact um g
theorem um:∀a:qt,mN a a=true
 |[]=>rfl
 |a::l=>by simp only[mN,AV.beq_refl a,um l,gW]
theorem Nt:∀a:List qt,wN a a=true
 |[]=>rfl
 |a::l=>by simp only[wN,um a,Nt l,gW]
end
def xe(o:Oper):Bool:=uj o.op||tf o.op
def DW(o:Oper):Bool:=xe o||(match o.op with|.store ..|.mapUpdate ..=>true |_=>false)
def DX(ops:qA):Bool:=
 sW ops&&(List.range ops.length).all (fun i=>match ops[i]? with|some o=>if Nat.blt (i+1) ops.length then xe o else DW o|none=>true)&&(rj ops).all (fun p=>Nat.blt p.2 ops.length)
section
variable {P:Program} {cfg:Cfg} {f N:Nat}
theorem IK{ih:zd3->Res}{Y:qA}:∀{l:qA}{E E':ax}{H H':Hp},lB P cfg ih f N Y l E H=.done .normal E' H'->∃rs,kO P cfg ih f N Y l E H=.done E' H' rs
 |[],E,E',H,H',h=>by
  simp only[lB,Res.done.injEq,jy]at h;obtain⟨rfl,rfl⟩:=h;exact⟨[],rfl⟩
 |o::l,E,E',H,H',h=>by
  rw[AT]at h;simp only[kO];cases L:kN Y E o with
  |true=>
   rw[L]at h;simp only[]at h⊢;cases m:eR P cfg ih f E H o.op with
   |val v H1=>
    rw[m]at h;simp only[]at h⊢;cases hp:gB N E o.dst v with
    |none=>rw[hp]at h;simp[lS]at h
    |some E1=>
     rw[hp]at h;simp only[lS]at h;obtain⟨rs,hr⟩:=IK h;exact⟨_,by simp only[ri,hr,rh];rfl⟩
   |done _ _ _=>rw[m]at h;simp at h
   |aQ=>rw[m]at h;simp at h
  |false=>
   rw[L]at h;simp only[]at h⊢;cases hp:gB N E o.dst dK with
   |none=>rw[hp]at h;simp[lS]at h
   |some E1=>
    rw[hp]at h;simp only[lS]at h;obtain⟨rs,hr⟩:=IK h;exact⟨_,by simp only[ri,hr,rh];rfl⟩
def IL{E:ax}{o:Oper}{H H':Hp}(j:xe o=true)(h:eR P cfg ih f E H o.op=.val v H'):H'=H:=by
 unfold xe at j;rw[rx]at j;rcases j with j|j
 .have I:∀c,o.op≠.call c:=fun c e=>by
   rw[e]at j;simp only[uj,iS]at j;split at j
   .rename_i i;split at i<;>simp at i
   .simp at j
  exact(If j ((w6 I).1 h)).1
 .exact Ig j h
def Y2{E:ax}{o:Oper}{H H':Hp}(j:DW o=true)(h:eR P cfg ih f E H o.op=.val v H'):H.next<=H'.next:=by
 unfold DW at j;rw[rx]at j;rcases j with j|j
 .rw[IL j h];exact aH _
 .obtain⟨Z,V,I,J,L,guard⟩:=o;simp only[]at j h;cases V<;>simp only[dI]at j
  case store t a x=>
   simp only[eR,dM,CQ]at h;split at h
   .split at h
    .rename_i M;simp only[iY,Res.val.injEq]at h;obtain⟨rfl,rfl⟩:=h;unfold mr at M;split at M
     .split at M
      .split at M
       .simp only[aI]at M;rw[<-M];exact aH _
       .simp at M
      .simp at M
     .simp at M
    .simp[iY]at h
   .simp[iY]at h
  case mapUpdate t m k x=>
   simp only[eR,dM,CZ]at h;split at h
   .split at h
    .rename_i M;simp only[iY,Res.val.injEq]at h;obtain⟨rfl,rfl⟩:=h;unfold re at M;split at M
     .split at M
      .split at M
       .split at M
        .simp only[aI]at M;rw[<-M];exact aH _
        .simp only[aI]at M;rw[<-M];exact aH _
        .simp at M
       .simp at M
      .simp at M
     .simp at M
    .simp[iY]at h
   .simp[iY]at h
theorem Y3{ih':zd3->Res}{f':FuncId}{E:ax}{op:Op}{H:Hp}(j:tf op=true):eR P cfg ih f E H op=eR P cfg ih' f' E H op:=by
 cases op<;>simp only[tf,iS,dI]at j<;>try rfl
 rename_i c;simp only[eR,u5];cases hc:c.callee with
 |value g=>rw[hc]at j;simp at j
 |invoke g m=>rfl
 |builtin b=>
  rw[hc]at j;simp only[];cases b<;>simp only[dI]at j<;>rfl
theorem Y4{E E':ax}{H H':Hp}(hp:DX ops=true)(h:lB P cfg ih f N ops ops E H=.done .normal E' H'):oB P cfg ih f N ops E H=.done .normal E' H':=by
 unfold DX at hp;simp only[cj,gM,lF]at hp;obtain⟨⟨Y,V⟩,U⟩:=hp;obtain⟨rs,hr⟩:=IK h;have M:=AG hr;have hlen:=Ic M;obtain⟨_,z2⟩:=Ie M;have I:∀(i:Nat) o,ops[i]?=some o->i+1<ops.length->xe o=true:=fun i o O g=>by
  have:=V i ac;rw[O]at this;simp only[show Nat.blt (i+1) ops.length=true by simpa [jK]using g,dh]at this;exact this
 have Z:∀i,i+1<=ops.length->cO rs H' i=H:=fun i=>by
  induction i with
  |zero=>intro _;exact z2
  |succ i ih=>
   intro g;have hri:=aL (show i<rs.length by omega);obtain⟨o,O,z⟩:=w5 M hri;have h1:=ih ac;have h2:cO rs H' (i+1)=cO rs H' i:=by
    cases hd:(rs[i]' ac).did with
    |true=>exact IL (I i o O ac) (z.dR hd)
    |false=>exact(z.no hd).2
   rw[h2,h1]
 unfold oB;rw[Y];simp only[hr];have L:wO P cfg (rj ops) rs H'=true:=by
  unfold wO;simp only[cj,gM];refine⟨fun r hm=>?_,fun p hpm=>?_⟩
  .obtain⟨i,g⟩:=Il.1 hm;obtain⟨o,O,z⟩:=w5 M g;have C:i<ops.length:=(fH.1 O).1;rw[z.eH,z.eH'];refine Nat.ble_eq_true_of_le ?_;cases hd:r.did with
   |false=>rw[(z.no hd).2];exact aH _
   |true=>
    by_cases J:i+1<ops.length
    .rw[IL (I i o O J) (z.dR hd)];exact aH _
    .have:=V i C;rw[O]at this;have hb:Nat.blt (i+1) ops.length=false:=by
      cases hx:Nat.blt (i+1) ops.length with
      |false=>rfl
      |true=>exact(J (by simpa [jK]using hx)).elim
     simp only[hb,dI,dD]at this;exact Y2 this (z.dR hd)
  .have hm:p.2<ops.length:=by simpa [jK]using U p hpm
   cases hrp:rs[p.1]? with
   |none=>rfl
   |some r=>
    obtain⟨o,O,z⟩:=w5 M hrp;have C:p.1<ops.length:=(fH.1 O).1;simp only[];cases hd:r.did with
    |false=>rfl
    |true=>
     simp only[lX,il];have hH:r.H=cO rs H' p.2:=by rw[z.eH,Z _ ac,Z _ ac]
     unfold zeo;cases j:iS r.o.op with
     |b3=>rfl
     |cU=>rfl
     |read=>
      simp only[];have m:=z.dR hd;rw[<-z.eE,<-z.eo,<-z.eH,hH]at m;rw[Y3 (P:=P) (cfg:=cfg) (f:=f) (ih:=ih) (ih':=fun _=>.aQ) (f':=0) (by simp[tf,j])]at m;rw[m];simp only[AV.beq_refl]
     |make=>
      exfalso;rw[z.eo]at j;by_cases J:p.1+1<ops.length
      .have:=I _ o O J;unfold xe uj tf at this;rw[j]at this;simp at this
      .have h3:=V p.1 C;rw[O]at h3;have hb:Nat.blt (p.1+1) ops.length=false:=by
        cases hx:Nat.blt (p.1+1) ops.length with
        |false=>rfl
        |true=>exact(J (by simpa [jK]using hx)).elim
       simp only[hb,dI,dD,DW,xe,uj,tf,j,Bool.or_self,il]at h3;split at h3
       .rename_i m;rw[m]at j;simp[iS]at j
       .rename_i m;rw[m]at j;simp[iS]at j
       .simp at h3
 rw[L]
def cb.bT{id:Nat}{ops:qA}{l:List SOp}{E:ax}{H:Hp}{Q:AX->ax->Hp->Prop}(I:cfg.bU f id=.text)(i:DX ops=true)(M:bt N ops ops=some l)
 (h:∀K:ax->Hp->Prop,(∀E' H',Q .normal E' H'->K E' H')->aJ P cfg f l E H K):cb P cfg f N (.bT id ops) E H Q:=by
 unfold cb;intro code hc;cases code with
 |region V Z draw=>
  cases draw with
  |false=>simp only[aC,bw]at hc;split at hc<;>simp at hc
  |true=>
   simp only[aC,SC.bT.injEq]at hc;obtain⟨rfl,rfl⟩:=hc;obtain⟨n,E',H',Y,g⟩:=aJ.run M (h (Q .normal) fun _ _ h=>h);refine⟨_,_,_,dO.bT (n:=n) (r:=.done .normal E' H') ?_ au,g⟩;rw[I];simp only[lA];exact Y4 i Y
 |_=>simp[aC]at hc
end
section
variable {P:Program} {H:Hp} {t u e:TypeId} {keep:Bool}
theorem Y5{D:BinOp->Sx->Sx->qG}{t:TypeId}{s u:qx}:eK P D .leq t (.aq s) (.aq u)=some (.bool (uW s u||s == u)):=rfl
def pq{n z:Nat}{imm:Nat}{tip:Bool}(hg:H.get r=some (.cells cs imm tip))(J:((cs.drop o).take (n*s)).length=n*s):eQ H s (.sl r o n z)=some (n,(cs.drop o).take (n*s)):=by
 unfold eQ;simp only[hg,J,dh]
def IM{k:IntKind}{s:qx}{m:Nat}(J:P.underlying t=some .string)(O:m<=s.length):gU P t (.aq s) none (some (.int k (m:Int)))=some (.aq (s.take m)):=by
 show gU P t (.aq s) none (some (.int k (Int.ofNat m)))=_;simp[gU,J,ig,O]
def Nu{k:IntKind}{s:qx}(J:P.underlying t=some .string)(O:m<=s.length):gU P t (.aq s) (some (.int k (m:Int))) none=some (.aq (s.drop m)):=by
 show gU P t (.aq s) (some (.int k (Int.ofNat m))) none=_;simp only[gU,J,ig];rw[ah ⟨O,aH _⟩];rw[fI au]
def append_nil{b n:Nat}{x:AV}(J:P.underlying t=some (.slice e))(M:bE P e=some s)(hb:dt P e=some b)(I:cS P e=some z)(Y:iR P u=true)
 (V:eQ H s x=some (n+1,Z)) (g:Z.all AV.one=true) (L:z.length=s) (h1:(n+1)*b<=dL) (h2:n+1<=dL) :
 cX P keep H t u .ak x=some (.sl H.next 0 (n+1) s,H.alloc (.cells Z 0 true)):=by
 simp only[cX,J,M,hb,I,Y,V,g,L,po,dh,ii,mK,h1,h2]
theorem xf{b n len:Nat}{x:AV}(J:P.underlying t=some (.slice e))(M:bE P e=some s)(hb:dt P e=some b)(I:cS P e=some z)(Y:iR P u=true)
 (V:eQ H s x=some (n+1,Z)) (g:Z.all AV.one=true) (L:z.length=s) (hg:H.get r=some (.cells cs 0 true)) (U:cs.length=len*s) (h1:(len+(n+1))*b<=dL) (h2:len+(n+1)<=dL) :
 cX P false H t u (.sl r 0 len s) x=some (.sl H.next 0 (len+(n+1)) s,(H.aR r).alloc (.cells (cs++Z) 0 true)):=by
 have C:ii false H s (.sl r 0 len s)=H:=by
  unfold ii;simp only[hg,bK];have:Nat.blt (len*s) cs.length=false:=by
   cases hb:Nat.blt (len*s) cs.length with
   |false=>rfl
   |true=>rw[jK]at hb;omega
  simp[this]
 simp only[cX,J,M,hb,I,Y,V,g,L,po,dh,C,mK,hg,h1,h2,bK,U,de,nP,eS,dI,dD]
end
theorem Y6(E:ax):aS E (.const (.slice none 0 0))=some .ak:=rfl
theorem Nv(E:ax):aS E (.const (.map none))=some .bi:=rfl
structure Rc where
 op:Op
 did:Bool
 E:ax
 H:Hp
 val:AV
 H':Hp
variable{E:ax}{H H':Hp}
section
variable (P:Program) (cfg:Cfg) (f:FuncId)
def ea:List SOp->List Rc->ax->Hp->(List Rc->ax->Hp->Prop)->Prop
 |[],tr,E,H,Q=>Q tr E H
 |o::l,tr,E,H,Q=>match o.g with
  |none=>jz P cfg f o.op E H fun v H'=>ea l (tr++[⟨o.op,true,E,H,v,H'⟩]) (aU E o.d v) H' Q
  |some (s,b)=>(E.at s=.bool b/\jz P cfg f o.op E H fun v H'=>ea l (tr++[⟨o.op,true,E,H,v,H'⟩]) (aU E o.d v) H' Q)\/((E.at s=.bool (!b)\/E.at s=dK)/\ea l (tr++[⟨o.op,false,E,H,dK,H⟩]) (aU E o.d dK) H Q)
def A1(g:List Rc)(H':Hp)(m:Nat):Hp:=match g[m]? with
 |some r=>r.H
 |none=>H'
def ti(r:Rc)(H:Hp):Prop:=match iS r.op with
 | .read=>∃i,eR P cfg (fun _=>.aQ) 0 r.E H r.op=.val r.val i
 | .make=>∃b,H.get r.H.next=some b/\r.H'.get r.H.next=some b
 |_=>True
def DY(g:List Rc)(H':Hp)(i m:Nat):Prop:=match g[i]? with
 |some r=>r.did=true->ti P cfg r (A1 g H' m)
 |none=>True
def uo(need:qP)(g:List Rc)(H':Hp):Prop:=(∀r∈g,r.H.next<=r.H'.next)/\∀p∈need,DY P cfg g H' p.1 p.2
end
section
variable {P:Program} {cfg:Cfg} {f N:Nat}
def xg(r:Rec):Rc:=⟨r.o.op,r.did,r.E,r.H,r.val,r.H'⟩
def HB.beq_refl(b:HB):HB.beq b b=true:=by
 cases b with
 |cells a i t=>simp[HB.beq,um]
 |map V=>simp[HB.beq,um]
theorem ea.run{Y:qA}{Q:List Rc->ax->Hp->Prop}:∀{l:qA}{r:List SOp}{V:List Rc}{E:ax}{H:Hp},bt N Y l=some r->ea P cfg f r V E H Q ->
 ∃n E' H' rs,kO P cfg (ek P cfg n) f N Y l E H=.done E' H' rs/\Q (V++rs.map xg) E' H'
 |[],r,V,E,H,hs,L=>by
  simp only[bt,aI]at hs;subst hs;unfold ea at L;exact⟨0,E,H,[],rfl,by simpa using L⟩
 |o::l,r,V,E,H,hs,L=>by
  simp only[bt]at hs;split at hs
  .rename_i d g r' C h2 z;simp only[aI]at hs;subst hs;obtain⟨dC,w2⟩:=M8 (E:=E) h2;have J:∀k k',k<=k'->ey (ek P cfg k) (ek P cfg k'):=fun k k' hk t ht=>IF hk ht;have U:jz P cfg f o.op E H (fun v H'=>ea P cfg f r' (V++[⟨o.op,true,E,H,v,H'⟩]) (aU E d v) H' Q)->kN Y E o=true->∃n E' H' rs,kO P cfg (ek P cfg n) f N Y (o::l) E H=.done E' H' rs/\Q (V++rs.map xg) E' H':=fun M Z=>by
    unfold jz at M;obtain⟨n,v,H1,g1,g2⟩:=M;obtain⟨m,j,i,rs,O,I⟩:=ea.run z g2;refine⟨max n m,j,i,⟨o,true,E,H,v,H1⟩::rs,?_,by simpa [xg]using I⟩;simp only[kO,Z];rw[DF (J n (max n m) (Dz _ _)) (by rw[g1];simp),g1];simp only[DO C,ri];rw[DH (J m (max n m) (DA _ _)) w7,O];rfl
   unfold ea at L;cases hg:g with
   |none=>
    rw[hg]at L;exact U L (dC hg)
   |some sb=>
    obtain⟨s,b⟩:=sb;rw[hg]at L;simp only[]at L;rcases L with⟨e,L⟩|⟨e,L⟩
    .exact U L ((w2 s b hg).1 e)
    .obtain⟨m,j,i,rs,O,I⟩:=ea.run z L;refine⟨m,j,i,⟨o,false,E,H,dK,H⟩::rs,?_,by simpa [xg]using I⟩;simp only[kO,(w2 s b hg).2 e,DO C,ri,O,rh]
  .simp at hs
theorem Y7{need:qP}{rs:List Rec}(h:uo P cfg need (rs.map xg) H'):wO P cfg need rs H'=true:=by
 unfold wO;simp only[cj,gM];refine⟨fun r O=>Nat.ble_eq_true_of_le (h.1 _ (mT.2 ⟨r,O,rfl⟩)),fun p hp=>?_⟩;have M:=h.2 p hp;have z:A1 (rs.map xg) H' p.2=cO rs H' p.2:=by
  unfold A1 cO;rw[eu];cases rs[p.2]? <;>rfl
 unfold DY at M;rw[eu,z]at M;cases hr:rs[p.1]? with
 |none=>rfl
 |some r=>
  rw[hr]at M;simp only[rq,xg]at M;simp only[rx,lH];cases hd:r.did with
  |false=>exact .inl rfl
  |true=>
   right
   have M:=M hd;unfold ti at M;unfold zeo;cases j:iS r.o.op with
   |b3=>rfl
   |cU=>rfl
   |read=>
    rw[j]at M;simp only[]at M⊢;obtain⟨Z,g⟩:=M;rw[g];exact AV.beq_refl _
   |make=>
    rw[j]at M;simp only[]at M⊢;obtain⟨b,i,g⟩:=M;rw[i,g];exact HB.beq_refl b
def Nw{id:Nat}{g:qA}{need:qP}
 (I:∀ih:zd3->Res,lA P cfg ih f N E H (cfg.bU f id) ops=oB P cfg ih f N g E H) (i:sW g=true) (M:bt N g g=some l) (V:rj g=need)
 (h:∀K:List Rc->ax->Hp->Prop,(∀Z E' H',uo P cfg need Z H'->Q .normal E' H'->K Z E' H')->ea P cfg f l [] E H K):cb P cfg f N (.bT id ops) E H Q:=by
 unfold cb;intro code hc;cases code with
 |region L Y draw=>
  cases draw with
  |false=>simp only[aC,bw]at hc;split at hc<;>simp at hc
  |true=>
   simp only[aC,SC.bT.injEq]at hc;obtain⟨rfl,rfl⟩:=hc;obtain⟨n,E',H',rs,U,O,m⟩:=ea.run M (h (fun Z E' H'=>uo P cfg need Z H'/\Q .normal E' H') fun _ _ _ h j=>⟨h,j⟩);refine⟨_,_,_,dO.bT (n:=n) (r:=.done .normal E' H') ?_ au,m⟩;rw[I];unfold oB;rw[i];simp only[U];rw[V,Y7 (by simpa using O)]
 |_=>simp[aC]at hc
def Y8{id:Nat}{need:qP}(I:cfg.bU f id=.text)(i:sW ops=true)(M:bt N ops ops=some l)(Z:rj ops=need)
 (h:∀K:List Rc->ax->Hp->Prop,(∀g E' H',uo P cfg need g H'->Q .normal E' H'->K g E' H')->ea P cfg f l [] E H K):cb P cfg f N (.bT id ops) E H Q:=
 Nw (fun ih=>by rw[I];rfl) i M Z h
def Nx{id:Nat}{ord:qD}{need:qP}(I:cfg.bU f id=.bA ord)(hb:Al ord ops=true)(i:sW (jr ord ops)=true)(M:bt N (jr ord ops) (jr ord ops)=some l)(Z:rj (jr ord ops)=need)
 (h:∀K:List Rc->ax->Hp->Prop,(∀g E' H',uo P cfg need g H'->Q .normal E' H'->K g E' H')->ea P cfg f l [] E H K):cb P cfg f N (.bT id ops) E H Q:=
 Nw (fun ih=>by rw[I];simp only[lA,hb]) i M Z h
def ea.nil{g:List Rc}{Q:List Rc->ax->Hp->Prop}(h:Q g E H):ea P cfg f [] g E H Q:=h
def ea.step{d:Nat}{op:Op}{g:List Rc}{Q:List Rc->ax->Hp->Prop}
 (h:aJ P cfg f [⟨some d,op,none⟩] E H fun E' H'=>ea P cfg f l (g++[⟨op,true,E,H,E'.at d,H'⟩]) E' H' Q):ea P cfg f (⟨some d,op,none⟩::l) g E H Q:=by
 unfold aJ at h;simp only[]at h;unfold ea;refine jz.mono (fun v H' L=>?_) h;unfold aJ at L;have:(aU E (some d) v).at d=v:=M7;rw[this]at L;exact L
def Ny{op:Op}{g:List Rc}{Q:List Rc->ax->Hp->Prop}(j:iS op=.cU)
 (h:aJ P cfg f [⟨none,op,none⟩] E H fun E' H'=>∀v,ea P cfg f l (g++[⟨op,true,E,H,v,H'⟩]) E' H' Q):ea P cfg f (⟨none,op,none⟩::l) g E H Q:=by
 unfold aJ at h;simp only[]at h;unfold ea;refine jz.mono (fun v H' L=>?_) h;unfold aJ at L;exact L v
theorem ea.guard{op:Op}{t:Bool}{g:List Rc}{Q:List Rc->ax->Hp->Prop}(h:E.at s=.bool t)(h1:t=b->ea P cfg f (⟨d,op,none⟩::l) g E H Q)(h2:t=!b->ea P cfg f l (g++[⟨op,false,E,H,dK,H⟩]) (aU E d dK) H Q):
 ea P cfg f (⟨d,op,some (s,b)⟩::l) g E H Q:=by
 unfold ea;simp only[];by_cases e:t=b
 .left
  refine⟨by rw[h,e],?_⟩;have:=h1 e;unfold ea at this;exact this
 .right
  have m:t=!b:=by cases t<;>cases b<;>simp_all
  exact⟨.inl (by rw[h,m]),h2 m⟩
def ea.b0{op:Op}{g:List Rc}{Q:List Rc->ax->Hp->Prop}(h:E.at s=dK)(h2:ea P cfg f l (g++[⟨op,false,E,H,dK,H⟩]) (aU E d dK) H Q):
 ea P cfg f (⟨d,op,some (s,b)⟩::l) g E H Q:=by
 unfold ea;exact .inr ⟨.inr h,h2⟩
def Y9{bM:Hp}(h:aS E x=some a)(h1:gL P H t a=some v):ti P cfg ⟨.load t x,true,E,bM,v,I⟩ H:=
 ⟨H,by simp only[eR,dM,Ad,Go.Ab.ret,h,h1,iY]⟩
def Za{y:Operand}{ok:Bool}{bM:Hp}{b:AV}(h:aS E x=some a)(h1:aS E y=some b)(h2:mL P H t a b ok=some v):ti P cfg ⟨.lookup t x y ok,true,E,bM,v,I⟩ H:=
 ⟨H,by simp only[eR,dM,Ai,Go.Ab.ret,h,h1,h2,iY]⟩
def Zb{bM:Hp}(h:aS E x=some a)(h1:ij P H t a=some v):ti P cfg ⟨.call ⟨.builtin .len,#[x],#[t]⟩,true,E,bM,v,I⟩ H:=
 ⟨H,by simp only[eR,u5,jx,h,sV,h1]⟩
def Zc{s:TypeId}{bM:Hp}(h:aS E x=some a)(h1:mM P H s t a=some v):ti P cfg ⟨.convert s t x,true,E,bM,v,I⟩ H:=
 ⟨H,by simp only[eR,dM,Ae,Go.Ab.ret,h,h1,iY]⟩
def Zd{bM:Hp}(h:aS E x=some a)(h1:lR E lo=some Y)(h2:lR E C=some V)(m:ph P H t a Y V=some v):ti P cfg ⟨.slice t x lo C none,true,E,bM,v,I⟩ H:=
 ⟨H,by simp only[eR,dM,Ah,Go.Ab.ret,h,h1,h2,m,iY]⟩
def Ze{op:Op}{bM:Hp}{b:HB}(j:iS op=.make)(h:H.get bM.next=some b)(h2:I.get bM.next=some b):ti P cfg ⟨op,true,E,bM,v,I⟩ H:=by
 unfold ti;rw[j];exact⟨b,h,h2⟩
def Zf{g:List Rc}{r:Rc}(h:g[i]?=some r)(M:r.did=true->ti P cfg r (A1 g H' m)):DY P cfg g H' i m:=by
 unfold DY;rw[h];exact M
end
section
variable {P:Program} {cfg:Cfg} {f:FuncId} {l:List SOp} {E:ax} {H:Hp} {Q:ax -> Hp -> Prop} {d:Nat} {x y:Operand} {ts:Array TypeId} {k k':IntKind} {a b:Int}
def aJ.min2(h:aS E x=some (.int k a))(h1:aS E y=some (.int k' b))(j:aJ P cfg f l (T.set E d (some (.int k (min a b)))) H Q):aJ P cfg f (⟨some d,.call ⟨.builtin .min,#[x,y],ts⟩,none⟩::l) E H Q:=
 DQ (c:=⟨.builtin .min,#[x,y],ts⟩) rfl (vs:=[.int k a,.int k' b]) IG (v:=.int k (min a b)) (by
  simp only[sV,uZ,mm,dI,dD,kA]
  congr 3;omega) j
def aJ.max2(h:aS E x=some (.int k a))(h1:aS E y=some (.int k' b))(j:aJ P cfg f l (T.set E d (some (.int k (max a b)))) H Q):aJ P cfg f (⟨some d,.call ⟨.builtin .max,#[x,y],ts⟩,none⟩::l) E H Q:=
 DQ (c:=⟨.builtin .max,#[x,y],ts⟩) rfl (vs:=[.int k a,.int k' b]) IG (v:=.int k (max a b)) (by
  simp only[sV,uZ,mm,dh,kA]
  congr 3;omega) j
end
attribute [irreducible] ea
abbrev cZ(l:qw):AV:=.aE (l.map fun s=>[.aq s])
abbrev dJ(l:qu):AV:=.aE (l.map fun n=>[.int .i64 n])
inductive Ex where
 |mk (kind:Int) (n:Int) (name:qx) (op:Int) (kids:List Ex)
abbrev qH:=List Ex
def Ex.aw:Ex->Int|.mk x _ _ _ _=>x
def Ex.n:Ex->Int|.mk _ x _ _ _=>x
def Ex.name:Ex->qx|.mk _ _ x _ _=>x
def Ex.op:Ex->Int|.mk _ _ _ x _=>x
def Ex.aj:Ex->qH|.mk _ _ _ _ x=>x
mutual
def Ex.cells:Ex->qt
 | .mk jI U Y j J=>[.int .i64 jI,.int .i64 U,.aq Y,.int .i64 j,.aE (DZ J)]
def DZ:qH->List qt
 |[]=>[]
 |x::xs=>Ex.cells x::DZ xs
end
theorem Nz:∀l:qH,DZ l=l.map Ex.cells
 |[]=>rfl
 |x::xs=>by rw[DZ,Nz xs];rfl
def Ex.aO(x:Ex):x.cells=[.int .i64 x.aw,.int .i64 x.n,.aq x.name,.int .i64 x.op,.aE (x.aj.map Ex.cells)]:=by
 cases x;simp only[Ex.cells,Nz,Ex.aw,Ex.n,Ex.name,Ex.op,Ex.aj]
def so:=@Ex.aO
def Ex.bh(x:Ex):x.cells.length=5:=vo
def Ex.c0(x:Ex):x.cells[0]?=some (.int .i64 x.aw):=vo
def Ex.c1(x:Ex):x.cells[1]?=some (.int .i64 x.n):=vo
def Ex.c2(x:Ex):x.cells[2]?=some (.aq x.name):=vo
def Ex.c3(x:Ex):x.cells[3]?=some (.int .i64 x.op):=vo
def Ex.c4(x:Ex):x.cells[4]?=some (.aE (x.aj.map Ex.cells)):=vo
theorem Ex.a8(x:Ex):cI 5 x.cells=some (.agg x.cells):=by unfold cI;rw[so];rfl
def Ex.one(x:Ex):x.cells.all AV.one=true:=vo
inductive St where
 |mk (kind:Int) (name:qx) (to:qx) (n:Int) (at_:Ex) (value:Ex) (args:qH) (thn:List St) (els:List St)
abbrev qE:=List St
def St.aw:St->Int|.mk x _ _ _ _ _ _ _ _=>x
def St.name:St->qx|.mk _ x _ _ _ _ _ _ _=>x
def St.to:St->qx|.mk _ _ x _ _ _ _ _ _=>x
def St.n:St->Int|.mk _ _ _ x _ _ _ _ _=>x
def St.a6:St->Ex|.mk _ _ _ _ x _ _ _ _=>x
def St.value:St->Ex|.mk _ _ _ _ _ x _ _ _=>x
def St.args:St->qH|.mk _ _ _ _ _ _ x _ _=>x
def St.a9:St->qE|.mk _ _ _ _ _ _ _ x _=>x
def St.bl:St->qE|.mk _ _ _ _ _ _ _ _ x=>x
mutual
def St.cells:St->qt
 | .mk jI U Y j J i C Z V=>[.int .i64 jI,.aq U,.aq Y,.int .i64 j,.int .i64 J.aw,.int .i64 J.n,.aq J.name,.int .i64 J.op,.aE (J.aj.map Ex.cells),.int .i64 i.aw,.int .i64 i.n,.aq i.name,.int .i64 i.op,.aE (i.aj.map Ex.cells),.aE (C.map Ex.cells),.aE (A2 Z),.aE (A2 V)]
def A2:qE->List qt
 |[]=>[]
 |x::xs=>St.cells x::A2 xs
end
theorem NA:∀l:qE,A2 l=l.map St.cells
 |[]=>rfl
 |x::xs=>by rw[A2,NA xs];rfl
def St.aO(x:St):x.cells=[.int .i64 x.aw,.aq x.name,.aq x.to,.int .i64 x.n,.int .i64 x.a6.aw,.int .i64 x.a6.n,.aq x.a6.name,.int .i64 x.a6.op,.aE (x.a6.aj.map Ex.cells),.int .i64 x.value.aw,.int .i64 x.value.n,.aq x.value.name,.int .i64 x.value.op,.aE (x.value.aj.map Ex.cells),.aE (x.args.map Ex.cells),.aE (x.a9.map St.cells),.aE (x.bl.map St.cells)]:=by
 cases x;simp only[St.cells,NA,St.aw,St.name,St.to,St.n,St.a6,St.value,St.args,St.a9,St.bl]
def xh:=@St.aO
def St.bh(x:St):x.cells.length=17:=lI
def St.c0(x:St):x.cells[0]?=some (.int .i64 x.aw):=lI
def St.c1(x:St):x.cells[1]?=some (.aq x.name):=lI
def St.c2(x:St):x.cells[2]?=some (.aq x.to):=lI
def St.c3(x:St):x.cells[3]?=some (.int .i64 x.n):=lI
def St.c4(x:St):x.cells[4]?=some (.int .i64 x.a6.aw):=lI
def St.c5(x:St):x.cells[5]?=some (.int .i64 x.a6.n):=lI
def St.c6(x:St):x.cells[6]?=some (.aq x.a6.name):=lI
def St.c7(x:St):x.cells[7]?=some (.int .i64 x.a6.op):=lI
def St.c8(x:St):x.cells[8]?=some (.aE (x.a6.aj.map Ex.cells)):=lI
def St.c9(x:St):x.cells[9]?=some (.int .i64 x.value.aw):=lI
def St.c10(x:St):x.cells[10]?=some (.int .i64 x.value.n):=lI
def St.c11(x:St):x.cells[11]?=some (.aq x.value.name):=lI
def St.c12(x:St):x.cells[12]?=some (.int .i64 x.value.op):=lI
def St.c13(x:St):x.cells[13]?=some (.aE (x.value.aj.map Ex.cells)):=lI
def St.c14(x:St):x.cells[14]?=some (.aE (x.args.map Ex.cells)):=lI
def St.c15(x:St):x.cells[15]?=some (.aE (x.a9.map St.cells)):=lI
def St.c16(x:St):x.cells[16]?=some (.aE (x.bl.map St.cells)):=lI
theorem St.a8(x:St):cI 17 x.cells=some (.agg x.cells):=by unfold cI;rw[xh];rfl
def St.one(x:St):x.cells.all AV.one=true:=lI
theorem Zg(x:St):cI 5 (x.cells.drop 4)=some (.agg x.a6.cells):=by unfold cI;rw[xh,so];rfl
theorem St.bJ(x:St):cI 5 (x.cells.drop 9)=some (.agg x.value.cells):=by unfold cI;rw[xh,so];rfl
structure Fu where
 name:qx
 params:qw
 ao:qw
 body:qE
 value:Ex
abbrev qQ:=List Fu
def Fu.cells(x:Fu):qt:=[.aq x.name,cZ x.params,cZ x.ao,.aE (x.body.map St.cells),.int .i64 x.value.aw,.int .i64 x.value.n,.aq x.value.name,.int .i64 x.value.op,.aE (x.value.aj.map Ex.cells)]
theorem Fu.aO(x:Fu):x.cells=[.aq x.name,cZ x.params,cZ x.ao,.aE (x.body.map St.cells),.int .i64 x.value.aw,.int .i64 x.value.n,.aq x.value.name,.int .i64 x.value.op,.aE (x.value.aj.map Ex.cells)]:=rfl
def A3:=@Fu.aO
def Fu.bh(x:Fu):x.cells.length=9:=sk
def Fu.c0(x:Fu):x.cells[0]?=some (.aq x.name):=sk
def Fu.c1(x:Fu):x.cells[1]?=some (cZ x.params):=sk
def Fu.c2(x:Fu):x.cells[2]?=some (cZ x.ao):=sk
def Fu.c3(x:Fu):x.cells[3]?=some (.aE (x.body.map St.cells)):=sk
def Fu.c4(x:Fu):x.cells[4]?=some (.int .i64 x.value.aw):=sk
def Fu.c5(x:Fu):x.cells[5]?=some (.int .i64 x.value.n):=sk
def Fu.c6(x:Fu):x.cells[6]?=some (.aq x.value.name):=sk
def Fu.c7(x:Fu):x.cells[7]?=some (.int .i64 x.value.op):=sk
def Fu.c8(x:Fu):x.cells[8]?=some (.aE (x.value.aj.map Ex.cells)):=sk
theorem Fu.a8(x:Fu):cI 9 x.cells=some (.agg x.cells):=by unfold cI;rw[A3];rfl
def Fu.one(x:Fu):x.cells.all AV.one=true:=sk
theorem Fu.bJ(x:Fu):cI 5 (x.cells.drop 4)=some (.agg x.value.cells):=by unfold cI;rw[A3,so];rfl
structure Ar where
 name:qx
 len:Int
abbrev qR:=List Ar
def Ar.cells(x:Ar):qt:=[.aq x.name,.int .i64 x.len]
theorem Ar.aO(x:Ar):x.cells=[.aq x.name,.int .i64 x.len]:=rfl
def IN:=@Ar.aO
def Ar.bh(x:Ar):x.cells.length=2:=DK
def Ar.c0(x:Ar):x.cells[0]?=some (.aq x.name):=DK
def Ar.c1(x:Ar):x.cells[1]?=some (.int .i64 x.len):=DK
theorem Ar.a8(x:Ar):cI 2 x.cells=some (.agg x.cells):=by unfold cI;rw[IN];rfl
def Ar.one(x:Ar):x.cells.all AV.one=true:=DK
structure Pr where
 aa:qR
 funcs:qQ
def Pr.cells(x:Pr):qt:=[.aE (x.aa.map Ar.cells),.aE (x.funcs.map Fu.cells)]
theorem Pr.aO(x:Pr):x.cells=[.aE (x.aa.map Ar.cells),.aE (x.funcs.map Fu.cells)]:=rfl
def Pr.bh(x:Pr):x.cells.length=2:=DL
def Pr.c0(x:Pr):x.cells[0]?=some (.aE (x.aa.map Ar.cells)):=DL
def Pr.c1(x:Pr):x.cells[1]?=some (.aE (x.funcs.map Fu.cells)):=DL
theorem Pr.a8(x:Pr):cI 2 x.cells=some (.agg x.cells):=by unfold cI;rw[Pr.aO];rfl
def Pr.one(x:Pr):x.cells.all AV.one=true:=DL
structure Tk where
 aw:Int
 text:qx
 a6:Int
def Tk.cells(x:Tk):qt:=[.int .i64 x.aw,.aq x.text,.int .i64 x.a6]
theorem Tk.aO(x:Tk):x.cells=[.int .i64 x.aw,.aq x.text,.int .i64 x.a6]:=rfl
def Tk.bh(x:Tk):x.cells.length=3:=AU
def Tk.c0(x:Tk):x.cells[0]?=some (.int .i64 x.aw):=AU
def Tk.c1(x:Tk):x.cells[1]?=some (.aq x.text):=AU
def Tk.c2(x:Tk):x.cells[2]?=some (.int .i64 x.a6):=AU
theorem Tk.a8(x:Tk):cI 3 x.cells=some (.agg x.cells):=by unfold cI;rw[Tk.aO];rfl
def Tk.one(x:Tk):x.cells.all AV.one=true:=AU
structure Nd where
 op:Int
 aF:Int
 aj:qu
abbrev qy:=List Nd
def Nd.cells(x:Nd):qt:=[.int .i64 x.op,.int .i64 x.aF,dJ x.aj]
theorem Nd.aO(x:Nd):x.cells=[.int .i64 x.op,.int .i64 x.aF,dJ x.aj]:=rfl
def IP:=@Nd.aO
def Nd.bh(x:Nd):x.cells.length=3:=AW
def Nd.c0(x:Nd):x.cells[0]?=some (.int .i64 x.op):=AW
def Nd.c1(x:Nd):x.cells[1]?=some (.int .i64 x.aF):=AW
def Nd.c2(x:Nd):x.cells[2]?=some (dJ x.aj):=AW
theorem Nd.a8(x:Nd):cI 3 x.cells=some (.agg x.cells):=by unfold cI;rw[IP];rfl
def Nd.one(x:Nd):x.cells.all AV.one=true:=AW
structure Gr where
 name:qx
 params:Int
 ag:qy
 value:Int
 ab:Int
abbrev qT:=List Gr
def Gr.cells(x:Gr):qt:=[.aq x.name,.int .i64 x.params,.aE (x.ag.map Nd.cells),.int .i64 x.value,.int .i64 x.ab]
theorem Gr.aO(x:Gr):x.cells=[.aq x.name,.int .i64 x.params,.aE (x.ag.map Nd.cells),.int .i64 x.value,.int .i64 x.ab]:=rfl
def Gr.bh(x:Gr):x.cells.length=5:=xc
def Gr.c0(x:Gr):x.cells[0]?=some (.aq x.name):=xc
def Gr.c1(x:Gr):x.cells[1]?=some (.int .i64 x.params):=xc
def Gr.c2(x:Gr):x.cells[2]?=some (.aE (x.ag.map Nd.cells)):=xc
def Gr.c3(x:Gr):x.cells[3]?=some (.int .i64 x.value):=xc
def Gr.c4(x:Gr):x.cells[4]?=some (.int .i64 x.ab):=xc
theorem Gr.a8(x:Gr):cI 5 x.cells=some (.agg x.cells):=by unfold cI;rw[Gr.aO];rfl
def Gr.one(x:Gr):x.cells.all AV.one=true:=xc
structure Un where
 aa:qR
 funcs:qT
def Un.cells(x:Un):qt:=[.aE (x.aa.map Ar.cells),.aE (x.funcs.map Gr.cells)]
theorem Un.aO(x:Un):x.cells=[.aE (x.aa.map Ar.cells),.aE (x.funcs.map Gr.cells)]:=rfl
def IQ:=@Un.aO
def Un.bh(x:Un):x.cells.length=2:=DM
def Un.c0(x:Un):x.cells[0]?=some (.aE (x.aa.map Ar.cells)):=DM
def Un.c1(x:Un):x.cells[1]?=some (.aE (x.funcs.map Gr.cells)):=DM
theorem Un.a8(x:Un):cI 2 x.cells=some (.agg x.cells):=by unfold cI;rw[IQ];rfl
def Un.one(x:Un):x.cells.all AV.one=true:=DM
end Go.Ab
namespace Go.Proofs.YtbflaciihaijgaaGreat
set_option maxRecDepth 20000
open Go Go.Ab Proofs.Tryz
variable{t:Nat}
def fit:Fit prog:=Fit.of aB
def pls:List (Nat×Nat×zf0):=[(6,4,(.bA [0,1,2,4,5,6,7,11,12,3,8,9,10,13,14])),
 (7,9,(.bA [0,1,2,4,5,8,10,3,6,7,9,11])),
 (7,10,(.bA [0,1,2,4,5,8,10,3,6,7,9,11])),
 (10,36,(.split 10 13 .text (.bA [0,1,2,3,4,5,6,7,8,9,11,12,13,10]))),
 (10,41,(.split 11 14 .text (.bA [0,1,2,3,4,5,6,7,8,9,10,12,13,14,11]))),
 (22,22,(.bA [0,1,2,3,4,5,6,7,10,8,9,11])),
 (54,14,(.bA [0,1,2,4,5,7,9,3,6,8,10])),
 (56,4,(.bA [0,1,2,4,5,7,8,10,11,12,3,6,9,13,14,15,16])),
 (108,23,(.bA [0,1,2,3,4,5,6,7,9,10,11,12,13,14,8,15,16,17,18,19])),
 (108,24,(.bA [0,1,2,3,4,5,6,8,9,10,11,12,13,7,14,15,16])),
 (175,23,(.bA [0,2,3,4,5,6,7,1,8,9])),
 (180,13,(.bA [0,1,2,3,4,5,6,8,9,7,10,11,12]))]
def aG:=ad @Y6 (ad @List.toList_toArray.{0} (ad @bX (ad @uh (ad @oG (ad @lX (ad @iC (ad @List.length_map.{0,0} (ad @Int.natCast_zero (ad @Yd (ad @Ye (ad @Yf (ad @Yg (ad @Yh (ad @kW (ad @cond_true.{1} (ad @cond_false.{1} (@bK)))))))))))))))))
def aR:=ad @Ex.bh (ad @Ex.c0 (ad @Ex.c1 (ad @Ex.c2 (ad @Ex.c3 (ad @Ex.c4 (ad @Ex.a8 (ad @Ex.one (ad @St.bh (ad @St.c0 (ad @St.c1 (ad @St.c2 (ad @St.c3 (ad @St.c4 (ad @St.c5 (ad @St.c6 (ad @St.c7 (ad @St.c8 (ad @St.c9 (ad @St.c10 (ad @St.c11 (ad @St.c12 (ad @St.c13 (ad @St.c14 (ad @St.c15 (ad @St.c16 (ad @St.a8 (ad @St.one (ad @Zg (ad @St.bJ (ad @Fu.bh (ad @Fu.c0 (ad @Fu.c1 (ad @Fu.c2 (ad @Fu.c3 (ad @Fu.c4 (ad @Fu.c5 (ad @Fu.c6 (ad @Fu.c7 (ad @Fu.c8 (ad @Fu.a8 (ad @Fu.one (ad @Fu.bJ (ad @Ar.bh (ad @Ar.c0 (ad @Ar.c1 (ad @Ar.a8 (ad @Ar.one (ad @Pr.bh (ad @Pr.c0 (ad @Pr.c1 (ad @Pr.a8 (ad @Pr.one (ad @Tk.bh (ad @Tk.c0 (ad @Tk.c1 (ad @Tk.c2 (ad @Tk.a8 (ad @Tk.one (ad @Nd.bh (ad @Nd.c0 (ad @Nd.c1 (ad @Nd.c2 (ad @Nd.a8 (ad @Nd.one (ad @Gr.bh (ad @Gr.c0 (ad @Gr.c1 (ad @Gr.c2 (ad @Gr.c3 (ad @Gr.c4 (ad @Gr.a8 (ad @Gr.one (ad @Un.bh (ad @Un.c0 (ad @Un.c1 (ad @Un.a8 (ad @Un.one (ad @YY (ad @YZ (ad @Y0 (ad @Y1 (ad @List.getElem?_drop.{0} (ad @ve (ad @if_true.{1} (ad @DV (ad @DU (ad @Np (ad @YH (ad @cells_int (ad @Nq (ad @YI (ad @YJ (ad @YK (ad @YL (ad @YM (ad @YN (ad @YO (ad @YP (ad @YQ (ad @YR (ad @YS (ad @YT (ad @YU (ad @YV (ad @YW (ad @YX (ad @List.all_cons.{0} (ad @List.all_nil.{0} (ad @gW (ad @el (ad @aN (ad @jy (ad @de (ad @aH (ad @List.nil_append.{0} (ad @List.append_nil.{0} (ad @List.cons_append.{0} (ad @aZ (ad @br (ad @bX (ad @beq_self_eq_true.{0} (ad @II (ad @IJ (ad @Nr (ad @ki (ad @List.getElem?_map.{0,0} (ad @Option.map_some.{0,0} (ad @yN (ad @YG (ad @YF (ad @YB (ad @YC (ad @get_set (ad @xd (ad @List.getElem?_cons_succ.{0} (ad @List.getElem?_cons_zero.{0} (ad @List.drop_succ_cons.{0} (ad @List.drop_zero.{0} (ad @List.take_succ_cons.{0} (ad @List.take_zero.{0} (ad @List.length_cons.{0} (ad @List.length_nil.{0} (ad @Int.natCast_nonneg (ad @fK (ad @Yi (ad @Yj (ad @Yk (ad @Yl (ad @Ym (ad @Yn (ad @Yo (ad @Yp (ad @Yq (ad @Yr (ad @Ys (ad @Yt (ad @Yu (ad @Yv (ad @Yy (@Yz))))))))))))))))))))))))))))))))))))))))))))))))))))))))))))))))))))))))))))))))))))))))))))))))))))))))))))))))))))))))))))))))))))))))))))))))))))))))))))))))
structure zd0 (cfg:Cfg) (f:FuncId):Prop where
 call:∀args,cfg.call f args=none
 aG:cfg.aG f=false
 az:cfg.az f=false
abbrev cP(t i k u:Nat):Prop:=(∀r o:Nat,uV prog t (.ptr r o) i=some (.ptr r (o+k)))/\(∀g:qt,uV prog t (.bj g) i=some (.bj (g.drop k)))/\∀g:qt,wK prog t (.agg g) i=dd prog u g k
def cU{i k u:Nat}(h:cP t i k u:=by exact⟨fun _ _=>aB,fun _=>aB,fun _=>aB⟩):cP t i k u:=h
abbrev mZ(t s:Nat):Prop:=∀(r o l z:Nat) {n:Int} (_:0<=n) (k:IntKind),ej prog t (.sl r o l z) (.int k n)=bif decide (n.toNat<l)then some (.ptr r (o+n.toNat*s))else none
abbrev mB(t s:Nat):Prop:=(∀(C:List qt) {n:Int} (_:0<=n) (k:IntKind),ej prog t (.aE C) (.int k n)=DS s (C[n.toNat]?))/\(∀(H:Hp) (C:List qt),ij prog H t (.aE C)=some (.int .i64 C.length))/\(∀(H:Hp) (r o n z:Nat),ij prog H t (.sl r o n z)=some (.int .i64 n))/\∀H:Hp,ij prog H t .ak=some (.int .i64 0)
def m1{e s:Nat}(h:prog.underlying t=some (.slice e))(M:bE prog e=some s):mB t s:=⟨fun C _ I k=>YD h M C I k,fun _ C=>Nm h C,fun _ r o n z=>yM h r o n z,fun _=>DR h⟩
def Zh:bE prog 2=some 1:=aB
def Zi:dt prog 2=some 8:=aB
def Zj(cs:qt)(o:Nat):dd prog 2 cs o=cs[o]?:=iD underlying2 rfl cs o
def Zk:cS prog 2=some [(.int .i64 0)]:=aB
def ec:=ad @Zh (ad @Zj (ad @Zi (@Zk)))
def jg:bE prog 3=some 1:=aB
def pw:dt prog 3=some 8:=aB
def Zl(cs:qt)(o:Nat):dd prog 3 cs o=cs[o]?:=iD underlying3 rfl cs o
def px:cS prog 3=some [(.int .i64 0)]:=aB
def cA:=ad @jg (ad @Zl (ad @pw (@px)))
def D0:bE prog 4=some 1:=aB
def NB:dt prog 4=some 1:=aB
def Zm(cs:qt)(o:Nat):dd prog 4 cs o=cs[o]?:=iD underlying4 rfl cs o
def NC:cS prog 4=some [(.bool false)]:=aB
def tj:=ad @D0 (ad @Zm (ad @NB (@NC)))
def IR:bE prog 5=some 1:=aB
def IT:dt prog 5=some 1:=aB
def Zn(cs:qt)(o:Nat):dd prog 5 cs o=cs[o]?:=iD underlying5 rfl cs o
def IU:cS prog 5=some [(.int .u8 0)]:=aB
def D1:=ad @IR (ad @Zn (ad @IT (@IU)))
def vt:bE prog 9=some 1:=aB
def yO:dt prog 9=some 16:=aB
def IV(cs:qt)(o:Nat):dd prog 9 cs o=cs[o]?:=iD underlying9 rfl cs o
def yP:cS prog 9=some [(.aq [])]:=aB
def Zo(H:Hp)(s:qx):ij prog H 9 (.aq s)=some (.int .i64 s.length):=YA underlying9 s
def Zp(s:qx){n:Int}(I:0<=n)(k:IntKind):sc prog 9 (.aq s) (.int k n)=DT (s[n.toNat]?):=YE underlying9 s I k
def dw:=ad @vt (ad @IV (ad @yO (ad @yP (ad @Zo (@Zp)))))
def Zq:bE prog 22=some 1:=aB
def Zr:dt prog 22=some 24:=aB
def Zs(cs:qt)(o:Nat):dd prog 22 cs o=cs[o]?:=iD underlying22 rfl cs o
def Zt:cS prog 22=some [.ak]:=aB
def Zu:mZ 22 2:=fun r o l z _ I k=>mY underlying22 (show bE prog 75=some 2 from by kernel_rfl) r o l z I k
def Zv:mB 22 2:=m1 underlying22 (show bE prog 75=some 2 from by kernel_rfl)
def gQ:=ad @Zq (ad @Zs (ad @Zr (ad @Zt (ad @Zu (@Zv)))))
def Zw:bE prog 23=some 1:=aB
def Zx:dt prog 23=some 24:=aB
def Zy(cs:qt)(o:Nat):dd prog 23 cs o=cs[o]?:=iD underlying23 rfl cs o
def Zz:cS prog 23=some [.ak]:=aB
def ZA:mZ 23 9:=fun r o l z _ I k=>mY underlying23 (show bE prog 72=some 9 from by kernel_rfl) r o l z I k
def ZB:mB 23 9:=m1 underlying23 (show bE prog 72=some 9 from by kernel_rfl)
def jA:=ad @Zw (ad @Zy (ad @Zx (ad @Zz (ad @ZA (@ZB)))))
def ND:bE prog 25=some 2:=aB
def ZC:dt prog 25=some 48:=aB
def ZD(cs:qt)(o:Nat):dd prog 25 cs o=cI 2 (cs.drop o):=mA underlying25 rfl ND cs o
def ZE:cS prog 25=some [.ak,.ak]:=aB
def ZF:cP 25 0 0 22/\cP 25 1 1 23:=⟨cU,cU⟩
def iL:=ad @ND (ad @ZD (ad @ZC (ad @ZE (@ZF))))
def ZG:bE prog 26=some 1:=aB
def ZH:dt prog 26=some 24:=aB
def ZI(cs:qt)(o:Nat):dd prog 26 cs o=cs[o]?:=iD underlying26 rfl cs o
def ZJ:cS prog 26=some [.ak]:=aB
def NE:mZ 26 1:=fun r o l z _ I k=>mY underlying26 (show bE prog 3=some 1 from by kernel_rfl) r o l z I k
def ZK:mB 26 1:=m1 underlying26 (show bE prog 3=some 1 from by kernel_rfl)
def eZ:=ad @ZG (ad @ZI (ad @ZH (ad @ZJ (ad @NE (@ZK)))))
def ZL:bE prog 27=some 1:=aB
def ZM:dt prog 27=some 24:=aB
def ZN(cs:qt)(o:Nat):dd prog 27 cs o=cs[o]?:=iD underlying27 rfl cs o
def ZO:cS prog 27=some [.ak]:=aB
def ZP:mZ 27 1:=fun r o l z _ I k=>mY underlying27 (show bE prog 2=some 1 from by kernel_rfl) r o l z I k
def ZQ:mB 27 1:=m1 underlying27 (show bE prog 2=some 1 from by kernel_rfl)
def ZR:=ad @ZL (ad @ZN (ad @ZM (ad @ZO (ad @ZP (@ZQ)))))
def ZS:bE prog 35=some 1:=aB
def ZT:dt prog 35=some 24:=aB
def ZU(cs:qt)(o:Nat):dd prog 35 cs o=cs[o]?:=iD underlying35 rfl cs o
def ZV:cS prog 35=some [.ak]:=aB
def ZW:mZ 35 5:=fun r o l z _ I k=>mY underlying35 (show bE prog 44=some 5 from by kernel_rfl) r o l z I k
def ZX:mB 35 5:=m1 underlying35 (show bE prog 44=some 5 from by kernel_rfl)
def rB:=ad @ZS (ad @ZU (ad @ZT (ad @ZV (ad @ZW (@ZX)))))
def IX:bE prog 37=some 2:=aB
def ZY:dt prog 37=some 48:=aB
def NF(cs:qt)(o:Nat):dd prog 37 cs o=cI 2 (cs.drop o):=mA underlying37 rfl IX cs o
def ZZ:cS prog 37=some [.ak,.ak]:=aB
def Z0:cP 37 0 0 22/\cP 37 1 1 35:=⟨cU,cU⟩
def rC:=ad @IX (ad @NF (ad @ZY (ad @ZZ (@Z0))))
def Z1:bE prog 40=some 1:=aB
def Z2:dt prog 40=some 24:=aB
def Z3(cs:qt)(o:Nat):dd prog 40 cs o=cs[o]?:=iD underlying40 rfl cs o
def Z4:cS prog 40=some [.ak]:=aB
def Z5:mZ 40 2:=fun r o l z _ I k=>mY underlying40 (show bE prog 37=some 2 from by kernel_rfl) r o l z I k
def Z6:mB 40 2:=m1 underlying40 (show bE prog 37=some 2 from by kernel_rfl)
def Z7:=ad @Z1 (ad @Z3 (ad @Z2 (ad @Z4 (ad @Z5 (@Z6)))))
def Z8:bE prog 42=some 1:=aB
def Z9:dt prog 42=some 24:=aB
def zaa(cs:qt)(o:Nat):dd prog 42 cs o=cs[o]?:=iD underlying42 rfl cs o
def zab:cS prog 42=some [.ak]:=aB
def zac:mZ 42 3:=fun r o l z _ I k=>mY underlying42 (show bE prog 58=some 3 from by kernel_rfl) r o l z I k
def zad:mB 42 3:=m1 underlying42 (show bE prog 58=some 3 from by kernel_rfl)
def fX:=ad @Z8 (ad @zaa (ad @Z9 (ad @zab (ad @zac (@zad)))))
def yQ:bE prog 44=some 5:=aB
def A4:dt prog 44=some 64:=aB
def zae(cs:qt)(o:Nat):dd prog 44 cs o=cI 5 (cs.drop o):=mA underlying44 rfl yQ cs o
def A5:cS prog 44=some [(.aq []),(.int .i64 0),.ak,(.int .i64 0),(.int .i64 0)]:=aB
def zaf:cP 44 0 0 9/\cP 44 1 1 3/\cP 44 2 2 42/\cP 44 3 3 3/\cP 44 4 4 3:=⟨cU,cU,cU,cU,cU⟩
def tk:=ad @yQ (ad @zae (ad @A4 (ad @A5 (@zaf))))
def zag:bE prog 46=some 1:=aB
def zah:dt prog 46=some 8:=aB
def zai(cs:qt)(o:Nat):dd prog 46 cs o=cs[o]?:=iD underlying46 rfl cs o
def zaj:cS prog 46=some [(.int .i64 0)]:=aB
def vu:=ad @zag (ad @zai (ad @zah (@zaj)))
def uq:bE prog 58=some 3:=aB
def D2:dt prog 58=some 40:=aB
def zak(cs:qt)(o:Nat):dd prog 58 cs o=cI 3 (cs.drop o):=mA underlying58 rfl uq cs o
def D3:cS prog 58=some [(.int .i64 0),(.int .i64 0),.ak]:=aB
def zal:cP 58 0 0 3/\cP 58 1 1 2/\cP 58 2 2 26:=⟨cU,cU,cU⟩
def jB:=ad @uq (ad @zak (ad @D2 (ad @D3 (@zal))))
def zam:bE prog 66=some 1:=aB
def zan:dt prog 66=some 24:=aB
def zao(cs:qt)(o:Nat):dd prog 66 cs o=cs[o]?:=iD underlying66 rfl cs o
def zap:cS prog 66=some [.ak]:=aB
def NG:mZ 66 1:=fun r o l z _ I k=>mY underlying66 (show bE prog 9=some 1 from by kernel_rfl) r o l z I k
def zaq:mB 66 1:=m1 underlying66 (show bE prog 9=some 1 from by kernel_rfl)
def fU:=ad @zam (ad @zao (ad @zan (ad @zap (ad @NG (@zaq)))))
def zar:bE prog 67=some 1:=aB
def zas:dt prog 67=some 24:=aB
def zat(cs:qt)(o:Nat):dd prog 67 cs o=cs[o]?:=iD underlying67 rfl cs o
def zau:cS prog 67=some [.ak]:=aB
def zav:mZ 67 17:=fun r o l z _ I k=>mY underlying67 (show bE prog 78=some 17 from by kernel_rfl) r o l z I k
def zaw:mB 67 17:=m1 underlying67 (show bE prog 78=some 17 from by kernel_rfl)
def fL:=ad @zar (ad @zat (ad @zas (ad @zau (ad @zav (@zaw)))))
def zax:bE prog 68=some 1:=aB
def zay:dt prog 68=some 24:=aB
def zaz(cs:qt)(o:Nat):dd prog 68 cs o=cs[o]?:=iD underlying68 rfl cs o
def zaA:cS prog 68=some [.ak]:=aB
def zaB:mZ 68 5:=fun r o l z _ I k=>mY underlying68 (show bE prog 70=some 5 from by kernel_rfl) r o l z I k
def zaC:mB 68 5:=m1 underlying68 (show bE prog 70=some 5 from by kernel_rfl)
def fM:=ad @zax (ad @zaz (ad @zay (ad @zaA (ad @zaB (@zaC)))))
def IY:bE prog 70=some 5:=aB
def NH:dt prog 70=some 64:=aB
def zaD(cs:qt)(o:Nat):dd prog 70 cs o=cI 5 (cs.drop o):=mA underlying70 rfl IY cs o
def NI:cS prog 70=some [(.int .i64 0),(.int .i64 0),(.aq []),(.int .i64 0),.ak]:=aB
def zaE:cP 70 0 0 3/\cP 70 1 1 2/\cP 70 2 2 9/\cP 70 3 3 3/\cP 70 4 4 68:=⟨cU,cU,cU,cU,cU⟩
def fb:=ad @IY (ad @zaD (ad @NH (ad @NI (@zaE))))
def IZ:bE prog 72=some 9:=aB
def NJ:dt prog 72=some 152:=aB
def zaF(cs:qt)(o:Nat):dd prog 72 cs o=cI 9 (cs.drop o):=mA underlying72 rfl IZ cs o
def NK:cS prog 72=some [(.aq []),.ak,.ak,.ak,(.int .i64 0),(.int .i64 0),(.aq []),(.int .i64 0),.ak]:=aB
def zaG:cP 72 0 0 9/\cP 72 1 1 66/\cP 72 2 2 66/\cP 72 3 3 67/\cP 72 4 4 70:=⟨cU,cU,cU,cU,cU⟩
def nf:=ad @IZ (ad @zaF (ad @NJ (ad @NK (@zaG))))
def zaH:bE prog 73=some 1:=aB
def zaI:dt prog 73=some 24:=aB
def zaJ(cs:qt)(o:Nat):dd prog 73 cs o=cs[o]?:=iD underlying73 rfl cs o
def zaK:cS prog 73=some [.ak]:=aB
def zaL:mZ 73 1:=fun r o l z _ I k=>mY underlying73 (show bE prog 5=some 1 from by kernel_rfl) r o l z I k
def zaM:mB 73 1:=m1 underlying73 (show bE prog 5=some 1 from by kernel_rfl)
def zaN:=ad @zaH (ad @zaJ (ad @zaI (ad @zaK (ad @zaL (@zaM)))))
def vx:bE prog 75=some 2:=aB
def xi:dt prog 75=some 24:=aB
def zaO(cs:qt)(o:Nat):dd prog 75 cs o=cI 2 (cs.drop o):=mA underlying75 rfl vx cs o
def xj:cS prog 75=some [(.aq []),(.int .i64 0)]:=aB
def zaP:cP 75 0 0 9/\cP 75 1 1 3:=⟨cU,cU⟩
def lJ:=ad @vx (ad @zaO (ad @xi (ad @xj (@zaP))))
def I0:bE prog 78=some 17:=aB
def NL:dt prog 78=some 248:=aB
def zaQ(cs:qt)(o:Nat):dd prog 78 cs o=cI 17 (cs.drop o):=mA underlying78 rfl I0 cs o
def NM:cS prog 78=some [(.int .i64 0),(.aq []),(.aq []),(.int .i64 0),(.int .i64 0),(.int .i64 0),(.aq []),(.int .i64 0),.ak,(.int .i64 0),(.int .i64 0),(.aq []),(.int .i64 0),.ak,.ak,.ak,.ak]:=aB
def zaR:cP 78 0 0 3/\cP 78 1 1 9/\cP 78 2 2 9/\cP 78 3 3 3/\cP 78 4 4 70/\cP 78 5 9 70/\cP 78 6 14 68/\cP 78 7 15 67/\cP 78 8 16 67:=⟨cU,cU,cU,cU,cU,cU,cU,cU,cU⟩
def gF:=ad @I0 (ad @zaQ (ad @NL (ad @NM (@zaR))))
def NN:bE prog 82=some 2:=aB
def zaS:dt prog 82=some 32:=aB
def zaT(cs:qt)(o:Nat):dd prog 82 cs o=cI 2 (cs.drop o):=mA underlying82 rfl NN cs o
def zaU:cS prog 82=some [.ak,(.int .i64 0)]:=aB
def zaV:cP 82 0 0 26/\cP 82 1 1 3:=⟨cU,cU⟩
def yR:=ad @NN (ad @zaT (ad @zaS (ad @zaU (@zaV))))
def NO:bE prog 87=some 2:=aB
def zaW:dt prog 87=some 16:=aB
def zaX(cs:qt)(o:Nat):dd prog 87 cs o=cI 2 (cs.drop o):=mA underlying87 rfl NO cs o
def zaY:cS prog 87=some [(.int .i64 0),(.int .i64 0)]:=aB
def zaZ:cP 87 0 0 46/\cP 87 1 1 3:=⟨cU,cU⟩
def I2:=ad @NO (ad @zaX (ad @zaW (ad @zaY (@zaZ))))
def za0:bE prog 98=some 1:=aB
def za1:dt prog 98=some 8:=aB
def za2(cs:qt)(o:Nat):dd prog 98 cs o=cs[o]?:=iD underlying98 rfl cs o
def za3:cS prog 98=some [.bi]:=aB
def yS:=ad @za0 (ad @za2 (ad @za1 (@za3)))
def NP:bE prog 101=some 10:=aB
def za4:dt prog 101=some 144:=aB
def za5(cs:qt)(o:Nat):dd prog 101 cs o=cI 10 (cs.drop o):=mA underlying101 rfl NP cs o
def za6:cS prog 101=some [.ak,.ak,.bi,.bi,.ak,.bi,.bi,.ak,(.int .i64 0),(.int .i64 0)]:=aB
def za7:cP 101 0 0 25/\cP 101 1 2 98/\cP 101 2 3 98/\cP 101 3 4 42/\cP 101 4 5 98/\cP 101 5 6 98/\cP 101 6 7 26/\cP 101 7 8 3/\cP 101 8 9 3:=⟨cU,cU,cU,cU,cU,cU,cU,cU,cU⟩
def D4:=ad @NP (ad @za5 (ad @za4 (ad @za6 (@za7))))
def za8:bE prog 104=some 1:=aB
def za9:dt prog 104=some 24:=aB
def zba(cs:qt)(o:Nat):dd prog 104 cs o=cs[o]?:=iD underlying104 rfl cs o
def zbb:cS prog 104=some [.ak]:=aB
def zbc:mZ 104 1:=fun r o l z _ I k=>mY underlying104 (show bE prog 148=some 1 from by kernel_rfl) r o l z I k
def zbd:mB 104 1:=m1 underlying104 (show bE prog 148=some 1 from by kernel_rfl)
def NQ:=ad @za8 (ad @zba (ad @za9 (ad @zbb (ad @zbc (@zbd)))))
def zbe:bE prog 128=some 1:=aB
def zbf:dt prog 128=some 24:=aB
def zbg(cs:qt)(o:Nat):dd prog 128 cs o=cs[o]?:=iD underlying128 rfl cs o
def zbh:cS prog 128=some [.ak]:=aB
def zbi:mZ 128 3:=fun r o l z _ I k=>mY underlying128 (show bE prog 178=some 3 from by kernel_rfl) r o l z I k
def zbj:mB 128 3:=m1 underlying128 (show bE prog 178=some 3 from by kernel_rfl)
def I4:=ad @zbe (ad @zbg (ad @zbf (ad @zbh (ad @zbi (@zbj)))))
def NR:bE prog 140=some 7:=aB
def zbk:dt prog 140=some 136:=aB
def zbl(cs:qt)(o:Nat):dd prog 140 cs o=cI 7 (cs.drop o):=mA underlying140 rfl NR cs o
def zbm:cS prog 140=some [.ak,.ak,.ak,.ak,.ak,(.int .i64 0),(.int .i64 0)]:=aB
def zbn:cP 140 0 0 25/\cP 140 1 2 42/\cP 140 2 3 66/\cP 140 3 4 26/\cP 140 4 5 3/\cP 140 5 6 3:=⟨cU,cU,cU,cU,cU,cU⟩
def tl:=ad @NR (ad @zbl (ad @zbk (ad @zbm (@zbn))))
def D5:bE prog 148=some 1:=aB
def NS:dt prog 148=some 4:=aB
def zbo(cs:qt)(o:Nat):dd prog 148 cs o=cs[o]?:=iD underlying148 rfl cs o
def NT:cS prog 148=some [(.int .u32 0)]:=aB
def NU:=ad @D5 (ad @zbo (ad @NS (@NT)))
def D6:bE prog 149=some 1:=aB
def I5:dt prog 149=some 24:=aB
def zbp(cs:qt)(o:Nat):dd prog 149 cs o=cs[o]?:=iD underlying149 rfl cs o
def I6:cS prog 149=some [.ak]:=aB
def zbq:mZ 149 1:=fun r o l z _ I k=>mY underlying149 (show bE prog 4=some 1 from by kernel_rfl) r o l z I k
def zbr:mB 149 1:=m1 underlying149 (show bE prog 4=some 1 from by kernel_rfl)
def xl:=ad @D6 (ad @zbp (ad @I5 (ad @I6 (ad @zbq (@zbr)))))
def zbs:bE prog 151=some 1:=aB
def zbt:dt prog 151=some 24:=aB
def zbu(cs:qt)(o:Nat):dd prog 151 cs o=cs[o]?:=iD underlying151 rfl cs o
def zbv:cS prog 151=some [.ak]:=aB
def zbw:mZ 151 1:=fun r o l z _ I k=>mY underlying151 (show bE prog 149=some 1 from by kernel_rfl) r o l z I k
def zbx:mB 151 1:=m1 underlying151 (show bE prog 149=some 1 from by kernel_rfl)
def NV:=ad @zbs (ad @zbu (ad @zbt (ad @zbv (ad @zbw (@zbx)))))
def zby:bE prog 154=some 1:=aB
def zbz:dt prog 154=some 8:=aB
def zbA(cs:qt)(o:Nat):dd prog 154 cs o=cs[o]?:=iD underlying154 rfl cs o
def zbB:cS prog 154=some [(.int .u64 0)]:=aB
def NW:=ad @zby (ad @zbA (ad @zbz (@zbB)))
def NX:bE prog 169=some 4:=aB
def zbC:dt prog 169=some 96:=aB
def zbD(cs:qt)(o:Nat):dd prog 169 cs o=cI 4 (cs.drop o):=mA underlying169 rfl NX cs o
def zbE:cS prog 169=some [.ak,.ak,.ak,.ak]:=aB
def zbF:cP 169 0 0 66/\cP 169 1 1 66/\cP 169 2 2 25:=⟨cU,cU,cU⟩
def I7:=ad @NX (ad @zbD (ad @zbC (ad @zbE (@zbF))))
def D7:bE prog 178=some 3:=aB
def I8:dt prog 178=some 32:=aB
def zbG(cs:qt)(o:Nat):dd prog 178 cs o=cI 3 (cs.drop o):=mA underlying178 rfl D7 cs o
def I9:cS prog 178=some [(.int .i64 0),(.aq []),(.int .i64 0)]:=aB
def zbH:cP 178 0 0 3/\cP 178 1 1 9/\cP 178 2 2 3:=⟨cU,cU,cU⟩
def D8:=ad @D7 (ad @zbG (ad @I8 (ad @I9 (@zbH))))
def zbI:bE prog 180=some 1:=aB
def zbJ:dt prog 180=some 8:=aB
def zbK(cs:qt)(o:Nat):dd prog 180 cs o=cs[o]?:=iD underlying180 rfl cs o
def zbL:cS prog 180=some [(.int .u64 0)]:=aB
def zbM:=ad @zbI (ad @zbK (ad @zbJ (@zbL)))
def zbN:bE prog 194=some 1:=aB
def zbO:dt prog 194=some 8:=aB
def zbP(cs:qt)(o:Nat):dd prog 194 cs o=cs[o]?:=iD underlying194 rfl cs o
def zbQ:cS prog 194=some [.bL]:=aB
def NY:=ad @zbN (ad @zbP (ad @zbO (@zbQ)))
def zbR:bE prog 200=some 1:=aB
def zbS:dt prog 200=some 8:=aB
def zbT(cs:qt)(o:Nat):dd prog 200 cs o=cs[o]?:=iD underlying200 rfl cs o
def zbU:cS prog 200=some [.bi]:=aB
def D9:=ad @zbR (ad @zbT (ad @zbS (@zbU)))
def NZ:bE prog 204=some 16:=aB
def zbV:dt prog 204=some 128:=aB
def zbW(cs:qt)(o:Nat):dd prog 204 cs o=cI 16 (cs.drop o):=mA underlying204 rfl NZ cs o
def zbX:cS prog 204=some [(.int .i64 0),(.int .i64 0),(.int .i64 0),(.int .i64 0),(.int .i64 0),(.int .i64 0),(.int .i64 0),(.int .i64 0),(.int .i64 0),(.int .i64 0),(.int .i64 0),(.int .i64 0),(.int .i64 0),(.int .i64 0),(.int .i64 0),(.int .i64 0)]:=aB
def zbY:=ad @NZ (ad @zbW (ad @zbV (@zbX)))
def N0:bE prog 223=some 8:=aB
def zbZ:dt prog 223=some 8:=aB
def zb0(cs:qt)(o:Nat):dd prog 223 cs o=cI 8 (cs.drop o):=mA underlying223 rfl N0 cs o
def zb1:cS prog 223=some [(.bool false),(.bool false),(.bool false),(.bool false),(.bool false),(.bool false),(.bool false),(.bool false)]:=aB
def zb2:cP 223 0 0 4/\cP 223 1 1 4/\cP 223 2 2 4/\cP 223 3 3 4/\cP 223 4 4 4/\cP 223 5 5 4/\cP 223 6 6 4/\cP 223 7 7 4:=⟨cU,cU,cU,cU,cU,cU,cU,cU⟩
def N2:=ad @N0 (ad @zb0 (ad @zbZ (ad @zb1 (@zb2))))
def zb3:bE prog 228=some 1:=aB
def zb4:dt prog 228=some 24:=aB
def zb5(cs:qt)(o:Nat):dd prog 228 cs o=cs[o]?:=iD underlying228 rfl cs o
def zb6:cS prog 228=some [.ak]:=aB
def zb7:mZ 228 1:=fun r o l z _ I k=>mY underlying228 (show bE prog 66=some 1 from by kernel_rfl) r o l z I k
def zb8:mB 228 1:=m1 underlying228 (show bE prog 66=some 1 from by kernel_rfl)
def Ja:=ad @zb3 (ad @zb5 (ad @zb4 (ad @zb6 (ad @zb7 (@zb8)))))
def N4:bE prog 255=some 7:=aB
def zb9:dt prog 255=some 112:=aB
def zca(cs:qt)(o:Nat):dd prog 255 cs o=cI 7 (cs.drop o):=mA underlying255 rfl N4 cs o
def zcb:cS prog 255=some [(.aq []),(.aq []),(.aq []),(.aq []),(.aq []),(.aq []),(.aq [])]:=aB
def zcc:=ad @N4 (ad @zca (ad @zb9 (@zcb)))
def zcd(H:Hp)(k:IntKind)(n:Int):mM prog H 2 154 (.int k n)=some (.int .u64 (IntKind.wrap .u64 n)):=yL
def zce(H:Hp)(k:IntKind)(n:Int):mM prog H 2 180 (.int k n)=some (.int .u64 (IntKind.wrap .u64 n)):=yL
def zcf(H:Hp)(k:IntKind)(n:Int):mM prog H 3 5 (.int k n)=some (.int .u8 (IntKind.wrap .u8 n)):=yL
def zcg(H:Hp)(k:IntKind)(n:Int):mM prog H 3 154 (.int k n)=some (.int .u64 (IntKind.wrap .u64 n)):=yL
def zch(H:Hp)(k:IntKind)(n:Int):mM prog H 3 180 (.int k n)=some (.int .u64 (IntKind.wrap .u64 n)):=yL
def zci(H:Hp)(k:IntKind)(n:Int):mM prog H 180 5 (.int k n)=some (.int .u8 (IntKind.wrap .u8 n)):=yL
end Go.Proofs.YtbflaciihaijgaaGreat
namespace Go.Ab
set_option maxRecDepth 20000
open Go
variable {P:Program} {cfg:Cfg} {f N:Nat}
variable{a:Nat}{E:ax}{H:Hp}{Q:AX->ax->Hp->Prop}{p:Nat->Prop}
def bY{a:SC}(cs rs:qD)(Z n:Nat)(J:Nat->ax->Hp->Prop)(U:E.at Z=.int .i64 0)(V:J 0 E H)
 (h:∀(i:Nat) (E':ax) (H':Hp),i<=n->(∀k∈cs,E'.at k=E.at k)->(∀r∈rs,H'.get r=H.get r)->H.next<=H'.next->E'.at Z=.int .i64 i->J i E' H' ->
   cb P cfg f N a E' H' (mX Q fun j Y=>i<n/\(∀k∈cs,j.at k=E.at k)/\(∀r∈rs,Y.get r=H.get r)/\H.next<=Y.next/\j.at Z=.int .i64 ((i+1:Nat):Int)/\J (i+1) j Y)):cb P cfg f N (.loop a) E H Q:=
 sm (fun i E' H'=>(∀k∈cs,E'.at k=E.at k)/\(∀r∈rs,H'.get r=H.get r)/\H.next<=H'.next/\E'.at Z=.int .i64 i/\J i E' H') n (fun i E' H' C ⟨O,g,m,M,L⟩=>h i E' H' C O g m M L) ⟨fun _ _=>rfl,fun _ _=>rfl,aH _,U,V⟩
def zcj{a:SC}(cs rs:qD)(J:Nat->ax->Hp->Prop)(n:Nat)(V:J n E H)
 (h:∀(i:Nat) (E':ax) (H':Hp),(∀k∈cs,E'.at k=E.at k)->(∀r∈rs,H'.get r=H.get r)->H.next<=H'.next->J i E' H' ->
   cb P cfg f N a E' H' (mX Q fun j Z=>(∀k∈cs,j.at k=E.at k)/\(∀r∈rs,Z.get r=H.get r)/\H.next<=Z.next/\∃m,m<i/\J m j Z)):cb P cfg f N (.loop a) E H Q:=
 AY (fun i E' H'=>(∀k∈cs,E'.at k=E.at k)/\(∀r∈rs,H'.get r=H.get r)/\H.next<=H'.next/\J i E' H') (fun i E' H' ⟨Y,g,U,O⟩=>cb.mono (fun x j Z L=>by
  cases x with
  |normal=>obtain⟨q1,q2,z,m,M,I⟩:=L;exact⟨m,M,q1,q2,z,I⟩
  |exit id=>exact L
  |ret=>exact L) (h i E' H' Y g U O)) (n:=n) ⟨fun _ _=>rfl,fun _ _=>rfl,aH _,V⟩
def bq{l:qD}:(∀k∈a::l,p k)↔p a/\∀k∈l,p k:=DN
def aT:(∀k∈([]:qD),p k)↔True:=⟨fun _=>trivial,fun _ _ h=>mS⟩
def aX{b:Nat}(h:a≠b):(a == b)=false:=jf
def gX{i n:Nat}(h:i<n)(I:n<2^62):AV.int .i64 (IntKind.wrap .i64 ((i:Int)+1))=.int .i64 ((i+1:Nat):Int):=by rw[iT ac]
end Go.Ab
