/- Lemmas for the last file. -/
import Derived.IntWalk
import Derived.KernelRfl
import Derived.Test.YtbflaciihaijgaaRows
import Derived.Test.YtbflaciihaijgaaSED
set_option linter.all false
set_option maxHeartbeats 32000000
namespace Go.Ab
set_option maxRecDepth 20000
open Go
variable{qb:Prop}
def iP(h:qb:=by simp[ct,jT,dI]):=h
def rh(h:qb:=by unfold dr;rw[h]):=h
def k6(h:qb:=by rw[Ex.ah];rfl):=h
def ej(h:qb:=by rw[St.ah];rfl):=h
def ii(h:qb:=by rw[Fu.ah];rfl):=h
def ri(h:qb:=by rw[Ar.ah];rfl):=h
def rj(h:qb:=by rw[Pr.ah];rfl):=h
def ox(h:qb:=by rw[Tk.ah];rfl):=h
def oy(h:qb:=by rw[Nd.ah];rfl):=h
def k7(h:qb:=by rw[Gr.ah];rfl):=h
def rk(h:qb:=by rw[Un.ah];rfl):=h
def wC(h:qb:=by simp only[aJ,jw,beq_self_eq_true,cond_true]):=h
def az(h:qb:=by kernel_rfl):=h
def oz(h:qb:=by cases k<;>kernel_rfl):=h
def rl:=@cond_false
def mn:=@Int.eq_ofNat_of_zero_le
def la:=@Bool.and_true
def ac:=@And.intro
def rn:=@Bool.not_false
def oA:=@Bool.true_and
def df:=@and_true
def tI:=@List.forall_mem_cons
end Go.Ab
namespace Go.Ab
set_option maxRecDepth 20000
open Go
structure SOp where
 d:qt
 op:Op
 g:Option (Nat×Bool)
inductive SC where
 |skip|ret|bad
 |dm (l:List SOp)
 |bl (id:Nat) (l:qj)
 |seq (a b:SC)
 |cond (x:Operand) (a b:SC)
 |block (id:Nat) (a:SC)
 |loop (a:SC)
 |exit (id:Nat)
variable{K:AV->Hp->Prop}{Q:ae->Hp->Prop}{d:TypeDesc}{o s m r i:Nat}{l:List SOp}{v a:AV}{b:Bool}{t e:TypeId}{c:Call}{vs z cs:qh}{g:FuncId}{O:Array (Nat×Operand)}{U:Option Operand}{A M:qk}{ih:zad->Res}{ops:qj}{k:IntKind}{x:Operand}{Y:qy}{F:Hp}
def bV(N:Nat):Option Tmp->Option qt
 |none=>some none
 |some d=>match Nat.blt d N with
  |true=>some (some d)
  |false=>none
def bW(Y:qj):Option (Nat×Bool)->Option (Option (Nat×Bool))
 |none=>some none
 |some (j,b)=>match (Y[j]?).bind (·.dst)with
  |some d=>some (some (d,b))
  |none=>none
def bB(N:Nat)(Y:qj):qj->Option (List SOp)
 |[]=>some []
 |o::l=>match bV N o.dst,bW Y o.guard,bB N Y l with
  |some d,some g,some r=>some (⟨d,o.op,g⟩::r)
  |_,_,_=>none
def bL(l:Option (List SOp)):SC:=match l with
 |some l=>.dm l
 |none=>.bad
def aI(N:Nat):Code->SC
 | .skip=>.skip
 | .region id ops draw=>match draw with
   |false=>bL (bB N ops.toList ops.toList)
   |true=>.bl id ops.toList
 | .seq a b=>.seq (aI N a) (aI N b)
 | .cond x a b=>.cond x (aI N a) (aI N b)
 | .block id a=>.block id (aI N a)
 | .loop a=>.loop (aI N a)
 | .exit id=>.exit id
 | .ret=>.ret
 |_=>.bad
section
variable (P:Program) (cfg:Cfg) (f N:Nat)
def aL(g:FuncId)(o:qh)(H:Hp)(Q:AV->Hp->Prop):Prop:=∃v H',bF P cfg (.call g o H) (.val v H')/\Q v H'
def dk(op:Op)(E:ae)(H:Hp)(K:AV->Hp->Prop):Prop:=∃n v H',b6 P cfg (bP P cfg n) f E H op=.val v H'/\K v H'
noncomputable def aJ(E:ae):qt->AV->ae
 |some d,v=>T.set E d (some v)
 |none,_=>E
def am:List SOp->ae->Hp->(ae->Hp->Prop)->Prop
 |[],E,H,Q=>Q E H
 |o::l,E,H,Q=>match o.g with
  |none=>dk P cfg f o.op E H fun v H'=>am l (aJ E o.d v) H' Q
  |some (s,b)=>(E.at s=.bool b/\dk P cfg f o.op E H fun v H'=>am l (aJ E o.d v) H' Q)\/((E.at s=.bool (!b)\/E.at s=b5)/\am l (aJ E o.d b5) H Q)
def bc(c:SC)(E:ae)(H:Hp)(Q:AX->ae->Hp->Prop):Prop:=∀code,aI N code=c->∃x E' H',bF P cfg (.aj f N code E H) (.done x E' H')/\Q x E' H'
end
section
variable {P:Program} {cfg:Cfg} {f N:Nat}
def dk.mono{op:Op}{E:ae}{H:Hp}{I:AV->Hp->Prop}(h:∀v H',K v H'->I v H')(A:dk P cfg f op E H K):dk P cfg f op E H I:=by
 obtain⟨n,v,H',m,o⟩:=A;exact⟨n,v,H',m,h v H' o⟩
def bc.mono{c:SC}{E:ae}{H:Hp}{Q A:AX->ae->Hp->Prop}(h:∀x E H,Q x E H->A x E H)(m:bc P cfg f N c E H Q):bc P cfg f N c E H A:=fun code hc=>by
 obtain⟨x,E',H',Z,o⟩:=m code hc;exact⟨x,E',H',Z,h _ _ _ o⟩
def oB:=@bc.mono
def bc.skip{E:ae}{H:Hp}{Q:AX->ae->Hp->Prop}(h:Q .normal E H):bc P cfg f N .skip E H Q:=fun code hc=>by
 cases code with
 |skip=>exact⟨_,_,_,bF.skip,h⟩
 |region id ops draw=>cases draw<;>simp only[aI,bL,reduceCtorEq]at hc;split at hc<;>simp at hc
 |_=>simp[aI]at hc
def bc.ret{E:ae}{H:Hp}{Q:AX->ae->Hp->Prop}(h:Q .ret E H):bc P cfg f N .ret E H Q:=fun code hc=>by
 cases code with
 |ret=>exact⟨_,_,_,bF.ret,h⟩
 |region id ops draw=>cases draw<;>simp only[aI,bL,reduceCtorEq]at hc;split at hc<;>simp at hc
 |_=>simp[aI]at hc
def bc.exit{id:Nat}{E:ae}{H:Hp}{Q:AX->ae->Hp->Prop}(h:Q (.exit id) E H):bc P cfg f N (.exit id) E H Q:=fun code hc=>by
 cases code with
 |exit Z=>simp only[aI,SC.exit.injEq]at hc;subst hc;exact⟨_,_,_,bF.exit,h⟩
 |region id ops draw=>cases draw<;>simp only[aI,bL,reduceCtorEq]at hc;split at hc<;>simp at hc
 |_=>simp[aI]at hc
def jv(Q:AX->ae->Hp->Prop)(K:ae->Hp->Prop):AX->ae->Hp->Prop
 | .normal,E,H=>K E H
 | .exit id,E,H=>Q (.exit id) E H
 | .ret,E,H=>Q .ret E H
def bc.seq{a b:SC}{E:ae}{H:Hp}{Q:AX->ae->Hp->Prop}(h:bc P cfg f N a E H (jv Q fun E H=>bc P cfg f N b E H Q)):bc P cfg f N (.seq a b) E H Q:=fun code hc=>by
 cases code with
 |seq p q=>
  simp only[aI,SC.seq.injEq]at hc;obtain⟨x,E1,H1,m,o⟩:=h p hc.1;cases x with
  |normal=>
   obtain⟨x,I,V,F,Y⟩:=o q hc.2;exact⟨x,I,V,bF.seq m F,Y⟩
  |exit id=>exact⟨_,_,_,wA m aK,o⟩
  |ret=>exact⟨_,_,_,wA m aK,o⟩
 |region id ops draw=>cases draw<;>simp only[aI,bL,reduceCtorEq]at hc;split at hc<;>simp at hc
 |_=>simp[aI]at hc
def ag:=@bc.seq
def bc.cond{x:Operand}{a b:SC}{E:ae}{H:Hp}{Q:AX->ae->Hp->Prop}{t:Bool}(Z:ay E x=some (.bool t))(m:t=true->bc P cfg f N a E H Q)(o:t=false->bc P cfg f N b E H Q):
 bc P cfg f N (.cond x a b) E H Q:=fun code hc=>by
 cases code with
 |cond y p q=>
  simp only[aI,SC.cond.injEq]at hc;obtain⟨rfl,F,W⟩:=hc;cases t with
  |true=>
   obtain⟨x,E1,H1,Y,U⟩:=m rfl p F;exact⟨x,E1,H1,BC Z Y,U⟩
  |false=>
   obtain⟨x,E1,H1,Y,U⟩:=o rfl q W;exact⟨x,E1,H1,BD Z Y,U⟩
 |region id ops draw=>cases draw<;>simp only[aI,bL,reduceCtorEq]at hc;split at hc<;>simp at hc
 |_=>simp[aI]at hc
def rp(id:Nat)(Q:AX->ae->Hp->Prop):AX->ae->Hp->Prop
 | .normal,E,H=>Q .normal E H
 | .exit Z,E,H=>if Z=id then Q .normal E H else Q (.exit Z) E H
 | .ret,E,H=>Q .ret E H
def bc.block{id:Nat}{a:SC}{E:ae}{H:Hp}{Q:AX->ae->Hp->Prop}(h:bc P cfg f N a E H (rp id Q)):bc P cfg f N (.block id a) E H Q:=fun code hc=>by
 cases code with
 |block Z p=>
  simp only[aI,SC.block.injEq]at hc;obtain⟨rfl,F⟩:=hc;obtain⟨x,E1,H1,Y,U⟩:=h p F;cases x with
  |normal=>exact⟨_,_,_,BE Y,U⟩
  |ret=>exact⟨_,_,_,BF Y,U⟩
  |exit k=>
   simp only[rp]at U;split at U
   .rename_i e;subst e;exact⟨_,_,_,bF.block Y,U⟩
   .rename_i e;exact⟨_,_,_,BG (by cases C:Nat.beq k Z with|true=>exact(e (dN C)).elim|false=>rfl) Y,U⟩
 |region id ops draw=>cases draw<;>simp only[aI,bL,reduceCtorEq]at hc;split at hc<;>simp at hc
 |_=>simp[aI]at hc
def au:=@bc.block
def bc.loop{a:SC}{Q:AX->ae->Hp->Prop}(I:Nat->ae->Hp->Prop)(h:∀n E H,I n E H->bc P cfg f N a E H (jv Q fun E H=>∃m,m<n/\I m E H)){n:Nat}{E:ae}{H:Hp}(M:I n E H):bc P cfg f N (.loop a) E H Q:=by
 induction n using Nat.strongRecOn generalizing E H with
 |_ n ih=>
  intro code hc;cases code with
  |loop p=>
   simp only[aI,SC.loop.injEq]at hc;obtain⟨x,E1,H1,Y,U⟩:=h n E H M p hc;cases x with
   |normal=>
    obtain⟨m,W,Z⟩:=U;obtain⟨x,V,S,L,O⟩:=ih m W Z (.loop p) (by simp[aI,hc]);exact⟨x,V,S,bF.loop Y L,O⟩
   |exit id=>exact⟨_,_,_,wB Y aK,U⟩
   |ret=>exact⟨_,_,_,wB Y aK,U⟩
  |region id ops draw=>cases draw<;>simp only[aI,bL,reduceCtorEq]at hc;split at hc<;>simp at hc
  |_=>simp[aI]at hc
def j7{a:SC}{Q:AX->ae->Hp->Prop}(I:Nat->ae->Hp->Prop)(A:Nat)(h:∀i E H,i<=A->I i E H->bc P cfg f N a E H (jv Q fun E H=>i<A/\I (i+1) E H)){E:ae}{H:Hp}(M:I 0 E H):bc P cfg f N (.loop a) E H Q:=
 bc.loop (fun n E H=>n<=A/\I (A-n) E H) (fun n E H m=>oB (fun x E' H' Z=>by
  cases x with
  |normal=>
   obtain⟨Y,o⟩:=Z;have:=m.1;refine⟨n-1,aa,aa,?_⟩;rw[show A-(n-1)=A-n+1 by omega];exact o
  |exit id=>exact Z
  |ret=>exact Z) (h (A-n) E H (Nat.sub_le _ _) m.2)) (n:=A) ⟨aA _,by rw[nG];exact M⟩
def rq{N:Nat}{S:Option Tmp}{d:qt}(h:bV N S=some d)(E:ae)(v:AV):cF N E S v=some (aJ E d v):=by
 cases S with
 |none=>simp only[bV,ak]at h;subst h;rfl
 |some t=>
  simp only[bV]at h;split at h
  .rename_i C;simp only[ak]at h;subst h;simp only[cF,C,aJ]
  .simp at h
def wD{Y:qj}{E:ae}{o:Oper}{g:Option (Nat×Bool)}(h:bW Y o.guard=some g):
 (g=none->dJ Y E o=true)/\∀s b,g=some (s,b)->(E.at s=.bool b->dJ Y E o=true)/\(E.at s=.bool (!b)\/E.at s=b5->dJ Y E o=false):=by
 unfold dJ;cases L:o.guard with
 |none=>
  rw[L]at h;simp only[bW,ak]at h;subst h;exact⟨fun _=>rfl,fun s b e=>by simp at e⟩
 |some V=>
  obtain⟨j,b⟩:=V;rw[L]at h;simp only[bW]at h;split at h
  .rename_i d hd;simp only[ak]at h;subst h;refine⟨fun e=>by simp at e,fun s b' e=>?_⟩;simp only[bm]at e;obtain⟨rfl,rfl⟩:=e;simp only[pC,hd];refine⟨fun e=>by rw[e];simp,fun e=>by rcases e with e|e<;>rw[e]<;>simp[b5]⟩
  .simp at h
theorem am.run{Y:qj}{Q:ae->Hp->Prop}:∀{l:qj}{r:List SOp}{E:ae}{H:Hp},bB N Y l=some r->am P cfg f r E H Q ->
 ∃n E' H',eg P cfg (bP P cfg n) f N Y l E H=.done .normal E' H'/\Q E' H'
 |[],r,E,H,hs,A=>by
  simp only[bB,ak]at hs;subst hs;exact⟨0,E,H,rfl,A⟩
 |o::l,r,E,H,hs,A=>by
  simp only[bB]at hs;split at hs
  .rename_i d g r' M h2 F;simp only[ak]at hs;subst hs;obtain⟨w1,J⟩:=wD (E:=E) h2;have W:∀{K:Prop},dk P cfg f o.op E H (fun v H'=>am P cfg f r' (aJ E d v) H' Q)->dJ Y E o=true->∃n E' H',eg P cfg (bP P cfg n) f N Y (o::l) E H=.done .normal E' H'/\Q E' H':=fun{K} hw Z=>by
    obtain⟨n,v,H1,C,g2⟩:=hw;obtain⟨m,I,S,U,O⟩:=am.run F g2;refine⟨max n m,I,S,?_,O⟩;have V:∀k k',k<=k'->gw (bP P cfg k) (bP P cfg k'):=fun k k' hk t ht=>tH hk ht;rw[ow,Z];simp only[];rw[p9 (V n (max n m) (pX _ _)) (by rw[C];simp),C];simp only[rq M,ez];rw[rb (V m (max n m) (pY _ _)) (by rw[U];simp),U]
   unfold am at A;cases L:g with
   |none=>
    rw[L]at A;exact W (K:=True) A (w1 L)
   |some sb=>
    obtain⟨s,b⟩:=sb;rw[L]at A;simp only[]at A;rcases A with⟨e,A⟩|⟨e,A⟩
    .exact W (K:=True) A ((J s b L).1 e)
    .obtain⟨m,I,S,U,O⟩:=am.run F A;refine⟨m,I,S,?_,O⟩;rw[ow,(J s b L).2 e];simp only[rq M,ez];exact U
  .simp at hs
def bc.dm{l:List SOp}{E:ae}{H:Hp}{Q:AX->ae->Hp->Prop}(h:am P cfg f l E H (Q .normal)):bc P cfg f N (.dm l) E H Q:=fun code hc=>by
 cases code with
 |region id ops draw=>
  cases draw with
  |true=>simp[aI]at hc
  |false=>
   simp only[aI,bL]at hc;split at hc
   .rename_i r hr;simp only[SC.dm.injEq]at hc;subst hc;obtain⟨n,E',H',m,o⟩:=am.run hr h;exact⟨_,_,_,bF.region m aK,o⟩
   .simp at hc
 |_=>simp[aI]at hc
def ah{E:ae}{H:Hp}{Q:AX->ae->Hp->Prop}(h:∀K:ae->Hp->Prop,(∀E' H',Q .normal E' H'->K E' H')->am P cfg f l E H K):bc P cfg f N (.dm l) E H Q:=
 bc.dm (h _ fun _ _ h=>h)
def am.nil{E:ae}{H:Hp}(h:Q E H):am P cfg f [] E H Q:=h
def dk.plain{op:Op}{E:ae}{H H':Hp}(h:bE P cfg.bC E H op=some (v,H'))(S:∀c,op≠.call c)(A:K v H'):dk P cfg f op E H K:=
 ⟨0,v,H',(k0 S).2 h,A⟩
def rr:Op->Bool
 | .call _=>false
 |_=>true
def wE{op:Op}(h:rr op=true):∀c,op≠.call c:=fun c e=>by subst e;simp[rr]at h
def am.op{d:Nat}{op:Op}{E:ae}{H H':Hp}(S:rr op=true)(h:bE P cfg.bC E H op=some (v,H'))(A:am P cfg f l (T.set E d (some v)) H' Q):am P cfg f (⟨some d,op,none⟩::l) E H Q:=
 dk.plain h (wE S) A
def dv:=@am.op
def wF{op:Op}{E:ae}{H H':Hp}(S:rr op=true)(h:bE P cfg.bC E H op=some (v,H'))(A:am P cfg f l E H' Q):am P cfg f (⟨none,op,none⟩::l) E H Q:=
 dk.plain h (wE S) A
theorem am.guard{d:qt}{op:Op}{t:Bool}{E:ae}{H:Hp}(h:E.at s=.bool t)(m:t=b->am P cfg f (⟨d,op,none⟩::l) E H Q)(o:t=!b->am P cfg f l (aJ E d b5) H Q):
 am P cfg f (⟨d,op,some (s,b)⟩::l) E H Q:=by
 unfold am;by_cases e:t=b
 .exact .inl ⟨by rw[h,e],m e⟩
 .have:t=!b:=by cases t<;>cases b<;>simp_all
  exact .inr ⟨.inl (by rw[h,this]),o this⟩
def wG{d:qt}{op:Op}{E:ae}{H:Hp}(h:some (E.at s)=some v)(M:v=b5)(o:am P cfg f l (aJ E d b5) H Q):
 am P cfg f (⟨d,op,some (s,b)⟩::l) E H Q:=by
 subst M;unfold am;exact .inr ⟨.inr eF,o⟩
def am.call{d:qt}{g:Operand}{k:FuncId}{cap:qh}{E:ae}{H:Hp}(Z:c.callee=.value g)(L:ay E g=some (.bj k cap))(M:cN E c.args.toList=some vs)
 (h:aL P cfg k (vs++cap) H fun v H'=>am P cfg f l (aJ E d v) H' Q):am P cfg f (⟨d,.call c,none⟩::l) E H Q:=by
 obtain⟨v,H',⟨_,n,m⟩,o⟩:=h;refine⟨n,v,H',?_,o⟩;simp only[b6,iF,Z,L,M];exact m
def aS:=@am.call
def am.builtin{d:qt}{b:Builtin}{E:ae}{H H':Hp}(Z:c.callee=.builtin b)(M:cN E c.args.toList=some vs)
 (h:fQ P (cfg.az f) H b c.argTypes.toList vs=some (v,H')) (A:am P cfg f l (aJ E d v) H' Q):am P cfg f (⟨d,.call c,none⟩::l) E H Q:=by
 refine⟨0,v,H',?_,A⟩;simp only[b6,iF,Z,M,h]
def mo:=@am.builtin
def rt{o:qh}{r:AV}{H:Hp}{Q:AV->Hp->Prop}(h:cfg.call g o=some r)(A:Q r H):aL P cfg g o H Q:=
 ⟨r,H,eS aK (n:=0) (by simp only[step,h]),A⟩
def aL.mono{o:qh}{H:Hp}{Q A:AV->Hp->Prop}(h:∀v H',Q v H'->A v H')(m:aL P cfg g o H Q):aL P cfg g o H A:=by
 obtain⟨v,H',Z,Y⟩:=m;exact⟨v,H',Z,h _ _ Y⟩
def aR:=@aL.mono
def aL.body{o:qh}{H:Hp}{m:Func}{c:Code}{Q:AV->Hp->Prop}(A:cfg.call g o=none)(I:cfg.aB g=false)(C:cfg.an g=false)(Z:P.funcs[g]?=some m)(Y:m.body=some c)
 (h:bc P cfg g (max m.ntmps o.length) (aI (max m.ntmps o.length) c) (ba 0 o (kK (max m.ntmps o.length))) H (fun x E' H'=>(x=.normal\/x=.ret)/\∃vs,cu P E' H' m.results.toList=some vs/\Q (aM vs) H')):aL P cfg g o H Q:=by
 obtain⟨x,E',H',W,U,vs,V,F⟩:=h c rfl;exact⟨aM vs,H',bF.call A I C Z Y W U (by unfold lX;rw[V]),F⟩
def bz{o:qh}{H:Hp}{m:Func}{c:Code}{s:SC}{M:Nat}{rs:List ResultVar}{Q:AV->Hp->Prop}(A:cfg.call g o=none)(I:cfg.aB g=false)(C:cfg.an g=false)(Z:P.funcs[g]?=some m)(Y:m.body=some c)(V:max m.ntmps o.length=M)
 (J:aI M c=s) (hr:m.results.toList=rs) (h:bc P cfg g M s (ba 0 o (kK M)) H (fun x E' H'=>(x=.normal\/x=.ret)/\∃vs,cu P E' H' rs=some vs/\Q (aM vs) H')):aL P cfg g o H Q:=by
 subst V J hr;exact aL.body A I C Z Y h
def tJ(fit:Fit P){ρ:Nat->Int}(F:fV cfg.bC ρ)(Z:∀f o r,cfg.call f o=some r->bN P ρ f o r){o:qh}{r:AV}{k:Nat}
 (J:iH k o=true) (h:aL P cfg g o bA fun v H'=>iceV H' m v=some r):bN P ρ g o r:=by
 obtain⟨v,H',⟨_,n,Y⟩,W⟩:=h;exact wv fit F Z (n:=n) (m:=m) J (by unfold pF;rw[Y];exact W)
section
variable {l:List SOp} {E:ae} {H H':Hp} {Q:ae -> Hp -> Prop} {d:Nat} {v a b:AV} {x y:Operand} {t u:TypeId}
def am.move(h:ay E x=some v)(A:am P cfg f l (T.set E d (some v)) H Q):am P cfg f (⟨some d,.move x,none⟩::l) E H Q:=dv rfl (by simp only[bE,Go.Ab.ret,h]) A
def am.assign(h:ay E x=some v)(A:am P cfg f l (T.set E d (some v)) H Q):am P cfg f (⟨some d,.assign x,none⟩::l) E H Q:=dv rfl (by simp only[bE,Go.Ab.ret,h]) A
def am.pick{z:Operand}{t:Bool}(h:ay E x=some (.bool t))(m:ay E y=some a)(o:ay E z=some b)(A:am P cfg f l (T.set E d (some (et t a b))) H Q):am P cfg f (⟨some d,.pick x y z,none⟩::l) E H Q:=
 dv rfl (by cases t<;>simp only[bE,pm,Go.Ab.ret,h,m,o]<;>rfl) A
def am.load(h:ay E x=some a)(m:dq P H t a=some v)(A:am P cfg f l (T.set E d (some v)) H Q):am P cfg f (⟨some d,.load t x,none⟩::l) E H Q:=dv rfl (by simp only[bE,nq,Go.Ab.ret,h,m]) A
def am.store(h:ay E x=some a)(m:ay E y=some b)(o:jg P H t a b=some H')(A:am P cfg f l E H' Q):am P cfg f (⟨none,.store t x y,none⟩::l) E H Q:=wF rfl (by simp only[bE,po,Go.Ab.ret,h,m,o];rfl) A
def am.nilCheck(h:ay E x=some (.ptr r o))(A:am P cfg f l (T.set E d (some (.ptr r o))) H Q):am P cfg f (⟨some d,.nilCheck x,none⟩::l) E H Q:=dv rfl (by simp only[bE,pp,h]) A
def am.bJ{op:BinOp}(h:ay E x=some a)(m:ay E y=some b)(o:ct P cfg.bC op t a b=some v)(A:am P cfg f l (T.set E d (some v)) H Q):am P cfg f (⟨some d,.binOp op t x y u,none⟩::l) E H Q:=
 dv rfl (by simp only[bE,pq,Go.Ab.ret,h,m,o]) A
def am.un{op:UnOp}(h:ay E x=some a)(o:jh op a=some v)(A:am P cfg f l (T.set E d (some v)) H Q):am P cfg f (⟨some d,.unOp op t x,none⟩::l) E H Q:=dv rfl (by simp only[bE,pr,Go.Ab.ret,h,o]) A
def am.convert(h:ay E x=some a)(o:gk P H t u a=some v)(A:am P cfg f l (T.set E d (some v)) H Q):am P cfg f (⟨some d,.convert t u x,none⟩::l) E H Q:=dv rfl (by simp only[bE,nr,Go.Ab.ret,h,o]) A
def am.fieldAddr(h:ay E x=some a)(o:jP P t a i=some v)(A:am P cfg f l (T.set E d (some v)) H Q):am P cfg f (⟨some d,.fieldAddr t x i,none⟩::l) E H Q:=dv rfl (by simp only[bE,pw,Go.Ab.ret,h,o]) A
def wH:=@am.fieldAddr
def am.field(h:ay E x=some a)(o:kD P t a i=some v)(A:am P cfg f l (T.set E d (some v)) H Q):am P cfg f (⟨some d,.field t x i,none⟩::l) E H Q:=dv rfl (by simp only[bE,px,Go.Ab.ret,h,o]) A
def am.indexAddr(h:ay E x=some a)(m:ay E y=some b)(o:cV P t a b=some v)(A:am P cfg f l (T.set E d (some v)) H Q):am P cfg f (⟨some d,.indexAddr t x y,none⟩::l) E H Q:=dv rfl (by simp only[bE,py,Go.Ab.ret,h,m,o]) A
def wI:=@am.indexAddr
def am.index(h:ay E x=some a)(m:ay E y=some b)(o:iC P t a b=some v)(A:am P cfg f l (T.set E d (some v)) H Q):am P cfg f (⟨some d,.index t x y,none⟩::l) E H Q:=dv rfl (by simp only[bE,pz,Go.Ab.ret,h,m,o]) A
def am.extract(h:ay E x=some a)(o:Ab.extract a i=some v)(A:am P cfg f l (T.set E d (some v)) H Q):am P cfg f (⟨some d,.extract x i,none⟩::l) E H Q:=dv rfl (by simp only[bE,pB,Go.Ab.ret,h,o]) A
def am.alloc{n:Nat}(h:bM P t=some z)(S:some H.next=some n)(A:am P cfg f l (T.set E d (some (.ptr n 0))) (H.alloc (.cells z 0 true)) Q):am P cfg f (⟨some d,.alloc t,none⟩::l) E H Q:=by
 simp only[ak]at S;subst S;exact dv rfl (by simp only[bE,nk,h]) A
def am.box{n:Nat}(h:ay E x=some a)(Z:some a.cells=some cs)(S:some H.next=some n)(A:am P cfg f l (T.set E d (some (.ptr n 0))) (H.alloc (.cells cs 0 true)) Q):am P cfg f (⟨some d,.box t x,none⟩::l) E H Q:=by
 simp only[ak]at Z S;subst Z S;exact dv rfl (by simp only[bE,nl,h]) A
def am.build{ps:qu}(h:eL E O.toList=some ps)(o:dA P t ps=some v)(A:am P cfg f l (T.set E d (some v)) H Q):am P cfg f (⟨some d,.build t O,none⟩::l) E H Q:=dv rfl (by simp only[bE,pn,Go.Ab.ret,h,o]) A
def am.buildSlice{n:Nat}{ps:qu}(h:eL E O.toList=some ps)(o:eu P H t n ps=some (v,H'))(A:am P cfg f l (T.set E d (some v)) H' Q):am P cfg f (⟨some d,.buildSlice t n O,none⟩::l) E H Q:=
 dv rfl (by simp only[bE,np,h,o]) A
def wJ:=@am.buildSlice
def am.makeMap{n:Nat}(S:some H.next=some n)(A:am P cfg f l (T.set E d (some (.map n))) (H.alloc (.map [])) Q):am P cfg f (⟨some d,.makeMap t none,none⟩::l) E H Q:=by
 simp only[ak]at S;subst S;exact dv rfl (by simp only[bE,ns]) A
def am.lookup{ok:Bool}(h:ay E x=some a)(m:ay E y=some b)(o:di P H t a b ok=some v)(A:am P cfg f l (T.set E d (some v)) H Q):am P cfg f (⟨some d,.lookup t x y ok,none⟩::l) E H Q:=dv rfl (by simp only[bE,ny,Go.Ab.ret,h,m,o]) A
def am.mapUpdate{z:Operand}{c:AV}(h:ay E x=some a)(m:ay E y=some b)(o:ay E z=some c)(F:hT P H t a b c=some H')(A:am P cfg f l E H' Q):am P cfg f (⟨none,.mapUpdate t x y z,none⟩::l) E H Q:=
 wF rfl (by simp only[bE,pA,Go.Ab.ret,h,m,o,F];rfl) A
def wK:=@am.mapUpdate
def am.makeFunc{cap:Array Operand}(h:cN E cap.toList=some vs)(A:am P cfg f l (T.set E d (some (.bj g vs))) H Q):am P cfg f (⟨some d,.makeFunc (.func g) #[] cap,none⟩::l) E H Q:=dv rfl (by simp only[bE,pu,h]) A
def am.slice{I:Option Operand}(h:ay E x=some a)(m:ev E U=some A)(o:ev E I=some M)(F:gD P H t a A M=some v)(Z:am P cfg f l (T.set E d (some v)) H Q):am P cfg f (⟨some d,.slice t x U I none,none⟩::l) E H Q:=
 dv rfl (by simp only[bE,nw,Go.Ab.ret,h,m,o,F]) Z
def am.makeSlice(h:ay E x=some a)(m:ay E y=some b)(o:iE P H t a b=some (v,H'))(A:am P cfg f l (T.set E d (some v)) H' Q):am P cfg f (⟨some d,.makeSlice t x y,none⟩::l) E H Q:=dv rfl (by simp only[bE,nt,h,m,o]) A
def wL:=@am.makeSlice
def am.len{c:AV}(h:ay E x=some a)(m:dr P H t a=some c)(A:am P cfg f l (T.set E d (some c)) H Q):am P cfg f (⟨some d,.call ⟨.builtin .len,#[x],#[t]⟩,none⟩::l) E H Q:=
 mo (c:=⟨.builtin .len,#[x],#[t]⟩) rfl (vs:=[a]) (by simp only[cN,h]) (by simp only[fQ,m]) A
def am.append(h:ay E x=some a)(m:ay E y=some b)(o:dh P (cfg.az f) H t u a b=some (v,H'))(A:am P cfg f l (T.set E d (some v)) H' Q):am P cfg f (⟨some d,.call ⟨.builtin .append,#[x,y],#[t,u]⟩,none⟩::l) E H Q:=
 mo (c:=⟨.builtin .append,#[x,y],#[t,u]⟩) rfl (vs:=[a,b]) (by simp only[cN,h,m]) (by simp only[fQ,o]) A
def tK:=@am.append
end
def jw(E:ae)(d t:Nat)(v:AV):ae.at (T.set E d (some v)) t=bif t == d then v else E.at t:=by
 rw[l5];by_cases h:t=d
 .simp[h]
 .have:(t == d)=false:=by simpa using h
  rw[aw h,this,rl]
def get_set(H:Hp)(d t:Nat)(b:HB):(H.set d b).get t=bif t == d then some b else H.get t:=by
 rw[a0];by_cases h:t=d
 .simp[h]
 .have:(t == d)=false:=by simpa using h
  rw[aw h,this,rl]
theorem BH(E:ae)(t:Nat):ay E (.tmp t)=some (E.at t):=rfl
theorem BI(E:ae)(k:IntKind)(n:Int):ay E (.const (.int k n))=some (.int k n):=rfl
theorem BJ(E:ae)(b:Bool):ay E (.const (.bool b))=some (.bool b):=rfl
theorem BK(E:ae)(g:FuncId):ay E (.func g)=some (.bj g []):=rfl
theorem BL(E:ae)(s:ByteArray):ay E (.const (.string s))=some (.ad s.data.toList):=rfl
section
variable {D:BinOp -> Sx -> Sx -> qo} {t:TypeId} {k:IntKind} {a b:Int} {s u:qi}
def BM:ct P D .add t (.int k a) (.int k b)=some (.int k (k.wrap (a+b))):=iP
def BN:ct P D .sub t (.int k a) (.int k b)=some (.int k (k.wrap (a-b))):=iP
def BO:ct P D .mul t (.int k a) (.int k b)=some (.int k (k.wrap (a*b))):=iP
def BP(h:b≠0):ct P D .quo t (.int k a) (.int k b)=some (.int k (k.wrap (a.tdiv b))):=by simp[ct,jT,dI,h]
def BQ:ct P D .and t (.int k a) (.int k b)=some (.int k (k.wrap (BitVec.ofInt k.bits a &&& BitVec.ofInt k.bits b).toNat)):=iP
def BR:ct P D .or t (.int k a) (.int k b)=some (.int k (k.wrap (BitVec.ofInt k.bits a |||BitVec.ofInt k.bits b).toNat)):=iP
def BS:ct P D .xor t (.int k a) (.int k b)=some (.int k (k.wrap (BitVec.ofInt k.bits a^^^ BitVec.ofInt k.bits b).toNat)):=iP
theorem BT:ct P D .eql t (.int k a) (.int k b)=some (.bool (decide (a=b))):=by simp[ct,jT,dI];rfl
theorem BU:ct P D .neq t (.int k a) (.int k b)=some (.bool (!decide (a=b))):=by simp[ct,jT,dI];rfl
def BV:ct P D .lss t (.int k a) (.int k b)=some (.bool (decide (a<b))):=iP
def BW:ct P D .leq t (.int k a) (.int k b)=some (.bool (decide (a<=b))):=iP
def BX:ct P D .gtr t (.int k a) (.int k b)=some (.bool (decide (b<a))):=iP
def BY:ct P D .geq t (.int k a) (.int k b)=some (.bool (decide (b<=a))):=iP
def BZ:ct P D .eql t (.ad s) (.ad u)=some (.bool (decide (s=u))):=by
 simp only[ct,ni];by_cases h:s=u<;>simp[h]
def B0:ct P D .neq t (.ad s) (.ad u)=some (.bool (!decide (s=u))):=by
 simp only[ct,ni];by_cases h:s=u<;>simp[h]
theorem B1{x:Bool}:jh .not (.bool x)=some (.bool !x):=rfl
theorem B2:jh .neg (.int k a)=some (.int k (k.wrap (0-a))):=rfl
end
theorem mp(h:i<2^62):IntKind.wrap .i64 ((i:Int)+1)=((i+1:Nat):Int):=by
 rw[l3 _ aa];rfl
def wM{H:Hp}(h:P.underlying t=some (.slice e))(xs:List qh):dr P H t (.af xs)=some (.int .i64 xs.length):=rh
def ru{H:Hp}(h:P.underlying t=some (.slice e))(r o n z:Nat):dr P H t (.sl r o n z)=some (.int .i64 n):=rh
def rx{H:Hp}(h:P.underlying t=some (.slice e)):dr P H t .ab=some (.int .i64 0):=rh
def B3{H:Hp}(h:P.underlying t=some .string)(s:qi):dr P H t (.ad s)=some (.int .i64 s.length):=rh
def wN(h:P.underlying t=some (.slice e))(J:aZ P e=some s){xs:List qh}{row:qh}(hr:xs[i]?=some row)(C:row.length=s):cV P t (.af xs) (.int .i64 (i:Int))=some (.aN row):=by
 show cV P t (.af xs) (.int .i64 (Int.ofNat i))=_;simp only[cV,h,J,hr,C,cy]
def wO(h:P.underlying t=some (.slice e))(J:aZ P e=some s){n z:Nat}(I:i<n):cV P t (.sl r o n z) (.int .i64 (i:Int))=some (.ptr r (o+i*s)):=by
 show cV P t (.sl r o n z) (.int .i64 (Int.ofNat i))=_;simp only[cV,h,J,I,cy]
def mq:TypeDesc->Bool
 | .struct _|.array _ _=>false
 |_=>true
theorem dP(h:P.underlying t=some d)(hd:mq d=true)(cs:qh)(o:Nat):bR P t cs o=cs[o]?:=by
 unfold bR;rw[h];cases d<;>simp_all[mq]
def B4{H:Hp}(h:P.underlying t=some d)(hd:mq d=true){imm:Nat}{tip:Bool}(L:H.get r=some (.cells cs imm tip)):dq P H t (.ptr r o)=cs[o]?:=by
 simp only[dq,L,dP h hd]
def B5{H:Hp}(h:P.underlying t=some d)(hd:mq d=true)(cs:qh):dq P H t (.aN cs)=cs[0]?:=by
 simp only[dq,dP h hd]
def ry(z:Nat):Option qh->qk
 |some S=>if S.length=z then some (.aN S)else none
 |none=>none
theorem B6(z:Nat)(row:qh):ry z (some row)=if row.length=z then some (.aN row)else none:=rfl
def rz:Option UInt8->qk
 |some b=>some (.int .u8 b.toNat)
 |none=>none
theorem B7(b:UInt8):rz (some b)=some (.int .u8 b.toNat):=rfl
def b8(s:Nat)(cs:qh):qk:=if (cs.take s).length=s then some (.agg (cs.take s))else none
theorem ij(h:P.underlying t=some d)(hd:mq d=false)(J:aZ P t=some s)(cs:qh)(o:Nat):bR P t cs o=b8 s (cs.drop o):=by
 unfold bR b8;rw[h];cases d<;>simp_all[mq]
theorem B8(h:P.underlying t=some (.slice e))(J:aZ P e=some s)(xs:List qh){n:Int}(S:0<=n)(k:IntKind):cV P t (.af xs) (.int k n)=ry s (xs[n.toNat]?):=by
 obtain⟨m,rfl⟩:=mn S;show cV P t (.af xs) (.int k (Int.ofNat m))=ry s (xs[m]?);simp only[cV,h,J];cases xs[m]? <;>rfl
def j8(h:P.underlying t=some (.slice e))(J:aZ P e=some s)(r o l z:Nat){n:Int}(S:0<=n)(k:IntKind):cV P t (.sl r o l z) (.int k n)=bif decide (n.toNat<l)then some (.ptr r (o+n.toNat*s))else none:=by
 obtain⟨m,rfl⟩:=mn S;show cV P t (.sl r o l z) (.int k (Int.ofNat m))=bif decide (m<l)then some (.ptr r (o+m*s))else none
 simp only[cV,h,J];by_cases W:m<l<;>simp[W]
theorem B9(h:P.underlying t=some .string)(s:qi){n:Int}(S:0<=n)(k:IntKind):iC P t (.ad s) (.int k n)=rz (s[n.toNat]?):=by
 obtain⟨m,rfl⟩:=mn S;show iC P t (.ad s) (.int k (Int.ofNat m))=rz (s[m]?);simp only[iC,h];cases s[m]? <;>rfl
def wP(P:Program)(t:TypeId)(o:Nat):Option HB->qk
 |some (.cells cs _ _)=>bR P t cs o
 |_=>none
theorem Ca(t:TypeId)(o:Nat)(cs:qh)(imm:Nat)(tip:Bool):wP P t o (some (.cells cs imm tip))=bR P t cs o:=rfl
theorem rA(H:Hp)(t:TypeId)(r o:Nat):dq P H t (.ptr r o)=wP P t o (H.get r):=rfl
theorem Cb(H:Hp)(t:TypeId)(cs:qh):dq P H t (.aN cs)=bR P t cs 0:=rfl
def wQ(H:Hp)(b:HB)(t:Nat):(H.alloc b).get t=bif t == H.next then some b else H.get t:=by
 rw[aP];by_cases h:t=H.next
 .simp[h]
 .have:(t == H.next)=false:=by simpa using h
  rw[aw h,this,rl]
noncomputable def wR(H:Hp)(r o:Nat)(S:qh):qt->Option HB->Option Hp
 |some s,some (.cells cs C Z)=>if S.length=s/\C<=o/\o+s<=cs.length/\S.all AV.one=true then some (H.set r (.cells (splice cs o S) C Z))else none
 |_,_=>none
theorem Cc(H:Hp)(r o:Nat)(S:qh)(s:Nat)(cs:qh)(imm:Nat)(tip:Bool):wR H r o S (some s) (some (.cells cs imm tip))=if S.length=s/\imm<=o/\o+s<=cs.length/\S.all AV.one=true then some (H.set r (.cells (splice cs o S) imm tip))else none:=rfl
theorem Cd(H:Hp)(t:TypeId)(r o:Nat)(v:AV):jg P H t (.ptr r o) v=wR H r o v.cells (aZ P t) (H.get r):=by
 unfold jg;simp only[];cases m:H.get r with
 |none=>cases aZ P t<;>rfl
 |some b=>cases b with
  |map S=>cases aZ P t<;>rfl
  |cells cs C Z=>cases aZ P t with
   |none=>rfl
   |some s=>rfl
theorem wS(cs:qh)(o:Nat)(O:qh):splice cs o O=cs.take o++O++cs.drop (o+O.length):=rfl
theorem Ce(cs:qh):AV.cells (.agg cs)=cs:=rfl
theorem Cf(k:IntKind)(n:Int):AV.cells (.int k n)=[.int k n]:=rfl
theorem Cg(b:Bool):AV.cells (.bool b)=[.bool b]:=rfl
theorem Ch(b:qi):AV.cells (.ad b)=[.ad b]:=rfl
theorem Ci(b:List qh):AV.cells (.af b)=[.af b]:=rfl
theorem Cj(r o l z:Nat):AV.cells (.sl r o l z)=[.sl r o l z]:=rfl
theorem Ck:AV.cells .ab=[.ab]:=rfl
theorem Cl(r o:Nat):AV.cells (.ptr r o)=[.ptr r o]:=rfl
theorem Cm(r:Nat):AV.cells (.map r)=[.map r]:=rfl
theorem Cn(g:Nat)(cap:qh):AV.cells (.bj g cap)=[.bj g cap]:=rfl
theorem Co(k:IntKind)(n:Int):AV.one (.int k n)=true:=rfl
theorem Cp(b:Bool):AV.one (.bool b)=true:=rfl
theorem Cq(b:qi):AV.one (.ad b)=true:=rfl
theorem Cr(b:List qh):AV.one (.af b)=true:=rfl
theorem Cs(r o l z:Nat):AV.one (.sl r o l z)=true:=rfl
theorem Ct:AV.one .ab=true:=rfl
theorem Cu(r o:Nat):AV.one (.ptr r o)=true:=rfl
theorem Cv(r:Nat):AV.one (.map r)=true:=rfl
theorem Cw(g:Nat)(cap:qh):AV.one (.bj g cap)=true:=rfl
theorem jx:bA.next=0:=rfl
theorem Cy(H:Hp)(t:TypeId)(s:qi)(U I:qk):gD P H t (.ad s) U I=ef P t (.ad s) U I:=rfl
theorem Cz(H:Hp)(t:TypeId)(s:List qh)(U I:qk):gD P H t (.af s) U I=ef P t (.af s) U I:=rfl
theorem CA(H:Hp)(t:TypeId)(r o n z:Nat)(U I:qk):gD P H t (.sl r o n z) U I=ef P t (.sl r o n z) U I:=rfl
theorem CB(H:Hp)(t:TypeId)(U I:qk):gD P H t .ab U I=ef P t .ab U I:=rfl
def CC(n k:Nat):(n == n+(k+1))=false:=aK
def CD(n k:Nat):(n+(k+1) == n)=false:=aK
def CE(n a b:Nat):(n+a == n+b)=(a == b):=by
 by_cases h:a=b
 .simp[h]
 .have m:(a == b)=false:=by simpa using h
  rw[m];simp;omega
end
attribute [irreducible] am bc aL dk
abbrev jy(l:List qi):AV:=.af (l.map fun s=>[.ad s])
abbrev tL(l:qm):AV:=.af (l.map fun n=>[.int .i64 n])
inductive Ex where
 |mk (kind:Int) (n:Int) (name:qi) (op:Int) (kids:List Ex)
def Ex.ai:Ex->Int|.mk x _ _ _ _=>x
def Ex.n:Ex->Int|.mk _ x _ _ _=>x
def Ex.name:Ex->qi|.mk _ _ x _ _=>x
def Ex.op:Ex->Int|.mk _ _ _ x _=>x
def Ex.aH:Ex->List Ex|.mk _ _ _ _ x=>x
mutual
def Ex.cells:Ex->qh
 | .mk fx cE cK fM er=>[.int .i64 fx,.int .i64 cE,.ad cK,.int .i64 fM,.af (rB er)]
def rB:List Ex->List qh
 |[]=>[]
 |x::xs=>Ex.cells x::rB xs
end
theorem wT:∀l:List Ex,rB l=l.map Ex.cells
 |[]=>rfl
 |x::xs=>by rw[rB,wT xs];rfl
def Ex.ah(x:Ex):x.cells=[.int .i64 x.ai,.int .i64 x.n,.ad x.name,.int .i64 x.op,.af (x.aH.map Ex.cells)]:=by
 cases x;simp only[Ex.cells,wT,Ex.ai,Ex.n,Ex.name,Ex.op,Ex.aH]
def gP:=@Ex.ah
def Ex.aX(x:Ex):x.cells.length=5:=k6
def Ex.c0(x:Ex):x.cells[0]?=some (.int .i64 x.ai):=k6
def Ex.c1(x:Ex):x.cells[1]?=some (.int .i64 x.n):=k6
def Ex.c2(x:Ex):x.cells[2]?=some (.ad x.name):=k6
def Ex.c3(x:Ex):x.cells[3]?=some (.int .i64 x.op):=k6
def Ex.c4(x:Ex):x.cells[4]?=some (.af (x.aH.map Ex.cells)):=k6
theorem Ex.aF(x:Ex):b8 5 x.cells=some (.agg x.cells):=by unfold b8;rw[gP];rfl
def Ex.one(x:Ex):x.cells.all AV.one=true:=k6
inductive St where
 |mk (kind:Int) (name:qi) (to:qi) (n:Int) (at_:Ex) (value:Ex) (args:List Ex) (thn:List St) (els:List St)
abbrev qw:=List St
def St.ai:St->Int|.mk x _ _ _ _ _ _ _ _=>x
def St.name:St->qi|.mk _ x _ _ _ _ _ _ _=>x
def St.to:St->qi|.mk _ _ x _ _ _ _ _ _=>x
def St.n:St->Int|.mk _ _ _ x _ _ _ _ _=>x
variable{n:Nat}
def St.aU:St->Ex|.mk _ _ _ _ x _ _ _ _=>x
def St.value:St->Ex|.mk _ _ _ _ _ x _ _ _=>x
def St.args:St->List Ex|.mk _ _ _ _ _ _ x _ _=>x
def St.cC:St->qw|.mk _ _ _ _ _ _ _ x _=>x
def St.cS:St->qw|.mk _ _ _ _ _ _ _ _ x=>x
mutual
def St.cells:St->qh
 | .mk fx cE cK fM er dz ee hO M=>[.int .i64 fx,.ad cE,.ad cK,.int .i64 fM,.int .i64 er.ai,.int .i64 er.n,.ad er.name,.int .i64 er.op,.af (er.aH.map Ex.cells),.int .i64 dz.ai,.int .i64 dz.n,.ad dz.name,.int .i64 dz.op,.af (dz.aH.map Ex.cells),.af (ee.map Ex.cells),.af (oC hO),.af (oC M)]
def oC:qw->List qh
 |[]=>[]
 |x::xs=>St.cells x::oC xs
end
theorem wU:∀l:qw,oC l=l.map St.cells
 |[]=>rfl
 |x::xs=>by rw[oC,wU xs];rfl
def St.ah(x:St):x.cells=[.int .i64 x.ai,.ad x.name,.ad x.to,.int .i64 x.n,.int .i64 x.aU.ai,.int .i64 x.aU.n,.ad x.aU.name,.int .i64 x.aU.op,.af (x.aU.aH.map Ex.cells),.int .i64 x.value.ai,.int .i64 x.value.n,.ad x.value.name,.int .i64 x.value.op,.af (x.value.aH.map Ex.cells),.af (x.args.map Ex.cells),.af (x.cC.map St.cells),.af (x.cS.map St.cells)]:=by
 cases x;simp only[St.cells,wU,St.ai,St.name,St.to,St.n,St.aU,St.value,St.args,St.cC,St.cS]
def rC:=@St.ah
def St.aX(x:St):x.cells.length=17:=ej
def St.c0(x:St):x.cells[0]?=some (.int .i64 x.ai):=ej
def St.c1(x:St):x.cells[1]?=some (.ad x.name):=ej
def St.c2(x:St):x.cells[2]?=some (.ad x.to):=ej
def St.c3(x:St):x.cells[3]?=some (.int .i64 x.n):=ej
def St.c4(x:St):x.cells[4]?=some (.int .i64 x.aU.ai):=ej
def St.c5(x:St):x.cells[5]?=some (.int .i64 x.aU.n):=ej
def St.c6(x:St):x.cells[6]?=some (.ad x.aU.name):=ej
def St.c7(x:St):x.cells[7]?=some (.int .i64 x.aU.op):=ej
def St.c8(x:St):x.cells[8]?=some (.af (x.aU.aH.map Ex.cells)):=ej
def St.c9(x:St):x.cells[9]?=some (.int .i64 x.value.ai):=ej
def St.c10(x:St):x.cells[10]?=some (.int .i64 x.value.n):=ej
def St.c11(x:St):x.cells[11]?=some (.ad x.value.name):=ej
def St.c12(x:St):x.cells[12]?=some (.int .i64 x.value.op):=ej
def St.c13(x:St):x.cells[13]?=some (.af (x.value.aH.map Ex.cells)):=ej
def St.c14(x:St):x.cells[14]?=some (.af (x.args.map Ex.cells)):=ej
def St.c15(x:St):x.cells[15]?=some (.af (x.cC.map St.cells)):=ej
def St.c16(x:St):x.cells[16]?=some (.af (x.cS.map St.cells)):=ej
theorem St.aF(x:St):b8 17 x.cells=some (.agg x.cells):=by unfold b8;rw[rC];rfl
def St.one(x:St):x.cells.all AV.one=true:=ej
theorem CF(x:St):b8 5 (x.cells.drop 4)=some (.agg x.aU.cells):=by unfold b8;rw[rC,gP];rfl
theorem St.a6(x:St):b8 5 (x.cells.drop 9)=some (.agg x.value.cells):=by unfold b8;rw[rC,gP];rfl
structure Fu where
 name:qi
 params:List qi
 bv:List qi
 body:qw
 value:Ex
def Fu.cells(x:Fu):qh:=[.ad x.name,jy x.params,jy x.bv,.af (x.body.map St.cells),.int .i64 x.value.ai,.int .i64 x.value.n,.ad x.value.name,.int .i64 x.value.op,.af (x.value.aH.map Ex.cells)]
theorem Fu.ah(x:Fu):x.cells=[.ad x.name,jy x.params,jy x.bv,.af (x.body.map St.cells),.int .i64 x.value.ai,.int .i64 x.value.n,.ad x.value.name,.int .i64 x.value.op,.af (x.value.aH.map Ex.cells)]:=rfl
def Fu.aX(x:Fu):x.cells.length=9:=ii
def Fu.c0(x:Fu):x.cells[0]?=some (.ad x.name):=ii
def Fu.c1(x:Fu):x.cells[1]?=some (jy x.params):=ii
def Fu.c2(x:Fu):x.cells[2]?=some (jy x.bv):=ii
def Fu.c3(x:Fu):x.cells[3]?=some (.af (x.body.map St.cells)):=ii
def Fu.c4(x:Fu):x.cells[4]?=some (.int .i64 x.value.ai):=ii
def Fu.c5(x:Fu):x.cells[5]?=some (.int .i64 x.value.n):=ii
def Fu.c6(x:Fu):x.cells[6]?=some (.ad x.value.name):=ii
def Fu.c7(x:Fu):x.cells[7]?=some (.int .i64 x.value.op):=ii
def Fu.c8(x:Fu):x.cells[8]?=some (.af (x.value.aH.map Ex.cells)):=ii
theorem Fu.aF(x:Fu):b8 9 x.cells=some (.agg x.cells):=by unfold b8;rw[Fu.ah];rfl
def Fu.one(x:Fu):x.cells.all AV.one=true:=ii
theorem Fu.a6(x:Fu):b8 5 (x.cells.drop 4)=some (.agg x.value.cells):=by unfold b8;rw[Fu.ah,gP];rfl
structure Ar where
 name:qi
 len:Int
def Ar.cells(x:Ar):qh:=[.ad x.name,.int .i64 x.len]
theorem Ar.ah(x:Ar):x.cells=[.ad x.name,.int .i64 x.len]:=rfl
def Ar.aX(x:Ar):x.cells.length=2:=ri
def Ar.c0(x:Ar):x.cells[0]?=some (.ad x.name):=ri
def Ar.c1(x:Ar):x.cells[1]?=some (.int .i64 x.len):=ri
theorem Ar.aF(x:Ar):b8 2 x.cells=some (.agg x.cells):=by unfold b8;rw[Ar.ah];rfl
def Ar.one(x:Ar):x.cells.all AV.one=true:=ri
structure Pr where
 ag:List Ar
 funcs:List Fu
def Pr.cells(x:Pr):qh:=[.af (x.ag.map Ar.cells),.af (x.funcs.map Fu.cells)]
theorem Pr.ah(x:Pr):x.cells=[.af (x.ag.map Ar.cells),.af (x.funcs.map Fu.cells)]:=rfl
def Pr.aX(x:Pr):x.cells.length=2:=rj
def Pr.c0(x:Pr):x.cells[0]?=some (.af (x.ag.map Ar.cells)):=rj
def Pr.c1(x:Pr):x.cells[1]?=some (.af (x.funcs.map Fu.cells)):=rj
theorem Pr.aF(x:Pr):b8 2 x.cells=some (.agg x.cells):=by unfold b8;rw[Pr.ah];rfl
def Pr.one(x:Pr):x.cells.all AV.one=true:=rj
structure Tk where
 ai:Int
 text:qi
 aU:Int
abbrev qn:=List Tk
def Tk.cells(x:Tk):qh:=[.int .i64 x.ai,.ad x.text,.int .i64 x.aU]
theorem Tk.ah(x:Tk):x.cells=[.int .i64 x.ai,.ad x.text,.int .i64 x.aU]:=rfl
def Tk.aX(x:Tk):x.cells.length=3:=ox
def Tk.c0(x:Tk):x.cells[0]?=some (.int .i64 x.ai):=ox
def Tk.c1(x:Tk):x.cells[1]?=some (.ad x.text):=ox
def Tk.c2(x:Tk):x.cells[2]?=some (.int .i64 x.aU):=ox
theorem Tk.aF(x:Tk):b8 3 x.cells=some (.agg x.cells):=by unfold b8;rw[Tk.ah];rfl
def Tk.one(x:Tk):x.cells.all AV.one=true:=ox
structure Nd where
 op:Int
 bO:Int
 aH:qm
def Nd.cells(x:Nd):qh:=[.int .i64 x.op,.int .i64 x.bO,tL x.aH]
theorem Nd.ah(x:Nd):x.cells=[.int .i64 x.op,.int .i64 x.bO,tL x.aH]:=rfl
def Nd.aX(x:Nd):x.cells.length=3:=oy
def Nd.c0(x:Nd):x.cells[0]?=some (.int .i64 x.op):=oy
def Nd.c1(x:Nd):x.cells[1]?=some (.int .i64 x.bO):=oy
def Nd.c2(x:Nd):x.cells[2]?=some (tL x.aH):=oy
theorem Nd.aF(x:Nd):b8 3 x.cells=some (.agg x.cells):=by unfold b8;rw[Nd.ah];rfl
def Nd.one(x:Nd):x.cells.all AV.one=true:=oy
structure Gr where
 name:qi
 params:Int
 cO:List Nd
 value:Int
 cL:Int
def Gr.cells(x:Gr):qh:=[.ad x.name,.int .i64 x.params,.af (x.cO.map Nd.cells),.int .i64 x.value,.int .i64 x.cL]
theorem Gr.ah(x:Gr):x.cells=[.ad x.name,.int .i64 x.params,.af (x.cO.map Nd.cells),.int .i64 x.value,.int .i64 x.cL]:=rfl
def Gr.aX(x:Gr):x.cells.length=5:=k7
def Gr.c0(x:Gr):x.cells[0]?=some (.ad x.name):=k7
def Gr.c1(x:Gr):x.cells[1]?=some (.int .i64 x.params):=k7
def Gr.c2(x:Gr):x.cells[2]?=some (.af (x.cO.map Nd.cells)):=k7
def Gr.c3(x:Gr):x.cells[3]?=some (.int .i64 x.value):=k7
def Gr.c4(x:Gr):x.cells[4]?=some (.int .i64 x.cL):=k7
theorem Gr.aF(x:Gr):b8 5 x.cells=some (.agg x.cells):=by unfold b8;rw[Gr.ah];rfl
def Gr.one(x:Gr):x.cells.all AV.one=true:=k7
structure Un where
 ag:List Ar
 funcs:List Gr
def Un.cells(x:Un):qh:=[.af (x.ag.map Ar.cells),.af (x.funcs.map Gr.cells)]
theorem Un.ah(x:Un):x.cells=[.af (x.ag.map Ar.cells),.af (x.funcs.map Gr.cells)]:=rfl
def Un.aX(x:Un):x.cells.length=2:=rk
def Un.c0(x:Un):x.cells[0]?=some (.af (x.ag.map Ar.cells)):=rk
def Un.c1(x:Un):x.cells[1]?=some (.af (x.funcs.map Gr.cells)):=rk
theorem Un.aF(x:Un):b8 2 x.cells=some (.agg x.cells):=by unfold b8;rw[Un.ah];rfl
def Un.one(x:Un):x.cells.all AV.one=true:=rk
abbrev gQ(n:Int):Int:=IntKind.wrap .i64 n
section
variable (q:Ex -> Int -> Bool)
end
section
variable {σ:Type} (q:St -> Int -> σ -> Bool × σ)
end
mutual
def Ex.sz:Ex->Nat
 | .mk _ _ s _ C=>1+s.length+jz C
def jz:List Ex->Nat
 |[]=>0
 |e::es=>1+e.sz+jz es
end
mutual
def St.sz:St->Nat
 | .mk _ C A _ a v o F I=>1+C.length+A.length+a.sz+v.sz+jz o+gx F+gx I
def gx:qw->Nat
 |[]=>0
 |x::l=>1+x.sz+gx l
end
def lb:List qi->Nat
 |[]=>0
 |s::l=>1+s.length+lb l
def Fu.sz(f:Fu):Nat:=1+f.name.length+lb f.params+lb f.bv+gx f.body+f.value.sz
def jA:List Fu->Nat
 |[]=>0
 |f::l=>1+f.sz+jA l
def mr:List Ar->Nat
 |[]=>0
 |a::l=>1+a.name.length+mr l
def Pr.sz(p:Pr):Nat:=1+mr p.ag+jA p.funcs
theorem wV:∀l:List Ex,l.length<=jz l
 |[]=>aA _
 |e::es=>by have:=wV es;simp only[de,jz];omega
theorem wW:∀l:qw,l.length<=gx l
 |[]=>aA _
 |e::es=>by have:=wW es;simp only[de,gx];omega
theorem wX:∀l:List qi,l.length<=lb l
 |[]=>aA _
 |e::es=>by have:=wX es;simp only[de,lb];omega
theorem wY:∀l:List Fu,l.length<=jA l
 |[]=>aA _
 |e::es=>by have:=wY es;simp only[de,jA];omega
theorem wZ:∀l:List Ar,l.length<=mr l
 |[]=>aA _
 |e::es=>by have:=wZ es;simp only[de,mr];omega
theorem w3:∀{l:List Ex}{x:Ex},x∈l->x.sz<jz l
 |[],_,h=>by simp at h
 |e::es,x,h=>by
  rcases fg.1 h with rfl|h
  .simp only[jz];omega
  .have:=w3 h;simp only[jz];omega
theorem w4:∀{l:qw}{x:St},x∈l->x.sz<gx l
 |[],_,h=>by simp at h
 |e::es,x,h=>by
  rcases fg.1 h with rfl|h
  .simp only[gx];omega
  .have:=w4 h;simp only[gx];omega
theorem w5:∀{l:List Fu}{x:Fu},x∈l->x.sz<jA l
 |[],_,h=>by simp at h
 |e::es,x,h=>by
  rcases fg.1 h with rfl|h
  .simp only[jA];omega
  .have:=w5 h;simp only[jA];omega
def St.co(x:St):x.sz=1+x.name.length+x.to.length+x.aU.sz+x.value.sz+jz x.args+gx x.cC+gx x.cS:=by cases x;simp only[St.sz,St.name,St.to,St.aU,St.value,St.args,St.cC,St.cS]
structure FrB (base:Nat) (H H':Hp):Prop where
 next:H.next<=H'.next
 get:∀r,base<=r->r<H.next->H'.get r=H.get r
def FrB.refl(base:Nat)(H:Hp):FrB base H H:=⟨aA _,fun _ _ _=>rfl⟩
def eG(n:Int):Bool:=(decide (97<=n)&&decide (n<=122))||(decide (65<=n)&&decide (n<=90))||decide (n=95)
def dQ(n:Int):Bool:=decide (48<=n)&&decide (n<=57)
def el(b:UInt8):Bool:=eG b.toNat||dQ b.toNat
def cz:qi->Nat
 |[]=>0
 |b::s=>if el b then cz s+1 else 0
theorem tM:∀s:qi,cz s<=s.length
 |[]=>aA _
 |b::s=>by have:=tM s;simp only[cz,de];split<;>omega
def rD(b:UInt8):Bool:=decide (b.toNat=32)||decide (b.toNat=9)||decide (b.toNat=10)||decide (b.toNat=13)
def rE(s:qi):Bool:=decide (1<=cz s)&&decide (cz s=s.length)&&decide (s.length<=16)&&(match s with|b::_=>!dQ b.toNat|[]=>true)
def lh(s:qi):Bool:=decide (s=[97,114,114,97,121])||decide (s=[102,117,110,99])||decide (s=[118,97,114])||decide (s=[114,101,116,117,114,110])||decide (s=[105,102])||decide (s=[101,108,115,101])||decide (s=[119,104,105,108,101])||decide (s=[111,117,116])||decide (s=[116,114,97,112])
def co(s:qi):Nat:=s.foldl (fun n c=>10*n+(c.toNat-48)) 0
def w6(c:UInt8):Bool:=decide (48<=c.toNat)&&decide (c.toNat<=57)
def gR(s:qi):qt:=if decide (1<=s.length)&&decide (s.length<=19)&&s.all w6&&(decide (s.length=1) || !decide (s.headD 0=48))&&decide (co s<=9223372036854775808)then some (co s)else none
def j9:List qi:=[[62,62,62],[60,60],[62,62],[60,61],[62,61],[61,61],[33,61]]
def iQ:qi:=[43,45,42,47,37,38,124,94,126,33,60,62,61,63,58,59,44,40,41,123,125,91,93]
def rF(s:qi):Option qi:=if j9.all (fun t=>!decide (s.take t.length=t))&&iQ.contains (s.headD 0)then some (s.take 1)else none
def ge:Nat->qi->Nat->Option qn
 |0,_,_=>none
 |n+1,s,i=>match s with
  |[]=>some []
  |c::r=>
   if rD c then ge n r (i+1)
   else if decide (c.toNat=35)then none
   else if el c then
    if dQ c.toNat then (gR (s.take (cz s))).bind fun _=>(ge n (s.drop (cz s)) (i+cz s)).map fun l=>⟨2,s.take (cz s),i⟩::l
    else if 16<cz s then none
    else (ge n (s.drop (cz s)) (i+cz s)).map fun l=>⟨1,s.take (cz s),i⟩::l
   else (rF s).bind fun t=>(ge n r (i+1)).map fun l=>⟨3,t,i⟩::l
section
variable (l:qn)
def a3(i k:Nat)(s:qi):Bool:=match l[i+k]? with
 |some t=>decide (t.text=s) && !decide (t.ai=2)
 |none=>false
def eT(i:Nat)(k:Int):Bool:=match l[i]? with
 |some t=>decide (t.ai=k)
 |none=>false
def gS(i k:Nat):Bool:=match l[i+k]? with
 |some t=>decide (t.ai=1) && !lh t.text
 |none=>false
def dR(i:Nat):qi:=match l[i]? with
 |some t=>t.text
 |none=>[]
def bY(i:Nat)(s:qi):qt:=if a3 l i 0 s then some (i+1)else none
def fk(i:Nat):Option (qi×Nat):=if gS l i 0 then some (dR l i,i+1)else none
def rG(i:Nat):Option (Int×Nat):=if eT l i 2 then (gR (dR l i)).bind fun n=>if n<=1000000 then some ((n:Int),i+1)else none else none
def gT(k:Nat)(s:qi):Int×Bool:=
 if k=0/\s=[124]then (10,false)
 else if k=1/\s=[94]then (11,false)
 else if k=2/\s=[38]then (9,false)
 else if k=3/\s=[61,61]then (15,false)
 else if k=3/\s=[33,61]then (16,false)
 else if k=4/\s=[60]then (17,false)
 else if k=4/\s=[60,61]then (18,false)
 else if k=4/\s=[62]then (17,true)
 else if k=4/\s=[62,61]then (18,true)
 else if k=5/\s=[60,60]then (12,false)
 else if k=5/\s=[62,62]then (14,false)
 else if k=5/\s=[62,62,62]then (13,false)
 else if k=6/\s=[43]then (4,false)
 else if k=6/\s=[45]then (5,false)
 else if k=7/\s=[42]then (6,false)
 else if k=7/\s=[47]then (7,false)
 else if k=7/\s=[37]then (8,false)
 else (0,false)
def cL:Nat->Nat->Nat->Ex->Nat->Option (Ex×Nat)
 |0,_,_,_,_=>none
 |n+1,m,k,a,i=>
  if m=2 then
   if a3 l i 0 [45]||a3 l i 0 [126]||a3 l i 0 [33]then none
   else if eT l i 2 then (gR (dR l i)).bind fun v=>if v<9223372036854775808 then some (.mk 1 v [] 0 [],i+1)else none
   else if a3 l i 0 [40]then (cL n 3 0 a (i+1)).bind fun r=>(bY l r.2 [41]).map fun j=>(r.1,j)
   else (fk l i).bind fun s=>
    if a3 l s.2 0 [91]then (cL n 3 0 a (s.2+1)).bind fun r=>(bY l r.2 [93]).map fun j=>(.mk 3 0 s.1 0 [r.1],j)
    else some (.mk 2 0 s.1 0 [],s.2)
  else if m=3 then (cL n 0 0 a i).bind fun r=>if a3 l r.2 0 [63]then none else some r
  else if m=0 then
   if 7<k then cL n 2 0 a i
   else (cL n 0 (k+1) a i).bind fun r=>cL n 1 k r.1 r.2
  else if eT l i 3 then
   if (gT k (dR l i)).1=0 then some (a,i)
   else (cL n 0 (k+1) a (i+1)).bind fun r=>cL n 1 k (.mk 4 0 [] (gT k (dR l i)).1 (if (gT k (dR l i)).2 then [r.1,a]else [a,r.1])) r.2
  else some (a,i)
def fD:Ex:=.mk 0 0 [] 0 []
def eU(n i:Nat):Option (Ex×Nat):=cL l n 3 0 fD i
def dS(n:Nat):Nat->Nat->Option (St×Nat)
 |0,_=>none
 |d+1,i=>
  let I (i:Nat):Option (qw×Nat):=(bY l i [123]).bind fun j=>(many 0 (dS n d) [125] d j).bind fun r=>(bY l r.2 [125]).map fun j=>(r.1,j)
  if a3 l i 0 [105,102]then (bY l (i+1) [40]).bind fun i=>(eU l n i).bind fun c=>(bY l c.2 [41]).bind fun i=>(I i).bind fun b=>if a3 l b.2 0 [101,108,115,101]then none else some (.mk 3 [] [] 0 fD c.1 [] b.1 [],b.2)
  else if a3 l i 0 [119,104,105,108,101]then (bY l (i+1) [40]).bind fun i=>(eU l n i).bind fun c=>(bY l c.2 [41]).bind fun i=>(I i).bind fun b=>some (.mk 4 [] [] 0 fD c.1 [] b.1 [],b.2)
  else if a3 l i 0 [111,117,116]then (eU l n (i+1)).bind fun c=>(bY l c.2 [59]).map fun j=>(.mk 5 [] [] 0 fD c.1 [] [] [],j)
  else if a3 l i 0 [116,114,97,112]then none
  else (fk l i).bind fun s=>
   if a3 l s.2 0 [91]then (eU l n (s.2+1)).bind fun a=>(bY l a.2 [93]).bind fun i=>(bY l i [61]).bind fun i=>(eU l n i).bind fun c=>(bY l c.2 [59]).map fun j=>(.mk 2 s.1 [] 0 a.1 c.1 [] [] [],j)
   else (bY l s.2 [61]).bind fun i=>if gS l i 0&&a3 l i 1 [40]then none else (eU l n i).bind fun c=>(bY l c.2 [59]).map fun j=>(.mk 1 s.1 [] 0 fD c.1 [] [] [],j)
where
 many (_:Nat) (f:Nat->Option (St×Nat)) (e:qi):Nat->Nat->Option (qw×Nat)
  |0,_=>none
  |m+1,i=>if a3 l i 0 e then some ([],i)else (f i).bind fun s=>(many 0 f e m s.2).map fun r=>(s.1::r.1,r.2)
def li:Nat->Nat->List qi->Option (List qi×Nat)
 |0,_,_=>none
 |m+1,i,acc=>if a3 l i 0 [41]then some (acc,i)else
  (if acc.length=0 then some i else bY l i [44]).bind fun i=>(fk l i).bind fun s=>li m s.2 (acc++[s.1])
def lj:Nat->Nat->List qi->Option (List qi×Nat)
 |0,_,_=>none
 |m+1,i,acc=>if a3 l i 0 [44]then (fk l (i+1)).bind fun s=>lj m s.2 (acc++[s.1])else some (acc,i)
def rH(n i:Nat):Option (Fu×Nat):=
 (fk l i).bind fun s=>(bY l s.2 [40]).bind fun i=>(li l n i []).bind fun p=>(bY l p.2 [41]).bind fun i=>
 (if a3 l i 0 [118,97,114]then (fk l (i+1)).bind fun s=>lj l n s.2 [s.1]else some ([],i)).bind fun v=>(bY l v.2 [123]).bind fun i=>
 (dS.many l 0 (dS l n n) [114,101,116,117,114,110] n i).bind fun b=>(bY l b.2 [114,101,116,117,114,110]).bind fun i=>(eU l n i).bind fun e=>(bY l e.2 [59]).bind fun i=>(bY l i [125]).map fun i=>(⟨s.1,p.1,v.1,b.1,e.1⟩,i)
def ik(n:Nat):Nat->Nat->List Ar->List Fu->Option Pr
 |0,_,_,_=>none
 |m+1,i,asx,fs=>if l.length<=i then some ⟨asx,fs⟩
  else if a3 l i 0 [97,114,114,97,121]then (fk l (i+1)).bind fun s=>(rG l s.2).bind fun k=>(bY l k.2 [59]).bind fun i=>ik n m i (asx++[⟨s.1,k.1⟩]) fs
  else (bY l i [102,117,110,99]).bind fun i=>(rH l n i).bind fun f=>ik n m f.2 asx (fs++[f.1])
end
theorem Sx.beq_refl:∀a:Sx,Sx.beq a a=true
 | .var i=>by simp[Sx.beq]
 | .lit n=>by simp[Sx.beq]
 | .bJ o k a b=>by simp[Sx.beq,Sx.beq_refl a,Sx.beq_refl b]
 | .cB k a=>by simp[Sx.beq,Sx.beq_refl a]
mutual
theorem AV.beq_refl:∀a:AV,AV.beq a a=true
 | .int k n=>by simp[AV.beq]
 | .sx k e=>by simp[AV.beq,Sx.beq_refl]
 | .bool b=>by simp[AV.beq]
 | .ad s=>by simp[AV.beq]
 | .aY=>rfl
 | .aO=>rfl
 | .bh=>rfl
 | .ab=>rfl
 | .ptr r o=>by simp[AV.beq]
 | .aN cs=>by simp only[AV.beq];exact iR cs
 | .sl r o l z=>by simp[AV.beq]
 | .af I=>by simp only[AV.beq];exact w7 I
 | .map r=>by simp[AV.beq]
 | .bj f cs=>by simp only[AV.beq,iR cs,la];simp
 | .agg cs=>by simp only[AV.beq];exact iR cs
 | .aC cs=>by simp only[AV.beq];exact iR cs
theorem iR:∀a:qh,eZ a a=true
 |[]=>rfl
 |a::l=>by simp only[eZ,AV.beq_refl a,iR l,la]
theorem w7:∀a:List qh,kG a a=true
 |[]=>rfl
 |a::l=>by simp only[kG,iR a,w7 l,la]
end
def lk(o:Oper):Bool:=jt o.op||iL o.op
def rI(o:Oper):Bool:=lk o||(match o.op with|.store ..|.mapUpdate ..=>true |_=>false)
def rJ(ops:qj):Bool:=
 jW ops&&(List.range ops.length).all (fun i=>match ops[i]? with|some o=>if Nat.blt (i+1) ops.length then lk o else rI o|none=>true)&&(iG ops).all (fun p=>Nat.blt p.2 ops.length)
section
variable {P:Program} {cfg:Cfg} {f N:Nat}
theorem tN{ih:zad->Res}{Y:qj}:∀{l:qj}{E E':ae}{H H':Hp},eg P cfg ih f N Y l E H=.done .normal E' H'->∃rs,dK P cfg ih f N Y l E H=.done E' H' rs
 |[],E,E',H,H',h=>by
  simp only[eg,Res.done.injEq,k5]at h;obtain⟨rfl,rfl⟩:=h;exact⟨[],rfl⟩
 |o::l,E,E',H,H',h=>by
  rw[ow]at h;simp only[dK];cases m:dJ Y E o with
  |true=>
   rw[m]at h;simp only[]at h⊢;cases W:b6 P cfg ih f E H o.op with
   |val v H1=>
    rw[W]at h;simp only[]at h⊢;cases hp:cF N E o.dst v with
    |none=>rw[hp]at h;simp[ez]at h
    |some E1=>
     rw[hp]at h;simp only[ez]at h;obtain⟨rs,hr⟩:=tN h;exact⟨_,by simp only[gH,hr,gG];rfl⟩
   |done _ _ _=>rw[W]at h;simp at h
   |aq=>rw[W]at h;simp at h
  |false=>
   rw[m]at h;simp only[]at h⊢;cases hp:cF N E o.dst b5 with
   |none=>rw[hp]at h;simp[ez]at h
   |some E1=>
    rw[hp]at h;simp only[ez]at h;obtain⟨rs,hr⟩:=tN h;exact⟨_,by simp only[gH,hr,gG];rfl⟩
def tO{E:ae}{o:Oper}{H H':Hp}(A:lk o=true)(h:b6 P cfg ih f E H o.op=.val v H'):H'=H:=by
 unfold lk at A;rw[fZ]at A;rcases A with A|A
 .have S:∀c,o.op≠.call c:=fun c e=>by
   rw[e]at A;simp only[jt,cS]at A;split at A
   .rename_i m;split at m<;>simp at m
   .simp at A
  exact(te A ((k0 S).1 h)).1
 .exact tf A h
def CG{E:ae}{o:Oper}{H H':Hp}(A:rI o=true)(h:b6 P cfg ih f E H o.op=.val v H'):H.next<=H'.next:=by
 unfold rI at A;rw[fZ]at A;rcases A with A|A
 .rw[tO A h];exact aA _
 .obtain⟨S,W,Z,U,V,guard⟩:=o;simp only[]at A h;cases W<;>simp only[bK]at A
  case store t a x=>
   simp only[b6,bE,po]at h;split at h
   .split at h
    .rename_i J;simp only[cO,Res.val.injEq]at h;obtain⟨rfl,rfl⟩:=h;unfold jg at J;split at J
     .split at J
      .split at J
       .simp only[ak]at J;rw[<-J];exact aA _
       .simp at J
      .simp at J
     .simp at J
    .simp[cO]at h
   .simp[cO]at h
  case mapUpdate t m k x=>
   simp only[b6,bE,pA]at h;split at h
   .split at h
    .rename_i J;simp only[cO,Res.val.injEq]at h;obtain⟨rfl,rfl⟩:=h;unfold hT at J;split at J
     .split at J
      .split at J
       .split at J
        .simp only[ak]at J;rw[<-J];exact aA _
        .simp only[ak]at J;rw[<-J];exact aA _
        .simp at J
       .simp at J
      .simp at J
     .simp at J
    .simp[cO]at h
   .simp[cO]at h
theorem CH{ih':zad->Res}{f':FuncId}{E:ae}{op:Op}{H:Hp}(A:iL op=true):b6 P cfg ih f E H op=b6 P cfg ih' f' E H op:=by
 cases op<;>simp only[iL,cS,bK]at A<;>try rfl
 rename_i c;simp only[b6,iF];cases hc:c.callee with
 |value g=>rw[hc]at A;simp at A
 |invoke g m=>rfl
 |builtin b=>
  rw[hc]at A;simp only[];cases b<;>simp only[bK]at A<;>rfl
theorem CI{E E':ae}{H H':Hp}(hp:rJ ops=true)(h:eg P cfg ih f N ops ops E H=.done .normal E' H'):fS P cfg ih f N ops E H=.done .normal E' H':=by
 unfold rJ at hp;simp only[cI,fU,k3]at hp;obtain⟨⟨O,C⟩,L⟩:=hp;obtain⟨rs,hr⟩:=tN h;have M:=nV hr;have hlen:=tc M;obtain⟨_,z2⟩:=td M;have I:∀(i:Nat) o,ops[i]?=some o->i+1<ops.length->lk o=true:=fun i o J U=>by
  have:=C i aa;rw[J]at this;simp only[show Nat.blt (i+1) ops.length=true by simpa [fA]using U,cy]at this;exact this
 have Z:∀i,i+1<=ops.length->a7 rs H' i=H:=fun i=>by
  induction i with
  |zero=>intro _;exact z2
  |succ i ih=>
   intro U;have hri:=bq (show i<rs.length by omega);obtain⟨o,J,S⟩:=kZ M hri;have h1:=ih aa;have h2:a7 rs H' (i+1)=a7 rs H' i:=by
    cases hd:(rs[i]' aa).did with
    |true=>exact tO (I i o J aa) (S.dg hd)
    |false=>exact(S.no hd).2
   rw[h2,h1]
 unfold fS;rw[O];simp only[hr];have Y:kH P cfg (iG ops) rs H'=true:=by
  unfold kH;simp only[cI,fU];refine⟨fun r hm=>?_,fun p hpm=>?_⟩
  .obtain⟨i,U⟩:=ti.1 hm;obtain⟨o,J,S⟩:=kZ M U;have F:i<ops.length:=(ci.1 J).1;rw[S.eH,S.eH'];refine Nat.ble_eq_true_of_le ?_;cases hd:r.did with
   |false=>rw[(S.no hd).2];exact aA _
   |true=>
    by_cases V:i+1<ops.length
    .rw[tO (I i o J V) (S.dg hd)];exact aA _
    .have:=C i F;rw[J]at this;have hb:Nat.blt (i+1) ops.length=false:=by
      cases hx:Nat.blt (i+1) ops.length with
      |false=>rfl
      |true=>exact(V (by simpa [fA]using hx)).elim
     simp only[hb,bK,cT]at this;exact CG this (S.dg hd)
  .have hm:p.2<ops.length:=by simpa [fA]using L p hpm
   cases hrp:rs[p.1]? with
   |none=>rfl
   |some r=>
    obtain⟨o,J,S⟩:=kZ M hrp;have F:p.1<ops.length:=(ci.1 J).1;simp only[];cases hd:r.did with
    |false=>rfl
    |true=>
     simp only[nX,nY];have hH:r.H=a7 rs H' p.2:=by rw[S.eH,Z _ aa,Z _ aa]
     unfold zaQ;cases A:cS r.o.op with
     |calm=>rfl
     |ck=>rfl
     |read=>
      simp only[];have W:=S.dg hd;rw[<-S.eE,<-S.eo,<-S.eH,hH]at W;rw[CH (P:=P) (cfg:=cfg) (f:=f) (ih:=ih) (ih':=fun _=>.aq) (f':=0) (by simp[iL,A])]at W;rw[W];simp only[AV.beq_refl]
     |make=>
      exfalso;rw[S.eo]at A;by_cases V:p.1+1<ops.length
      .have:=I _ o J V;unfold lk jt iL at this;rw[A]at this;simp at this
      .have m:=C p.1 F;rw[J]at m;have hb:Nat.blt (p.1+1) ops.length=false:=by
        cases hx:Nat.blt (p.1+1) ops.length with
        |false=>rfl
        |true=>exact(V (by simpa [fA]using hx)).elim
       simp only[hb,bK,cT,rI,lk,jt,iL,A,Bool.or_self,nY]at m;split at m
       .rename_i W;rw[W]at A;simp[cS]at A
       .rename_i W;rw[W]at A;simp[cS]at A
       .simp at m
 rw[Y]
def bc.bl{id:Nat}{ops:qj}{l:List SOp}{E:ae}{H:Hp}{Q:AX->ae->Hp->Prop}(m:cfg.bS f id=.text)(J:rJ ops=true)(Z:bB N ops ops=some l)
 (h:∀K:ae->Hp->Prop,(∀E' H',Q .normal E' H'->K E' H')->am P cfg f l E H K):bc P cfg f N (.bl id ops) E H Q:=by
 unfold bc;intro code hc;cases code with
 |region W U draw=>
  cases draw with
  |false=>simp only[aI,bL]at hc;split at hc<;>simp at hc
  |true=>
   simp only[aI,SC.bl.injEq]at hc;obtain⟨rfl,rfl⟩:=hc;obtain⟨n,E',H',Y,o⟩:=am.run Z (h (Q .normal) fun _ _ h=>h);refine⟨_,_,_,bF.bl (n:=n) (r:=.done .normal E' H') ?_ aK,o⟩;rw[m];simp only[ey];exact CI J Y
 |_=>simp[aI]at hc
end
section
variable {P:Program} {H:Hp} {t u e:TypeId} {keep:Bool}
def tP{z:Nat}{imm:Nat}{tip:Bool}(L:H.get r=some (.cells cs imm tip))(O:((cs.drop o).take (n*s)).length=n*s):hS H s (.sl r o n z)=some (n,(cs.drop o).take (n*s)):=by
 unfold hS;simp only[L,O,cy]
def w8{s:qi}(I:P.underlying t=some .string)(W:m<=s.length):ef P t (.ad s) none (some (.int k (m:Int)))=some (.ad (s.take m)):=by
 show ef P t (.ad s) none (some (.int k (Int.ofNat m)))=_;simp[ef,I,cX,W]
def CJ{s:qi}(I:P.underlying t=some .string)(W:m<=s.length):ef P t (.ad s) (some (.int k (m:Int))) none=some (.ad (s.drop m)):=by
 show ef P t (.ad s) (some (.int k (Int.ofNat m))) none=_;simp only[ef,I,cX];rw[aD ⟨W,aA _⟩];rw[iI aK]
def append_nil{b:Nat}{O:qh}{x:AV}(I:P.underlying t=some (.slice e))(J:aZ P e=some s)(C:bT P e=some b)(Z:bM P e=some z)(m:gE P u=true)
 (U:hS H s x=some (n+1,O)) (Y:O.all AV.one=true) (S:z.length=s) (W:(n+1)*b<=cm) (o:n+1<=cm) :
 dh P keep H t u .ab x=some (.sl H.next 0 (n+1) s,H.alloc (.cells O 0 true)):=by
 simp only[dh,I,J,C,Z,m,U,Y,S,and_self,cy,fO,jQ,W,o]
theorem CK{b len:Nat}{O:qh}{x:AV}(I:P.underlying t=some (.slice e))(J:aZ P e=some s)(C:bT P e=some b)(W:bM P e=some z)(m:gE P u=true)
 (U:hS H s x=some (n+1,O)) (Y:O.all AV.one=true) (S:z.length=s) (L:H.get r=some (.cells cs 0 true)) (V:cs.length=len*s) (M:(len+(n+1))*b<=cm) (o:len+(n+1)<=cm) :
 dh P false H t u (.sl r 0 len s) x=some (.sl H.next 0 (len+(n+1)) s,(H.aG r).alloc (.cells (cs++O) 0 true)):=by
 have Z:fO false H s (.sl r 0 len s)=H:=by
  unfold fO;simp only[L,dd];have:Nat.blt (len*s) cs.length=false:=by
   cases C:Nat.blt (len*s) cs.length with
   |false=>rfl
   |true=>rw[fA]at C;omega
  simp[this]
 simp only[dh,I,J,C,W,m,U,Y,S,and_self,cy,Z,jQ,L,M,o,dd,V,eC,nG,kX,bK,cT]
end
theorem CL(E:ae):ay E (.const (.slice none 0 0))=some .ab:=rfl
structure Rc where
 op:Op
 did:Bool
 E:ae
 H:Hp
 val:AV
 H':Hp
variable{E:ae}{H H':Hp}{I:List Rc}
section
variable (P:Program) (cfg:Cfg) (f:FuncId)
def cp:List SOp->List Rc->ae->Hp->(List Rc->ae->Hp->Prop)->Prop
 |[],tr,E,H,Q=>Q tr E H
 |o::l,tr,E,H,Q=>match o.g with
  |none=>dk P cfg f o.op E H fun v H'=>cp l (tr++[⟨o.op,true,E,H,v,H'⟩]) (aJ E o.d v) H' Q
  |some (s,b)=>(E.at s=.bool b/\dk P cfg f o.op E H fun v H'=>cp l (tr++[⟨o.op,true,E,H,v,H'⟩]) (aJ E o.d v) H' Q)\/((E.at s=.bool (!b)\/E.at s=b5)/\cp l (tr++[⟨o.op,false,E,H,b5,H⟩]) (aJ E o.d b5) H Q)
def mw(I:List Rc)(H':Hp)(m:Nat):Hp:=match I[m]? with
 |some r=>r.H
 |none=>H'
def gU(r:Rc)(H:Hp):Prop:=match cS r.op with
 | .read=>∃V,b6 P cfg (fun _=>.aq) 0 r.E H r.op=.val r.val V
 | .make=>∃b,H.get r.H.next=some b/\r.H'.get r.H.next=some b
 |_=>True
def rK(I:List Rc)(H':Hp)(i m:Nat):Prop:=match I[i]? with
 |some r=>r.did=true->gU P cfg r (mw I H' m)
 |none=>True
def ll(Y:qy)(I:List Rc)(H':Hp):Prop:=(∀r∈I,r.H.next<=r.H'.next)/\∀p∈Y,rK P cfg I H' p.1 p.2
end
section
variable {P:Program} {cfg:Cfg} {f N:Nat}
def lp(r:Rec):Rc:=⟨r.o.op,r.did,r.E,r.H,r.val,r.H'⟩
def HB.beq_refl(b:HB):HB.beq b b=true:=by
 cases b with
 |cells a i t=>simp[HB.beq,iR]
 |map S=>simp[HB.beq,iR]
theorem cp.run{Y:qj}{Q:List Rc->ae->Hp->Prop}:∀{l:qj}{r:List SOp}{I:List Rc}{E:ae}{H:Hp},bB N Y l=some r->cp P cfg f r I E H Q ->
 ∃n E' H' rs,dK P cfg (bP P cfg n) f N Y l E H=.done E' H' rs/\Q (I++rs.map lp) E' H'
 |[],r,I,E,H,hs,A=>by
  simp only[bB,ak]at hs;subst hs;unfold cp at A;exact⟨0,E,H,[],rfl,jY⟩
 |o::l,r,I,E,H,hs,A=>by
  simp only[bB]at hs;split at hs
  .rename_i d g r' F h2 C;simp only[ak]at hs;subst hs;obtain⟨w1,w2⟩:=wD (E:=E) h2;have W:∀k k',k<=k'->gw (bP P cfg k) (bP P cfg k'):=fun k k' hk t ht=>tH hk ht;have V:dk P cfg f o.op E H (fun v H'=>cp P cfg f r' (I++[⟨o.op,true,E,H,v,H'⟩]) (aJ E d v) H' Q)->dJ Y E o=true->∃n E' H' rs,dK P cfg (bP P cfg n) f N Y (o::l) E H=.done E' H' rs/\Q (I++rs.map lp) E' H':=fun J Z=>by
    unfold dk at J;obtain⟨n,v,H1,g1,g2⟩:=J;obtain⟨m,S,O,rs,U,M⟩:=cp.run C g2;refine⟨max n m,S,O,⟨o,true,E,H,v,H1⟩::rs,?_,by simpa [lp]using M⟩;simp only[dK,Z];rw[p9 (W n (max n m) (pX _ _)) (by rw[g1];simp),g1];simp only[rq F,gH];rw[re (W m (max n m) (pY _ _)) (by rw[U];simp),U];rfl
   unfold cp at A;cases L:g with
   |none=>
    rw[L]at A;exact V A (w1 L)
   |some sb=>
    obtain⟨s,b⟩:=sb;rw[L]at A;simp only[]at A;rcases A with⟨e,A⟩|⟨e,A⟩
    .exact V A ((w2 s b L).1 e)
    .obtain⟨m,S,O,rs,U,M⟩:=cp.run C A;refine⟨m,S,O,⟨o,false,E,H,b5,H⟩::rs,?_,by simpa [lp]using M⟩;simp only[dK,(w2 s b L).2 e,rq F,gH,U,gG]
  .simp at hs
theorem CM{rs:List Rec}(h:ll P cfg Y (rs.map lp) H'):kH P cfg Y rs H'=true:=by
 unfold kH;simp only[cI,fU];refine⟨fun r W=>Nat.ble_eq_true_of_le (h.1 _ (n0.2 ⟨r,W,rfl⟩)),fun p hp=>?_⟩;have J:=h.2 p hp;have M:mw (rs.map lp) H' p.2=a7 rs H' p.2:=by
  unfold mw a7;rw[gp];cases rs[p.2]? <;>rfl
 unfold rK at J;rw[gp,M]at J;cases hr:rs[p.1]? with
 |none=>rfl
 |some r=>
  rw[hr]at J;simp only[eB,lp]at J;simp only[fZ,mg];cases hd:r.did with
  |false=>exact .inl rfl
  |true=>
   right
   have J:=J hd;unfold gU at J;unfold zaQ;cases A:cS r.o.op with
   |calm=>rfl
   |ck=>rfl
   |read=>
    rw[A]at J;simp only[]at J⊢;obtain⟨V,o⟩:=J;rw[o];exact AV.beq_refl _
   |make=>
    rw[A]at J;simp only[]at J⊢;obtain⟨b,m,o⟩:=J;rw[m,o];exact HB.beq_refl b
def CN{id:Nat}{S:qj}{Q:AX->ae->Hp->Prop}
 (m:∀ih:zad->Res,ey P cfg ih f N E H (cfg.bS f id) ops=fS P cfg ih f N S E H) (J:jW S=true) (Z:bB N S S=some l) (W:iG S=Y)
 (h:∀K:List Rc->ae->Hp->Prop,(∀I E' H',ll P cfg Y I H'->Q .normal E' H'->K I E' H')->cp P cfg f l [] E H K):bc P cfg f N (.bl id ops) E H Q:=by
 unfold bc;intro code hc;cases code with
 |region M U draw=>
  cases draw with
  |false=>simp only[aI,bL]at hc;split at hc<;>simp at hc
  |true=>
   simp only[aI,SC.bl.injEq]at hc;obtain⟨rfl,rfl⟩:=hc;obtain⟨n,E',H',rs,O,o,F⟩:=cp.run Z (h (fun I E' H'=>ll P cfg Y I H'/\Q .normal E' H') fun _ _ _ h V=>⟨h,V⟩);refine⟨_,_,_,bF.bl (n:=n) (r:=.done .normal E' H') ?_ aK,F⟩;rw[m];unfold fS;rw[J];simp only[O];rw[W,CM (by simpa using o)]
 |_=>simp[aI]at hc
def CO{id:Nat}{Q:AX->ae->Hp->Prop}(m:cfg.bS f id=.text)(J:jW ops=true)(Z:bB N ops ops=some l)(S:iG ops=Y)
 (h:∀K:List Rc->ae->Hp->Prop,(∀I E' H',ll P cfg Y I H'->Q .normal E' H'->K I E' H')->cp P cfg f l [] E H K):bc P cfg f N (.bl id ops) E H Q:=
 CN (fun ih=>by rw[m];rfl) J Z S h
def cp.nil{Q:List Rc->ae->Hp->Prop}(h:Q I E H):cp P cfg f [] I E H Q:=h
def cp.step{d:Nat}{op:Op}{Q:List Rc->ae->Hp->Prop}
 (h:am P cfg f [⟨some d,op,none⟩] E H fun E' H'=>cp P cfg f l (I++[⟨op,true,E,H,E'.at d,H'⟩]) E' H' Q):cp P cfg f (⟨some d,op,none⟩::l) I E H Q:=by
 unfold am at h;simp only[]at h;unfold cp;refine dk.mono (fun v H' A=>?_) h;unfold am at A;have:(aJ E (some d) v).at d=v:=wC;rw[this]at A;exact A
def aF:=@cp.step
def a9{op:Op}{Q:List Rc->ae->Hp->Prop}(Z:cS op=.ck)
 (h:am P cfg f [⟨none,op,none⟩] E H fun E' H'=>∀v,cp P cfg f l (I++[⟨op,true,E,H,v,H'⟩]) E' H' Q):cp P cfg f (⟨none,op,none⟩::l) I E H Q:=by
 unfold am at h;simp only[]at h;unfold cp;refine dk.mono (fun v H' A=>?_) h;unfold am at A;exact A v
theorem cp.guard{d:qt}{op:Op}{t:Bool}{Q:List Rc->ae->Hp->Prop}(h:E.at s=.bool t)(m:t=b->cp P cfg f (⟨d,op,none⟩::l) I E H Q)(o:t=!b->cp P cfg f l (I++[⟨op,false,E,H,b5,H⟩]) (aJ E d b5) H Q):
 cp P cfg f (⟨d,op,some (s,b)⟩::l) I E H Q:=by
 unfold cp;simp only[];by_cases e:t=b
 .left
  refine⟨by rw[h,e],?_⟩;have:=m e;unfold cp at this;exact this
 .right
  have W:t=!b:=by cases t<;>cases b<;>simp_all
  exact⟨.inl (by rw[h,W]),o W⟩
def w9{bA:Hp}(h:ay E x=some a)(m:dq P H t a=some v):gU P cfg ⟨.load t x,true,E,bA,v,F⟩ H:=
 ⟨H,by simp only[b6,bE,nq,Go.Ab.ret,h,m,cO]⟩
def CP{y:Operand}{ok:Bool}{bA:Hp}{b:AV}(h:ay E x=some a)(m:ay E y=some b)(o:di P H t a b ok=some v):gU P cfg ⟨.lookup t x y ok,true,E,bA,v,F⟩ H:=
 ⟨H,by simp only[b6,bE,ny,Go.Ab.ret,h,m,o,cO]⟩
def xa{bA:Hp}(h:ay E x=some a)(m:dr P H t a=some v):gU P cfg ⟨.call ⟨.builtin .len,#[x],#[t]⟩,true,E,bA,v,F⟩ H:=
 ⟨H,by simp only[b6,iF,cN,h,fQ,m,cO]⟩
def CQ{s:TypeId}{bA:Hp}(h:ay E x=some a)(m:gk P H s t a=some v):gU P cfg ⟨.convert s t x,true,E,bA,v,F⟩ H:=
 ⟨H,by simp only[b6,bE,nr,Go.Ab.ret,h,m,cO]⟩
def CR{I:Option Operand}{bA:Hp}(h:ay E x=some a)(m:ev E U=some A)(o:ev E I=some M)(Z:gD P H t a A M=some v):gU P cfg ⟨.slice t x U I none,true,E,bA,v,F⟩ H:=
 ⟨H,by simp only[b6,bE,nw,Go.Ab.ret,h,m,o,Z,cO]⟩
def CS{op:Op}{bA:Hp}{b:HB}(A:cS op=.make)(h:H.get bA.next=some b)(o:F.get bA.next=some b):gU P cfg ⟨op,true,E,bA,v,F⟩ H:=by
 unfold gU;rw[A];exact⟨b,h,o⟩
def xb{r:Rc}(h:I[i]?=some r)(J:r.did=true->gU P cfg r (mw I H' m)):rK P cfg I H' i m:=by
 unfold rK;rw[h];exact J
end
section
variable {P:Program} {cfg:Cfg} {f:FuncId} {l:List SOp} {E:ae} {H:Hp} {Q:ae -> Hp -> Prop} {d:Nat} {x y:Operand} {ts:Array TypeId} {k k':IntKind} {a b:Int}
def am.min2(h:ay E x=some (.int k a))(m:ay E y=some (.int k' b))(A:am P cfg f l (T.set E d (some (.int k (min a b)))) H Q):am P cfg f (⟨some d,.call ⟨.builtin .min,#[x,y],ts⟩,none⟩::l) E H Q:=
 mo (c:=⟨.builtin .min,#[x,y],ts⟩) rfl (vs:=[.int k a,.int k' b]) (by simp only[cN,h,m]) (v:=.int k (min a b)) (by
  simp only[fQ,gF,mm,bK,cT,dE]
  congr 3;omega) A
def am.max2(h:ay E x=some (.int k a))(m:ay E y=some (.int k' b))(A:am P cfg f l (T.set E d (some (.int k (max a b)))) H Q):am P cfg f (⟨some d,.call ⟨.builtin .max,#[x,y],ts⟩,none⟩::l) E H Q:=
 mo (c:=⟨.builtin .max,#[x,y],ts⟩) rfl (vs:=[.int k a,.int k' b]) (by simp only[cN,h,m]) (v:=.int k (max a b)) (by
  simp only[fQ,gF,mm,cy,dE]
  congr 3;omega) A
end
attribute [irreducible] cp
end Go.Ab
namespace Go.Proofs.Ytbflaciihaijgaa
set_option maxRecDepth 20000
open Go Go.Ab Proofs.Try
variable{t:Nat}
def fit:Fit prog:=Fit.of az
def pls:List (Nat×Nat×zae):=[(36,14,(.b0 [0,1,2,4,5,7,9,3,6,8,10])),
 (73,23,(.b0 [0,1,2,3,4,5,6,7,9,10,11,12,13,14,8,15,16,17,18,19])),
 (73,24,(.b0 [0,1,2,3,4,5,6,8,9,10,11,12,13,7,14,15,16])),
 (133,23,(.b0 [0,2,3,4,5,6,7,1,8,9]))]
def a2:=ac @CL (ac @List.toList_toArray.{0} (ac @jx (ac @jr (ac @fW (ac @nX (ac @rn (ac @List.length_map.{0,0} (ac @Int.natCast_zero (ac @BH (ac @BI (ac @BJ (ac @BK (ac @BL (ac @jw (ac @cond_true.{1} (ac @cond_false.{1} (@dd)))))))))))))))))
def bG:=ac @Ex.aX (ac @Ex.c0 (ac @Ex.c1 (ac @Ex.c2 (ac @Ex.c3 (ac @Ex.c4 (ac @Ex.aF (ac @Ex.one (ac @St.aX (ac @St.c0 (ac @St.c1 (ac @St.c2 (ac @St.c3 (ac @St.c4 (ac @St.c5 (ac @St.c6 (ac @St.c7 (ac @St.c8 (ac @St.c9 (ac @St.c10 (ac @St.c11 (ac @St.c12 (ac @St.c13 (ac @St.c14 (ac @St.c15 (ac @St.c16 (ac @St.aF (ac @St.one (ac @CF (ac @St.a6 (ac @Fu.aX (ac @Fu.c0 (ac @Fu.c1 (ac @Fu.c2 (ac @Fu.c3 (ac @Fu.c4 (ac @Fu.c5 (ac @Fu.c6 (ac @Fu.c7 (ac @Fu.c8 (ac @Fu.aF (ac @Fu.one (ac @Fu.a6 (ac @Ar.aX (ac @Ar.c0 (ac @Ar.c1 (ac @Ar.aF (ac @Ar.one (ac @Pr.aX (ac @Pr.c0 (ac @Pr.c1 (ac @Pr.aF (ac @Pr.one (ac @Tk.aX (ac @Tk.c0 (ac @Tk.c1 (ac @Tk.c2 (ac @Tk.aF (ac @Tk.one (ac @Nd.aX (ac @Nd.c0 (ac @Nd.c1 (ac @Nd.c2 (ac @Nd.aF (ac @Nd.one (ac @Gr.aX (ac @Gr.c0 (ac @Gr.c1 (ac @Gr.c2 (ac @Gr.c3 (ac @Gr.c4 (ac @Gr.aF (ac @Gr.one (ac @Un.aX (ac @Un.c0 (ac @Un.c1 (ac @Un.aF (ac @Un.one (ac @Cy (ac @Cz (ac @CA (ac @CB (ac @List.getElem?_drop.{0} (ac @iJ (ac @if_true.{1} (ac @Cd (ac @Cc (ac @wS (ac @Ce (ac @Cf (ac @Cg (ac @Ch (ac @Ci (ac @Cj (ac @Ck (ac @Cl (ac @Cm (ac @Cn (ac @Co (ac @Cp (ac @Cq (ac @Cr (ac @Cs (ac @Ct (ac @Cu (ac @Cv (ac @Cw (ac @List.all_cons.{0} (ac @List.all_nil.{0} (ac @la (ac @oA (ac @df (ac @k5 (ac @eC (ac @aA (ac @List.nil_append.{0} (ac @List.append_nil.{0} (ac @List.cons_append.{0} (ac @cb (ac @cH (ac @jx (ac @beq_self_eq_true.{0} (ac @CC (ac @CD (ac @CE (ac @eP (ac @List.getElem?_map.{0,0} (ac @Option.map_some.{0,0} (ac @rA (ac @Cb (ac @Ca (ac @B6 (ac @B7 (ac @get_set (ac @wQ (ac @List.getElem?_cons_succ.{0} (ac @List.getElem?_cons_zero.{0} (ac @List.drop_succ_cons.{0} (ac @List.drop_zero.{0} (ac @List.take_succ_cons.{0} (ac @List.take_zero.{0} (ac @List.length_cons.{0} (ac @List.length_nil.{0} (ac @Int.natCast_nonneg (ac @Int.toNat_natCast (ac @BM (ac @BN (ac @BO (ac @BQ (ac @BR (ac @BS (ac @BT (ac @BU (ac @BV (ac @BW (ac @BX (ac @BY (ac @BZ (ac @B0 (ac @B1 (@B2))))))))))))))))))))))))))))))))))))))))))))))))))))))))))))))))))))))))))))))))))))))))))))))))))))))))))))))))))))))))))))))))))))))))))))))))))))))))))))))))
structure zac (cfg:Cfg) (f:FuncId):Prop where
 call:∀args,cfg.call f args=none
 aB:cfg.aB f=false
 an:cfg.an f=false
abbrev bS(t i k u:Nat):Prop:=(∀r o:Nat,jP prog t (.ptr r o) i=some (.ptr r (o+k)))/\(∀cs:qh,jP prog t (.aN cs) i=some (.aN (cs.drop k)))/\∀cs:qh,kD prog t (.agg cs) i=bR prog u cs k
def bZ{i k u:Nat}(h:bS t i k u:=by exact⟨fun _ _=>az,fun _=>az,fun _=>az⟩):bS t i k u:=h
abbrev kc(t s:Nat):Prop:=∀(r o l z:Nat) {n:Int} (_:0<=n) (k:IntKind),cV prog t (.sl r o l z) (.int k n)=bif decide (n.toNat<l)then some (.ptr r (o+n.toNat*s))else none
abbrev jB(t s:Nat):Prop:=(∀(I:List qh) {n:Int} (_:0<=n) (k:IntKind),cV prog t (.af I) (.int k n)=ry s (I[n.toNat]?))/\(∀(H:Hp) (I:List qh),dr prog H t (.af I)=some (.int .i64 I.length))/\(∀(H:Hp) (r o n z:Nat),dr prog H t (.sl r o n z)=some (.int .i64 n))/\∀H:Hp,dr prog H t .ab=some (.int .i64 0)
def ke{e s:Nat}(h:prog.underlying t=some (.slice e))(J:aZ prog e=some s):jB t s:=⟨fun I _ S k=>B8 h J I S k,fun _ I=>wM h I,fun _ r o n z=>ru h r o n z,fun _=>rx h⟩
def oD:aZ prog 2=some 1:=az
def rL:bT prog 2=some 8:=az
def CT(cs:qh)(o:Nat):bR prog 2 cs o=cs[o]?:=dP underlying2 rfl cs o
def rM:bM prog 2=some [(.int .i64 0)]:=az
def fE:=ac @oD (ac @CT (ac @rL (@rM)))
def CU:aZ prog 3=some 1:=az
def CV:bT prog 3=some 8:=az
def CW(cs:qh)(o:Nat):bR prog 3 cs o=cs[o]?:=dP underlying3 rfl cs o
def CX:bM prog 3=some [(.int .i64 0)]:=az
def dF:=ac @CU (ac @CW (ac @CV (@CX)))
def CY:aZ prog 5=some 1:=az
def CZ:bT prog 5=some 1:=az
def C0(cs:qh)(o:Nat):bR prog 5 cs o=cs[o]?:=dP underlying5 rfl cs o
def C1:bM prog 5=some [(.int .u8 0)]:=az
def rN:=ac @CY (ac @C0 (ac @CZ (@C1)))
def tQ:aZ prog 9=some 1:=az
def xc:bT prog 9=some 16:=az
def C2(cs:qh)(o:Nat):bR prog 9 cs o=cs[o]?:=dP underlying9 rfl cs o
def xd:bM prog 9=some [(.ad [])]:=az
def C3(H:Hp)(s:qi):dr prog H 9 (.ad s)=some (.int .i64 s.length):=B3 underlying9 s
def C4(s:qi){n:Int}(S:0<=n)(k:IntKind):iC prog 9 (.ad s) (.int k n)=rz (s[n.toNat]?):=B9 underlying9 s S k
def eV:=ac @tQ (ac @C2 (ac @xc (ac @xd (ac @C3 (@C4)))))
def C5:aZ prog 22=some 1:=az
def C6:bT prog 22=some 24:=az
def C7(cs:qh)(o:Nat):bR prog 22 cs o=cs[o]?:=dP underlying22 rfl cs o
def C8:bM prog 22=some [.ab]:=az
def C9:kc 22 1:=fun r o l z _ S k=>j8 underlying22 (show aZ prog 3=some 1 from by kernel_rfl) r o l z S k
def Da:jB 22 1:=ke underlying22 (show aZ prog 3=some 1 from by kernel_rfl)
def xe:=ac @C5 (ac @C7 (ac @C6 (ac @C8 (ac @C9 (@Da)))))
def Db:aZ prog 23=some 1:=az
def Dc:bT prog 23=some 24:=az
def Dd(cs:qh)(o:Nat):bR prog 23 cs o=cs[o]?:=dP underlying23 rfl cs o
def De:bM prog 23=some [.ab]:=az
def Df:kc 23 2:=fun r o l z _ S k=>j8 underlying23 (show aZ prog 71=some 2 from by kernel_rfl) r o l z S k
def Dg:jB 23 2:=ke underlying23 (show aZ prog 71=some 2 from by kernel_rfl)
def my:=ac @Db (ac @Dd (ac @Dc (ac @De (ac @Df (@Dg)))))
def Dh:aZ prog 39=some 1:=az
def Di:bT prog 39=some 24:=az
def Dj(cs:qh)(o:Nat):bR prog 39 cs o=cs[o]?:=dP underlying39 rfl cs o
def Dk:bM prog 39=some [.ab]:=az
def Dl:kc 39 9:=fun r o l z _ S k=>j8 underlying39 (show aZ prog 63=some 9 from by kernel_rfl) r o l z S k
def Dm:jB 39 9:=ke underlying39 (show aZ prog 63=some 9 from by kernel_rfl)
def mz:=ac @Dh (ac @Dj (ac @Di (ac @Dk (ac @Dl (@Dm)))))
def xf:aZ prog 41=some 2:=az
def Dn:bT prog 41=some 48:=az
def Do(cs:qh)(o:Nat):bR prog 41 cs o=b8 2 (cs.drop o):=ij underlying41 rfl xf cs o
def Dp:bM prog 41=some [.ab,.ab]:=az
def Dq:bS 41 0 0 23/\bS 41 1 1 39:=⟨bZ,bZ⟩
def iS:=ac @xf (ac @Do (ac @Dn (ac @Dp (@Dq))))
def Dr:aZ prog 42=some 1:=az
def Ds:bT prog 42=some 8:=az
def Dt(cs:qh)(o:Nat):bR prog 42 cs o=cs[o]?:=dP underlying42 rfl cs o
def Du:bM prog 42=some [(.int .i64 0)]:=az
def lq:=ac @Dr (ac @Dt (ac @Ds (@Du)))
def xg:aZ prog 44=some 2:=az
def Dv:bT prog 44=some 16:=az
def Dw(cs:qh)(o:Nat):bR prog 44 cs o=b8 2 (cs.drop o):=ij underlying44 rfl xg cs o
def Dx:bM prog 44=some [(.int .i64 0),(.int .i64 0)]:=az
def Dy:bS 44 0 0 42/\bS 44 1 1 3:=⟨bZ,bZ⟩
def iT:=ac @xg (ac @Dw (ac @Dv (ac @Dx (@Dy))))
def Dz:aZ prog 50=some 1:=az
def DA:bT prog 50=some 24:=az
def DB(cs:qh)(o:Nat):bR prog 50 cs o=cs[o]?:=dP underlying50 rfl cs o
def DC:bM prog 50=some [.ab]:=az
def DD:kc 50 1:=fun r o l z _ S k=>j8 underlying50 (show aZ prog 2=some 1 from by kernel_rfl) r o l z S k
def DE:jB 50 1:=ke underlying50 (show aZ prog 2=some 1 from by kernel_rfl)
def kf:=ac @Dz (ac @DB (ac @DA (ac @DC (ac @DD (@DE)))))
def xh:aZ prog 52=some 4:=az
def DF:bT prog 52=some 48:=az
def DG(cs:qh)(o:Nat):bR prog 52 cs o=b8 4 (cs.drop o):=ij underlying52 rfl xh cs o
def DH:bM prog 52=some [(.int .i64 0),(.int .i64 0),.ab,(.int .i64 0)]:=az
def DI:bS 52 0 0 3/\bS 52 1 1 3/\bS 52 2 2 50/\bS 52 3 3 2:=⟨bZ,bZ,bZ,bZ⟩
def xi:=ac @xh (ac @DG (ac @DF (ac @DH (@DI))))
def DJ:aZ prog 57=some 1:=az
def DK:bT prog 57=some 24:=az
def DL(cs:qh)(o:Nat):bR prog 57 cs o=cs[o]?:=dP underlying57 rfl cs o
def DM:bM prog 57=some [.ab]:=az
def DN:kc 57 5:=fun r o l z _ S k=>j8 underlying57 (show aZ prog 59=some 5 from by kernel_rfl) r o l z S k
def DO:jB 57 5:=ke underlying57 (show aZ prog 59=some 5 from by kernel_rfl)
def gV:=ac @DJ (ac @DL (ac @DK (ac @DM (ac @DN (@DO)))))
def xj:aZ prog 59=some 5:=az
def DP:bT prog 59=some 64:=az
def DQ(cs:qh)(o:Nat):bR prog 59 cs o=b8 5 (cs.drop o):=ij underlying59 rfl xj cs o
def DR:bM prog 59=some [(.int .i64 0),(.int .i64 0),(.ad []),(.int .i64 0),.ab]:=az
def DS:bS 59 0 0 3/\bS 59 1 1 2/\bS 59 2 2 9/\bS 59 3 3 3/\bS 59 4 4 57:=⟨bZ,bZ,bZ,bZ,bZ⟩
def gy:=ac @xj (ac @DQ (ac @DP (ac @DR (@DS))))
def DT:aZ prog 60=some 1:=az
def DU:bT prog 60=some 24:=az
def DV(cs:qh)(o:Nat):bR prog 60 cs o=cs[o]?:=dP underlying60 rfl cs o
def DW:bM prog 60=some [.ab]:=az
def DX:kc 60 1:=fun r o l z _ S k=>j8 underlying60 (show aZ prog 9=some 1 from by kernel_rfl) r o l z S k
def DY:jB 60 1:=ke underlying60 (show aZ prog 9=some 1 from by kernel_rfl)
def lr:=ac @DT (ac @DV (ac @DU (ac @DW (ac @DX (@DY)))))
def DZ:aZ prog 61=some 1:=az
def D0:bT prog 61=some 24:=az
def D1(cs:qh)(o:Nat):bR prog 61 cs o=cs[o]?:=dP underlying61 rfl cs o
def D2:bM prog 61=some [.ab]:=az
def D3:kc 61 17:=fun r o l z _ S k=>j8 underlying61 (show aZ prog 124=some 17 from by kernel_rfl) r o l z S k
def D4:jB 61 17:=ke underlying61 (show aZ prog 124=some 17 from by kernel_rfl)
def jC:=ac @DZ (ac @D1 (ac @D0 (ac @D2 (ac @D3 (@D4)))))
def tR:aZ prog 63=some 9:=az
def xl:bT prog 63=some 152:=az
def D5(cs:qh)(o:Nat):bR prog 63 cs o=b8 9 (cs.drop o):=ij underlying63 rfl tR cs o
def xm:bM prog 63=some [(.ad []),.ab,.ab,.ab,(.int .i64 0),(.int .i64 0),(.ad []),(.int .i64 0),.ab]:=az
def D6:bS 63 0 0 9/\bS 63 1 1 60/\bS 63 2 2 60/\bS 63 3 3 61/\bS 63 4 4 59:=⟨bZ,bZ,bZ,bZ,bZ⟩
def mA:=ac @tR (ac @D5 (ac @xl (ac @xm (@D6))))
def tS:aZ prog 71=some 2:=az
def xn:bT prog 71=some 24:=az
def D7(cs:qh)(o:Nat):bR prog 71 cs o=b8 2 (cs.drop o):=ij underlying71 rfl tS cs o
def xo:bM prog 71=some [(.ad []),(.int .i64 0)]:=az
def D8:bS 71 0 0 9/\bS 71 1 1 3:=⟨bZ,bZ⟩
def xp:=ac @tS (ac @D7 (ac @xn (ac @xo (@D8))))
def D9:aZ prog 72=some 1:=az
def Ea:bT prog 72=some 24:=az
def Eb(cs:qh)(o:Nat):bR prog 72 cs o=cs[o]?:=dP underlying72 rfl cs o
def Ec:bM prog 72=some [.ab]:=az
def Ed:kc 72 3:=fun r o l z _ S k=>j8 underlying72 (show aZ prog 116=some 3 from by kernel_rfl) r o l z S k
def Ee:jB 72 3:=ke underlying72 (show aZ prog 116=some 3 from by kernel_rfl)
def jD:=ac @D9 (ac @Eb (ac @Ea (ac @Ec (ac @Ed (@Ee)))))
def xq:aZ prog 77=some 5:=az
def Ef:bT prog 77=some 56:=az
def Eg(cs:qh)(o:Nat):bR prog 77 cs o=b8 5 (cs.drop o):=ij underlying77 rfl xq cs o
def Eh:bM prog 77=some [.ab,(.int .i64 0),(.int .i64 0),(.int .i64 0),(.int .i64 0)]:=az
def Ei:bS 77 0 0 72/\bS 77 1 1 3/\bS 77 2 2 3/\bS 77 3 3 44:=⟨bZ,bZ,bZ,bZ⟩
def lw:=ac @xq (ac @Eg (ac @Ef (ac @Eh (@Ei))))
def Ej:aZ prog 83=some 1:=az
def Ek:bT prog 83=some 8:=az
def El(cs:qh)(o:Nat):bR prog 83 cs o=cs[o]?:=dP underlying83 rfl cs o
def Em:bM prog 83=some [.aO]:=az
def lx:=ac @Ej (ac @El (ac @Ek (@Em)))
def Eo:aZ prog 90=some 1:=az
def Ep:bT prog 90=some 8:=az
def Er(cs:qh)(o:Nat):bR prog 90 cs o=cs[o]?:=dP underlying90 rfl cs o
def Es:bM prog 90=some [.aO]:=az
def ly:=ac @Eo (ac @Er (ac @Ep (@Es)))
def xr:aZ prog 92=some 8:=az
def Et:bT prog 92=some 112:=az
def Eu(cs:qh)(o:Nat):bR prog 92 cs o=b8 8 (cs.drop o):=ij underlying92 rfl xr cs o
def Ev:bM prog 92=some [.ab,.ab,.aO,.aO,(.int .i64 0),(.int .i64 0),(.int .i64 0),.ab]:=az
def Ew:bS 92 0 0 41/\bS 92 1 2 90/\bS 92 2 3 83/\bS 92 3 4 3/\bS 92 4 5 3/\bS 92 5 6 3/\bS 92 6 7 50:=⟨bZ,bZ,bZ,bZ,bZ,bZ,bZ⟩
def lz:=ac @xr (ac @Eu (ac @Et (ac @Ev (@Ew))))
def xt:aZ prog 104=some 2:=az
def Ey:bT prog 104=some 32:=az
def Ez(cs:qh)(o:Nat):bR prog 104 cs o=b8 2 (cs.drop o):=ij underlying104 rfl xt cs o
def EA:bM prog 104=some [.ab,(.int .i64 0)]:=az
def EB:bS 104 0 0 22/\bS 104 1 1 3:=⟨bZ,bZ⟩
def xu:=ac @xt (ac @Ez (ac @Ey (ac @EA (@EB))))
def rO:aZ prog 116=some 3:=az
def xw:bT prog 116=some 32:=az
def EC(cs:qh)(o:Nat):bR prog 116 cs o=b8 3 (cs.drop o):=ij underlying116 rfl rO cs o
def xy:bM prog 116=some [(.int .i64 0),(.ad []),(.int .i64 0)]:=az
def ED:bS 116 0 0 3/\bS 116 1 1 9/\bS 116 2 2 3:=⟨bZ,bZ,bZ⟩
def lA:=ac @rO (ac @EC (ac @xw (ac @xy (@ED))))
def EE:aZ prog 118=some 1:=az
def EF:bT prog 118=some 8:=az
def EG(cs:qh)(o:Nat):bR prog 118 cs o=cs[o]?:=dP underlying118 rfl cs o
def EH:bM prog 118=some [(.int .u64 0)]:=az
def rP:=ac @EE (ac @EG (ac @EF (@EH)))
def rQ:aZ prog 124=some 17:=az
def tT:bT prog 124=some 248:=az
def EI(cs:qh)(o:Nat):bR prog 124 cs o=b8 17 (cs.drop o):=ij underlying124 rfl rQ cs o
def tU:bM prog 124=some [(.int .i64 0),(.ad []),(.ad []),(.int .i64 0),(.int .i64 0),(.int .i64 0),(.ad []),(.int .i64 0),.ab,(.int .i64 0),(.int .i64 0),(.ad []),(.int .i64 0),.ab,.ab,.ab,.ab]:=az
def EJ:bS 124 0 0 3/\bS 124 1 1 9/\bS 124 2 2 9/\bS 124 3 3 3/\bS 124 4 4 59/\bS 124 5 9 59/\bS 124 6 14 57/\bS 124 7 15 61/\bS 124 8 16 61:=⟨bZ,bZ,bZ,bZ,bZ,bZ,bZ,bZ,bZ⟩
def lB:=ac @rQ (ac @EI (ac @tT (ac @tU (@EJ))))
def EK:aZ prog 129=some 1:=az
def EL:bT prog 129=some 8:=az
def EM(cs:qh)(o:Nat):bR prog 129 cs o=cs[o]?:=dP underlying129 rfl cs o
def EN:bM prog 129=some [.aO]:=az
def oE:=ac @EK (ac @EM (ac @EL (@EN)))
def EO:aZ prog 132=some 1:=az
def EP:bT prog 132=some 8:=az
def EQ(cs:qh)(o:Nat):bR prog 132 cs o=cs[o]?:=dP underlying132 rfl cs o
def ER:bM prog 132=some [(.int .u64 0)]:=az
def ES:=ac @EO (ac @EQ (ac @EP (@ER)))
def ET(H:Hp)(k:IntKind)(n:Int):gk prog H 2 118 (.int k n)=some (.int .u64 (IntKind.wrap .u64 n)):=oz
def EU(H:Hp)(k:IntKind)(n:Int):gk prog H 2 132 (.int k n)=some (.int .u64 (IntKind.wrap .u64 n)):=oz
def EV(H:Hp)(k:IntKind)(n:Int):gk prog H 5 118 (.int k n)=some (.int .u64 (IntKind.wrap .u64 n)):=oz
def xz(H:Hp)(k:IntKind)(n:Int):gk prog H 118 2 (.int k n)=some (.int .i64 (IntKind.wrap .i64 n)):=oz
def xA(H:Hp)(k:IntKind)(n:Int):gk prog H 118 3 (.int k n)=some (.int .i64 (IntKind.wrap .i64 n)):=oz
end Go.Proofs.Ytbflaciihaijgaa
namespace Go.Ab
set_option maxRecDepth 20000
open Go
variable {P:Program} {cfg:Cfg} {f N:Nat}
variable{a:Nat}{E:ae}{H:Hp}{Q:AX->ae->Hp->Prop}{p:Nat->Prop}
def oF{a:SC}(cs rs:qp)(U n:Nat)(J:Nat->ae->Hp->Prop)(M:E.at U=.int .i64 0)(Z:J 0 E H)
 (h:∀(i:Nat) (E':ae) (H':Hp),i<=n->(∀k∈cs,E'.at k=E.at k)->(∀r∈rs,H'.get r=H.get r)->H.next<=H'.next->E'.at U=.int .i64 i->J i E' H' ->
   bc P cfg f N a E' H' (jv Q fun I V=>i<n/\(∀k∈cs,I.at k=E.at k)/\(∀r∈rs,V.get r=H.get r)/\H.next<=V.next/\I.at U=.int .i64 ((i+1:Nat):Int)/\J (i+1) I V)):bc P cfg f N (.loop a) E H Q:=
 j7 (fun i E' H'=>(∀k∈cs,E'.at k=E.at k)/\(∀r∈rs,H'.get r=H.get r)/\H.next<=H'.next/\E'.at U=.int .i64 i/\J i E' H') n (fun i E' H' Y ⟨m,o,F,W,S⟩=>h i E' H' Y m o F W S) ⟨fun _ _=>rfl,fun _ _=>rfl,aA _,M,Z⟩
def lC{a:SC}(cs rs:qp)(J:Nat->ae->Hp->Prop)(n:Nat)(Z:J n E H)
 (h:∀(i:Nat) (E':ae) (H':Hp),(∀k∈cs,E'.at k=E.at k)->(∀r∈rs,H'.get r=H.get r)->H.next<=H'.next->J i E' H' ->
   bc P cfg f N a E' H' (jv Q fun I V=>(∀k∈cs,I.at k=E.at k)/\(∀r∈rs,V.get r=H.get r)/\H.next<=V.next/\∃m,m<i/\J m I V)):bc P cfg f N (.loop a) E H Q:=
 bc.loop (fun i E' H'=>(∀k∈cs,E'.at k=E.at k)/\(∀r∈rs,H'.get r=H.get r)/\H.next<=H'.next/\J i E' H') (fun i E' H' ⟨Y,o,F,W⟩=>oB (fun x I V A=>by
  cases x with
  |normal=>obtain⟨C,U,O,m,S,M⟩:=A;exact⟨m,S,C,U,O,M⟩
  |exit id=>exact A
  |ret=>exact A) (h i E' H' Y o F W)) (n:=n) ⟨fun _ _=>rfl,fun _ _=>rfl,aA _,Z⟩
def em{l:qp}:(∀k∈a::l,p k)↔p a/\∀k∈l,p k:=tI
def ep:(∀k∈([]:qp),p k)↔True:=⟨fun _=>trivial,fun _ _ h=>k2⟩
def bH{b:Nat}(h:a≠b):(a == b)=false:=eF
def oG{i n:Nat}(h:i<n)(S:n<2^62):AV.int .i64 (IntKind.wrap .i64 ((i:Int)+1))=.int .i64 ((i+1:Nat):Int):=by rw[mp aa]
end Go.Ab
