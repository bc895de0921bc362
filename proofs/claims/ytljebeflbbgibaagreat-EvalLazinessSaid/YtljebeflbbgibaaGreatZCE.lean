/- Parts: AbFuel, AbEnv, AbWp, Tree, Spec4, Spec6, Sem6, Rep6, AbWd, Rep6c, EvS, AbWt, AbPure. -/
import Derived.IntWalk
import Derived.Test.YtljebeflbbgibaaGreatZCD
set_option linter.unusedSimpArgs false
set_option linter.unusedVariables false
set_option linter.unusedSectionVars false
set_option linter.defProp false
set_option maxHeartbeats 32000000
namespace Go.Ab
set_option maxRecDepth 20000
open Go
theorem tV{P:Prop}(h:P:=by rw[hr];simp):P:=h
theorem rD{P:Prop}(h:P:=by rw[W];simp):P:=h
theorem zI{P:Prop}(h:P:=by simp only[zeq,h,h1]):P:=h
theorem lP{P:Prop}(h:P:=by simp[zdr,nz,zeE]):P:=h
theorem v4{P:Prop}(h:P:=by unfold zc0;rw[h]):P:=h
theorem pN{P:Prop}(h:P:=by rw[Ex.cells_eq];rfl):P:=h
theorem hL{P:Prop}(h:P:=by rw[St.cells_eq];rfl):P:=h
theorem lQ{P:Prop}(h:P:=by rw[Fu.cells_eq];rfl):P:=h
theorem v6{P:Prop}(h:P:=by rw[Ar.cells_eq];rfl):P:=h
theorem v7{P:Prop}(h:P:=by rw[Pr.cells_eq];rfl):P:=h
theorem tW{P:Prop}(h:P:=by rw[Tk.cells_eq];rfl):P:=h
theorem tX{P:Prop}(h:P:=by rw[Nd.cells_eq];rfl):P:=h
theorem pO{P:Prop}(h:P:=by rw[Gr.cells_eq];rfl):P:=h
theorem v8{P:Prop}(h:P:=by rw[Un.cells_eq];rfl):P:=h
theorem Dy{P:Prop}(h:P:=by simp only[zcF,gH,beq_self_eq_true,cond_true]):P:=h
theorem Dz{P:Prop}(h:P:=by show zdn l g (enc x)=_;rw[Z];exact z5 I F):P:=h
def v9:=@Nat.le_max_left
def wa:=@Nat.le_max_right
def nK:=@cond_false
def ez:=@Int.eq_ofNat_of_zero_le
def d7:=@List.drop_eq_getElem_cons
def dK:=@Bool.false_and
def jN:=@Bool.and_true
def mE:=@and_self
def zJ:=@Classical.choose_spec
end Go.Ab
namespace Go.Ab
set_option maxRecDepth 20000
open Go
def zeu(ih ih':Task->Res):Prop:=∀t,ih t≠.fail->ih' t=ih t
section
variable {P:Program} {cfg:Cfg} {ih ih':Task -> Res}
theorem wb(h:zeu ih ih'){f:FuncId}{E:ao}{H:Hp}{op:Op}(m:zdA P cfg ih f E H op≠.fail):zdA P cfg ih' f E H op=zdA P cfg ih f E H op:=by
 unfold zdA at *;split
 .rename_i c;unfold ou at *;split
  .rename_i g A;simp only[A]at m;split
   .rename_i k U vs i Z;simp only[i,Z]at m;exact h _ m
   .rfl
  .rfl
  .rfl
 .rfl
theorem tY{f N:Nat}{C:List Oper}{o:Oper}{l:List Oper}{E:ao}{H:Hp}:zeG P cfg ih f N C (o::l) E H=match zey C E o with
 |true=>match zdA P cfg ih f E H o.op with
  | .val v H=>zeK (zeG P cfg ih f N C l) H (dW N E o.dst v)
  |_=>.fail
 |false=>zeK (zeG P cfg ih f N C l) H (dW N E o.dst zdx):=rfl
theorem wc(h:zeu ih ih'){f N:Nat}{C:List Oper}:∀{l:List Oper}{E:ao}{H:Hp},zeG P cfg ih f N C l E H≠.fail->zeG P cfg ih' f N C l E H=zeG P cfg ih f N C l E H
 |[],_,_,_=>rfl
 |o::l,E,H,hn=>by
  rw[tY]at hn⊢;rw[tY];cases Z:zey C E o with
  |true=>
   simp only[Z]at hn⊢;cases J:zdA P cfg ih f E H o.op with
   |fail=>simp[J]at hn
   |done x E1 H1=>simp[J]at hn
   |val v H1=>
    rw[wb h (by rw[J];simp),J];simp only[J]at hn⊢;cases hp:dW N E o.dst v with
    |none=>rfl
    |some E1=>
     rw[hp]at hn;exact wc h hn
  |false=>
   simp only[Z]at hn⊢;cases hp:dW N E o.dst zdx with
   |none=>rfl
   |some E1=>
    rw[hp]at hn;exact wc h hn
theorem wd(h:zeu ih ih'){f N:Nat}{C:List Oper}:∀{l:List Oper}{E:ao}{H:Hp},gA P cfg ih f N C l E H≠.fail->gA P cfg ih' f N C l E H=gA P cfg ih f N C l E H
 |[],_,_,_=>rfl
 |o::l,E,H,hn=>by
  have O:∀{r:Rec}{x:ResD},kT r x≠.fail->x≠.fail:=fun{r x} F e=>F (by rw[e];rfl);simp only[gA]at hn⊢;cases Z:zey C E o with
  |true=>
   simp only[Z]at hn⊢;cases J:zdA P cfg ih f E H o.op with
   |fail=>simp[J]at hn
   |done x E1 H1=>simp[J]at hn
   |val v H1=>
    rw[wb h (by rw[J];simp),J];simp only[J]at hn⊢;cases hp:dW N E o.dst v with
    |none=>rfl
    |some E1=>
     rw[hp]at hn;have:=wd h (O hn);simp only[ze5,this]
  |false=>
   simp only[Z]at hn⊢;cases hp:dW N E o.dst zdx with
   |none=>rfl
   |some E1=>
    rw[hp]at hn;have:=wd h (O hn);simp only[ze5,this]
theorem DA(h:zeu ih ih'){f N:Nat}{ops:List Oper}{E:ao}{H:Hp}(m:ze0 P cfg ih f N ops E H≠.fail):ze0 P cfg ih' f N ops E H=ze0 P cfg ih f N ops E H:=by
 unfold ze0 at *;split
 .rename_i hc;simp only[hc]at m;cases hr:gA P cfg ih f N ops ops E H with
  |fail=>simp[hr]at m
  |done E1 H1 rs=>rw[wd h tV,hr]
 .rfl
theorem Me{ops:List Oper}{zct r2 U V:Res}(h1:zct≠.fail->U=zct)(h2:r2≠.fail->V=r2)(m:px ops zct r2≠.fail):px ops U V=px ops zct r2:=by
 have W:zct≠.fail:=fun e=>m (by rw[e];rfl);have Y:r2≠.fail:=fun e=>m (by rw[e];unfold px;split<;>simp_all);rw[h1 W,h2 Y]
theorem zK(h:zeu ih ih'){f N:Nat}{E:ao}{H:Hp}:∀{Z:Plan}{ops:List Oper},zeF P cfg ih f N E H Z ops≠.fail->zeF P cfg ih' f N E H Z ops=zeF P cfg ih f N E H Z ops
 | .text,ops,hn=>DA h hn
 | .perm ord,ops,hn=>by
   simp only[zeF]at *;split
   .rename_i hp;simp only[hp]at hn;exact DA h hn
   .rfl
 | .split p q a b,ops,hn=>by
   simp only[zeF]at *;split
   .rfl
   .rename_i hp;simp only[hp]at hn;exact Me (fun i=>zK h i) (fun g=>zK h g) hn
theorem zL(h:zeu ih ih'){f:FuncId}{args:List AV}{H:Hp}(m:ze6 P ih f args H≠.fail):ze6 P ih' f args H=ze6 P ih f args H:=by
 unfold ze6 at *;split
 .rename_i Z i;simp only[i]at m;split
  .rename_i c z;simp only[z]at m;cases hr:ih (.code f (max Z.ntmps args.length) c (zcr 0 args (py (max Z.ntmps args.length))) H)with
   |fail=>simp[hr]at m
   |val v H1=>rw[h _ tV,hr]
   |done x E1 H1=>rw[h _ tV,hr]
  .rfl
 .rfl
theorem Mf(h:zeu ih ih'){f:FuncId}{args:List AV}{H:Hp}(m:kY P cfg ih f args H≠.fail):kY P cfg ih' f args H=kY P cfg ih f args H:=by
 unfold kY at *;split
 .rename_i C;simp only[C]at m;unfold tl at *;split
  .rename_i W H' K;simp only[K]at m;split
   .rfl
   .rename_i i;simp only[i]at m;exact zL h m
  .rename_i K;simp only[K]at m;exact zL h m
 .rename_i C;simp only[C]at m;exact zL h m
theorem DB(h:zeu ih ih'){f N:Nat}{b:Code}{r m:Res}(hr:r≠.fail->m=r)(Z:kX ih f N b r≠.fail):kX ih' f N b m=kX ih f N b r:=by
 cases r with
 |fail=>simp[kX]at Z
 |val v H1=>rw[hr aD];rfl
 |done x E1 H1=>
  rw[hr aD];cases x with
  |normal=>exact h _ Z
  |exit id=>rfl
  |ret=>rfl
theorem Mg(h:zeu ih ih'){t:Task}(m:step P cfg ih t≠.fail):step P cfg ih' t=step P cfg ih t:=by
 cases t with
 |call f args H=>
  simp only[step]at *;split
  .rfl
  .rename_i hc;simp only[hc]at m;have Z:kY P cfg ih f args H≠.fail:=fun e=>m (by rw[e];unfold qY;split<;>simp_all);rw[Mf h Z]
 |code f N c E H=>
  cases c with
  |region id ops draw=>cases draw with
   |false=>exact wc h m
   |true=>exact zK h m
  |seq a b=>exact DB h (h _) m
  |loop a=>exact DB h (h _) m
  |cond x a b=>
   simp only[step]at *;unfold pz at *;split
   .rename_i hc;simp only[hc]at m;exact h _ m
   .rename_i hc;simp only[hc]at m;exact h _ m
   .rfl
  |block id a=>
   simp only[step]at *;cases hr:ih (.code f N a E H)with
   |fail=>simp[hr,ze3]at m
   |val v H1=>rw[h _ tV,hr]
   |done x E1 H1=>rw[h _ tV,hr]
  |_=>rfl
theorem DC:∀n,zeu (zdp P cfg n) (zdp P cfg (n+1))
 |0=>fun _ m=>(m rfl).elim
 |n+1=>fun _ m=>Mg (DC n) m
theorem zM{n m:Nat}(M:n<=m){t:Task}(Z:zdp P cfg n t≠.fail):zdp P cfg m t=zdp P cfg n t:=by
 induction m with
 |zero=>rw[show n=0 by omega]
 |succ m ih=>
  by_cases h:n=m+1
  .rw[h]
  .have:=ih ac;rw[DC m t (by rw[this];exact Z),this]
theorem wg{n m:Nat}(M:n<=m){t:Task}{r:Res}(h:zdp P cfg n t=r)(hr:r≠.fail):zdp P cfg m t=r:=by
 rw[zM M (by rw[h];exact hr),h]
def zdj(P:Program)(cfg:Cfg)(t:Task)(r:Res):Prop:=r≠.fail/\∃n,zdp P cfg n t=r
theorem zdj.step{t:Task}{r:Res}(hr:r≠.fail){n:Nat}(h:Ab.step P cfg (zdp P cfg n) t=r):zdj P cfg t r:=⟨hr,n+1,h⟩
def io:=@zdj.step
section
variable {f N id:Nat} {a b:Code} {x:Operand} {E E1:ao} {H H1:Hp} {r:Res} {ex:AX}
theorem zdj.seq(h1:zdj P cfg (.code f N a E H) (.done .normal E1 H1))(h2:zdj P cfg (.code f N b E1 H1) r):zdj P cfg (.code f N (.seq a b) E H) r:=by
 obtain⟨_,n,h1⟩:=h1;obtain⟨hr,m,h2⟩:=h2;refine io hr (n:=max n m) ?_;show kX (zdp P cfg (max n m)) f N b (zdp P cfg (max n m) (.code f N a E H))=r;rw[wg (v9 n m) h1 aD];exact wg (wa n m) h2 hr
theorem DD(h1:zdj P cfg (.code f N a E H) (.done ex E1 H1))(F:ex≠.normal):zdj P cfg (.code f N (.seq a b) E H) (.done ex E1 H1):=by
 obtain⟨hr,n,h1⟩:=h1;refine io hr (n:=n) ?_;show kX (zdp P cfg n) f N b (zdp P cfg n (.code f N a E H))=_;rw[h1];cases ex with
 |normal=>exact(F rfl).elim
 |exit id=>rfl
 |ret=>rfl
theorem zdj.loop(h1:zdj P cfg (.code f N a E H) (.done .normal E1 H1))(h2:zdj P cfg (.code f N (.loop a) E1 H1) r):zdj P cfg (.code f N (.loop a) E H) r:=by
 obtain⟨_,n,h1⟩:=h1;obtain⟨hr,m,h2⟩:=h2;refine io hr (n:=max n m) ?_;show kX (zdp P cfg (max n m)) f N (.loop a) (zdp P cfg (max n m) (.code f N a E H))=r;rw[wg (v9 n m) h1 aD];exact wg (wa n m) h2 hr
theorem DE(h1:zdj P cfg (.code f N a E H) (.done ex E1 H1))(F:ex≠.normal):zdj P cfg (.code f N (.loop a) E H) (.done ex E1 H1):=by
 obtain⟨hr,n,h1⟩:=h1;refine io hr (n:=n) ?_;show kX (zdp P cfg n) f N (.loop a) (zdp P cfg n (.code f N a E H))=_;rw[h1];cases ex with
 |normal=>exact(F rfl).elim
 |exit id=>rfl
 |ret=>rfl
theorem Mh(F:zcp E x=some (.bool true))(h:zdj P cfg (.code f N a E H) r):zdj P cfg (.code f N (.cond x a b) E H) r:=by
 obtain⟨hr,n,h⟩:=h;refine io hr (n:=n) ?_;show pz (zdp P cfg n) f N x a b E H=r;unfold pz;rw[F];exact h
theorem Mi(F:zcp E x=some (.bool false))(h:zdj P cfg (.code f N b E H) r):zdj P cfg (.code f N (.cond x a b) E H) r:=by
 obtain⟨hr,n,h⟩:=h;refine io hr (n:=n) ?_;show pz (zdp P cfg n) f N x a b E H=r;unfold pz;rw[F];exact h
theorem zdj.block(h:zdj P cfg (.code f N a E H) (.done (.exit id) E1 H1)):zdj P cfg (.code f N (.block id a) E H) (.done .normal E1 H1):=by
 obtain⟨hr,n,h⟩:=h;refine io aD (n:=n) ?_;show ze3 id (zdp P cfg n (.code f N a E H))=_;rw[h];simp[ze3]
theorem Mj(h:zdj P cfg (.code f N a E H) (.done .normal E1 H1)):zdj P cfg (.code f N (.block id a) E H) (.done .normal E1 H1):=by
 obtain⟨hr,n,h⟩:=h;refine io aD (n:=n) ?_;show ze3 id (zdp P cfg n (.code f N a E H))=_;rw[h];rfl
theorem Mk(h:zdj P cfg (.code f N a E H) (.done .ret E1 H1)):zdj P cfg (.code f N (.block id a) E H) (.done .ret E1 H1):=by
 obtain⟨hr,n,h⟩:=h;refine io aD (n:=n) ?_;show ze3 id (zdp P cfg n (.code f N a E H))=_;rw[h];rfl
theorem Ml{V:Nat}(I:Nat.beq V id=false)(h:zdj P cfg (.code f N a E H) (.done (.exit V) E1 H1)):zdj P cfg (.code f N (.block id a) E H) (.done (.exit V) E1 H1):=by
 obtain⟨hr,n,h⟩:=h;refine io aD (n:=n) ?_;show ze3 id (zdp P cfg n (.code f N a E H))=_;rw[h];simp only[ze3,I]
theorem zdj.skip:zdj P cfg (.code f N .skip E H) (.done .normal E H):=io aD (n:=0) rfl
theorem zdj.exit:zdj P cfg (.code f N (.exit id) E H) (.done (.exit id) E H):=io aD (n:=0) rfl
theorem zdj.ret:zdj P cfg (.code f N .ret E H) (.done .ret E H):=io aD (n:=0) rfl
theorem zdj.region{ops:Array Oper}{n:Nat}(h:zeG P cfg (zdp P cfg n) f N ops.toList ops.toList E H=r)(hr:r≠.fail):zdj P cfg (.code f N (.region id ops false) E H) r:=io hr (n:=n) h
theorem zdj.draw{ops:Array Oper}{n:Nat}(h:zeF P cfg (zdp P cfg n) f N E H (cfg.plan f id) ops.toList=r)(hr:r≠.fail):zdj P cfg (.code f N (.region id ops true) E H) r:=io hr (n:=n) h
theorem zdj.call{args:List AV}{fn:Func}{c:Code}{v:AV}(j:cfg.call f args=none)(C:cfg.ice f=false)(m:cfg.froz f=false)(i:P.funcs[f]?=some fn)(z:fn.body=some c)
 (h:zdj P cfg (.code f (max fn.ntmps args.length) c (zcr 0 args (py (max fn.ntmps args.length))) H) (.done ex E1 H1)) (F:ex=.normal\/ex=.ret) (W:qX P fn.results.toList E1 H1=.val v H1):zdj P cfg (.call f args H) (.val v H1):=by
 obtain⟨_,n,h⟩:=h;refine io aD (n:=n) ?_;simp only[Ab.step,j,C,m,kY,qY];unfold ze6;simp only[i,z,h];rcases F with rfl|rfl<;>exact W
end
end
noncomputable section
open Go
def ov(L:List (Nat×AV))(d:Nat->AV):Nat->AV:=
 List.rec (motive:=fun _=>Nat->AV) d (fun p _ g k=>hY (Nat.beq p.1 k) p.2 (g k)) L
end
structure SOp where
 d:Option Nat
 op:Op
 g:Option (Nat×Bool)
inductive SC where
 |skip|ret|bad
 |ops (l:List SOp)
 |draw (id:Nat) (l:List Oper)
 |seq (a b:SC)
 |cond (x:Operand) (a b:SC)
 |block (id:Nat) (a:SC)
 |loop (a:SC)
 |exit (id:Nat)
def zcJ(N:Nat):Option Tmp->Option (Option Nat)
 |none=>some none
 |some d=>match Nat.blt d N with
  |true=>some (some d)
  |false=>none
def zcK(C:List Oper):Option (Nat×Bool)->Option (Option (Nat×Bool))
 |none=>some none
 |some (j,b)=>match (C[j]?).bind (·.dst)with
  |some d=>some (some (d,b))
  |none=>none
def zcE(N:Nat)(C:List Oper):List Oper->Option (List SOp)
 |[]=>some []
 |o::l=>match zcJ N o.dst,zcK C o.guard,zcE N C l with
  |some d,some g,some r=>some (⟨d,o.op,g⟩::r)
  |_,_,_=>none
def zcG(l:Option (List SOp)):SC:=match l with
 |some l=>.ops l
 |none=>.bad
def aA(N:Nat):Code->SC
 | .skip=>.skip
 | .region id ops draw=>match draw with
   |false=>zcG (zcE N ops.toList ops.toList)
   |true=>.draw id ops.toList
 | .seq a b=>.seq (aA N a) (aA N b)
 | .cond x a b=>.cond x (aA N a) (aA N b)
 | .block id a=>.block id (aA N a)
 | .loop a=>.loop (aA N a)
 | .exit id=>.exit id
 | .ret=>.ret
 |_=>.bad
section
variable (P:Program) (cfg:Cfg) (f N:Nat)
def zcx(g:FuncId)(args:List AV)(H:Hp)(Q:AV->Hp->Prop):Prop:=∃v H',zdj P cfg (.call g args H) (.val v H')/\Q v H'
def fI(op:Op)(E:ao)(H:Hp)(K:AV->Hp->Prop):Prop:=∃n v H',zdA P cfg (zdp P cfg n) f E H op=.val v H'/\K v H'
noncomputable def zcF(E:ao):Option Nat->AV->ao
 |some d,v=>T.set E d (some v)
 |none,_=>E
def aC:List SOp->ao->Hp->(ao->Hp->Prop)->Prop
 |[],E,H,Q=>Q E H
 |o::l,E,H,Q=>match o.g with
  |none=>fI P cfg f o.op E H fun v H'=>aC l (zcF E o.d v) H' Q
  |some (s,b)=>(E.at s=.bool b/\fI P cfg f o.op E H fun v H'=>aC l (zcF E o.d v) H' Q)\/((E.at s=.bool (!b)\/E.at s=zdx)/\aC l (zcF E o.d zdx) H Q)
def zcY(c:SC)(E:ao)(H:Hp)(Q:AX->ao->Hp->Prop):Prop:=∀code,aA N code=c->∃x E' H',zdj P cfg (.code f N code E H) (.done x E' H')/\Q x E' H'
end
section
variable {P:Program} {cfg:Cfg} {f N:Nat}
theorem fI.mono{op:Op}{E:ao}{H:Hp}{K W:AV->Hp->Prop}(h:∀v H',K v H'->W v H')(j:fI P cfg f op E H K):fI P cfg f op E H W:=by
 obtain⟨n,v,H',i,g⟩:=j;exact⟨n,v,H',i,h v H' g⟩
theorem zcY.mono{c:SC}{E:ao}{H:Hp}{Q z:AX->ao->Hp->Prop}(h:∀x E H,Q x E H->z x E H)(J:zcY P cfg f N c E H Q):zcY P cfg f N c E H z:=fun code hc=>by
 obtain⟨x,E',H',i,g⟩:=J code hc;exact⟨x,E',H',i,h _ _ _ g⟩
theorem zcY.skip{E:ao}{H:Hp}{Q:AX->ao->Hp->Prop}(h:Q .normal E H):zcY P cfg f N .skip E H Q:=fun code hc=>by
 cases code with
 |skip=>exact⟨_,_,_,zdj.skip,h⟩
 |region id ops draw=>cases draw<;>simp only[aA,zcG,reduceCtorEq]at hc;split at hc<;>simp at hc
 |_=>simp[aA]at hc
theorem zcY.ret{E:ao}{H:Hp}{Q:AX->ao->Hp->Prop}(h:Q .ret E H):zcY P cfg f N .ret E H Q:=fun code hc=>by
 cases code with
 |ret=>exact⟨_,_,_,zdj.ret,h⟩
 |region id ops draw=>cases draw<;>simp only[aA,zcG,reduceCtorEq]at hc;split at hc<;>simp at hc
 |_=>simp[aA]at hc
theorem zcY.exit{id:Nat}{E:ao}{H:Hp}{Q:AX->ao->Hp->Prop}(h:Q (.exit id) E H):zcY P cfg f N (.exit id) E H Q:=fun code hc=>by
 cases code with
 |exit V=>simp only[aA,SC.exit.injEq]at hc;subst hc;exact⟨_,_,_,zdj.exit,h⟩
 |region id ops draw=>cases draw<;>simp only[aA,zcG,reduceCtorEq]at hc;split at hc<;>simp at hc
 |_=>simp[aA]at hc
def kz(Q:AX->ao->Hp->Prop)(K:ao->Hp->Prop):AX->ao->Hp->Prop
 | .normal,E,H=>K E H
 | .exit id,E,H=>Q (.exit id) E H
 | .ret,E,H=>Q .ret E H
theorem zcY.seq{a b:SC}{E:ao}{H:Hp}{Q:AX->ao->Hp->Prop}(h:zcY P cfg f N a E H (kz Q fun E H=>zcY P cfg f N b E H Q)):zcY P cfg f N (.seq a b) E H Q:=fun code hc=>by
 cases code with
 |seq p q=>
  simp only[aA,SC.seq.injEq]at hc;obtain⟨x,E1,H1,i,g⟩:=h p hc.1;cases x with
  |normal=>
   obtain⟨x,M,Z,o,U⟩:=g q hc.2;exact⟨x,M,Z,zdj.seq i o,U⟩
  |exit id=>exact⟨_,_,_,DD i aD,g⟩
  |ret=>exact⟨_,_,_,DD i aD,g⟩
 |region id ops draw=>cases draw<;>simp only[aA,zcG,reduceCtorEq]at hc;split at hc<;>simp at hc
 |_=>simp[aA]at hc
def ak:=@zcY.seq
theorem zcY.cond{x:Operand}{a b:SC}{E:ao}{H:Hp}{Q:AX->ao->Hp->Prop}{t:Bool}(F:zcp E x=some (.bool t))(h1:t=true->zcY P cfg f N a E H Q)(h2:t=false->zcY P cfg f N b E H Q):
 zcY P cfg f N (.cond x a b) E H Q:=fun code hc=>by
 cases code with
 |cond y p q=>
  simp only[aA,SC.cond.injEq]at hc;obtain⟨rfl,o,U⟩:=hc;cases t with
  |true=>
   obtain⟨x,E1,H1,W,Y⟩:=h1 rfl p o;exact⟨x,E1,H1,Mh F W,Y⟩
  |false=>
   obtain⟨x,E1,H1,W,Y⟩:=h2 rfl q U;exact⟨x,E1,H1,Mi F W,Y⟩
 |region id ops draw=>cases draw<;>simp only[aA,zcG,reduceCtorEq]at hc;split at hc<;>simp at hc
 |_=>simp[aA]at hc
def pP(id:Nat)(Q:AX->ao->Hp->Prop):AX->ao->Hp->Prop
 | .normal,E,H=>Q .normal E H
 | .exit V,E,H=>if V=id then Q .normal E H else Q (.exit V) E H
 | .ret,E,H=>Q .ret E H
theorem zcY.block{id:Nat}{a:SC}{E:ao}{H:Hp}{Q:AX->ao->Hp->Prop}(h:zcY P cfg f N a E H (pP id Q)):zcY P cfg f N (.block id a) E H Q:=fun code hc=>by
 cases code with
 |block V p=>
  simp only[aA,SC.block.injEq]at hc;obtain⟨rfl,o⟩:=hc;obtain⟨x,E1,H1,W,Y⟩:=h p o;cases x with
  |normal=>exact⟨_,_,_,Mj W,Y⟩
  |ret=>exact⟨_,_,_,Mk W,Y⟩
  |exit k=>
   simp only[pP]at Y;split at Y
   .rename_i e;subst e;exact⟨_,_,_,zdj.block W,Y⟩
   .rename_i e;exact⟨_,_,_,Ml (by cases z:Nat.beq k V with|true=>exact(e (gD z)).elim|false=>rfl) W,Y⟩
 |region id ops draw=>cases draw<;>simp only[aA,zcG,reduceCtorEq]at hc;split at hc<;>simp at hc
 |_=>simp[aA]at hc
def ay:=@zcY.block
theorem zcY.loop{a:SC}{Q:AX->ao->Hp->Prop}(I:Nat->ao->Hp->Prop)(h:∀n E H,I n E H->zcY P cfg f N a E H (kz Q fun E H=>∃m,m<n/\I m E H)){n:Nat}{E:ao}{H:Hp}(o:I n E H):zcY P cfg f N (.loop a) E H Q:=by
 induction n using Nat.strongRecOn generalizing E H with
 |_ n ih=>
  intro code hc;cases code with
  |loop p=>
   simp only[aA,SC.loop.injEq]at hc;obtain⟨x,E1,H1,W,Y⟩:=h n E H o p hc;cases x with
   |normal=>
    obtain⟨m,M,Z⟩:=Y;obtain⟨x,V,U,O,L⟩:=ih m M Z (.loop p) (by simp[aA,hc]);exact⟨x,V,U,zdj.loop W O,L⟩
   |exit id=>exact⟨_,_,_,DE W aD,Y⟩
   |ret=>exact⟨_,_,_,DE W aD,Y⟩
  |region id ops draw=>cases draw<;>simp only[aA,zcG,reduceCtorEq]at hc;split at hc<;>simp at hc
  |_=>simp[aA]at hc
def pQ:=@zcY.loop
theorem lR{a:SC}{Q:AX->ao->Hp->Prop}(I:Nat->ao->Hp->Prop)(Y:Nat)(h:∀i E H,i<=Y->I i E H->zcY P cfg f N a E H (kz Q fun E H=>i<Y/\I (i+1) E H)){E:ao}{H:Hp}(o:I 0 E H):zcY P cfg f N (.loop a) E H Q:=
 pQ (fun n E H=>n<=Y/\I (Y-n) E H) (fun n E H Z=>zcY.mono (fun x E' H' K=>by
  cases x with
  |normal=>
   obtain⟨W,g⟩:=K;have:=Z.1;refine⟨n-1,ac,ac,?_⟩;rw[show Y-(n-1)=Y-n+1 by omega];exact g
  |exit id=>exact K
  |ret=>exact K) (h (Y-n) E H (Nat.sub_le _ _) Z.2)) (n:=Y) ⟨aM _,by rw[kq];exact o⟩
theorem wh{N:Nat}{j:Option Tmp}{d:Option Nat}(h:zcJ N j=some d)(E:ao)(v:AV):dW N E j v=some (zcF E d v):=by
 cases j with
 |none=>simp only[zcJ,az]at h;subst h;rfl
 |some t=>
  simp only[zcJ]at h;split at h
  .rename_i z;simp only[az]at h;subst h;simp only[dW,z,zcF]
  .simp at h
theorem DF{C:List Oper}{E:ao}{o:Oper}{g:Option (Nat×Bool)}(h:zcK C o.guard=some g):
 (g=none->zey C E o=true)/\∀s b,g=some (s,b)->(E.at s=.bool b->zey C E o=true)/\(E.at s=.bool (!b)\/E.at s=zdx->zey C E o=false):=by
 unfold zey;cases A:o.guard with
 |none=>
  rw[A]at h;simp only[zcK,az]at h;subst h;exact⟨fun _=>rfl,fun s b e=>by simp at e⟩
 |some Z=>
  obtain⟨j,b⟩:=Z;rw[A]at h;simp only[zcK]at h;split at h
  .rename_i d hd;simp only[az]at h;subst h;refine⟨fun e=>by simp at e,fun s i e=>?_⟩;simp only[ci]at e;obtain⟨rfl,rfl⟩:=e;simp only[vA,hd];refine⟨fun e=>by rw[e];simp,fun e=>by rcases e with e|e<;>rw[e]<;>simp[zdx]⟩
  .simp at h
theorem aC.run{C:List Oper}{Q:ao->Hp->Prop}:∀{l:List Oper}{r:List SOp}{E:ao}{H:Hp},zcE N C l=some r->aC P cfg f r E H Q ->
 ∃n E' H',zeG P cfg (zdp P cfg n) f N C l E H=.done .normal E' H'/\Q E' H'
 |[],r,E,H,hs,Z=>by
  simp only[zcE,az]at hs;subst hs;exact⟨0,E,H,rfl,Z⟩
 |o::l,r,E,H,hs,Z=>by
  simp only[zcE]at hs;split at hs
  .rename_i d g r' i h2 U;simp only[az]at hs;subst hs;obtain⟨zex,L⟩:=DF (E:=E) h2;have Y:∀{K:Prop},fI P cfg f o.op E H (fun v H'=>aC P cfg f r' (zcF E d v) H' Q)->zey C E o=true->∃n E' H',zeG P cfg (zdp P cfg n) f N C (o::l) E H=.done .normal E' H'/\Q E' H':=fun{K} F O=>by
    obtain⟨n,v,H1,J,g2⟩:=F;obtain⟨m,M,V,W,I⟩:=aC.run U g2;refine⟨max n m,M,V,?_,I⟩;have z:∀k k',k<=k'->zeu (zdp P cfg k) (zdp P cfg k'):=fun k k' j t ht=>zM j ht;rw[tY,O];simp only[];rw[wb (z n (max n m) (v9 _ _)) (by rw[J];simp),J];simp only[wh i,zeK];rw[wc (z m (max n m) (wa _ _)) rD,W]
   unfold aC at Z;cases A:g with
   |none=>
    rw[A]at Z;exact Y (K:=True) Z (zex A)
   |some sb=>
    obtain⟨s,b⟩:=sb;rw[A]at Z;simp only[]at Z;rcases Z with⟨e,Z⟩|⟨e,Z⟩
    .exact Y (K:=True) Z ((L s b A).1 e)
    .obtain⟨m,M,V,W,I⟩:=aC.run U Z;refine⟨m,M,V,?_,I⟩;rw[tY,(L s b A).2 e];simp only[wh i,zeK];exact W
  .simp at hs
theorem zcY.ops{l:List SOp}{E:ao}{H:Hp}{Q:AX->ao->Hp->Prop}(h:aC P cfg f l E H (Q .normal)):zcY P cfg f N (.ops l) E H Q:=fun code hc=>by
 cases code with
 |region id ops draw=>
  cases draw with
  |true=>simp[aA]at hc
  |false=>
   simp only[aA,zcG]at hc;split at hc
   .rename_i r hr;simp only[SC.ops.injEq]at hc;subst hc;obtain⟨n,E',H',i,g⟩:=aC.run hr h;exact⟨_,_,_,zdj.region i aD,g⟩
   .simp at hc
 |_=>simp[aA]at hc
theorem zcm{l:List SOp}{E:ao}{H:Hp}{Q:AX->ao->Hp->Prop}(h:∀K:ao->Hp->Prop,(∀E' H',Q .normal E' H'->K E' H')->aC P cfg f l E H K):zcY P cfg f N (.ops l) E H Q:=
 zcY.ops (h _ fun _ _ h=>h)
theorem aC.nil{E:ao}{H:Hp}{Q:ao->Hp->Prop}(h:Q E H):aC P cfg f [] E H Q:=h
theorem fI.plain{op:Op}{E:ao}{H H':Hp}{v:AV}{K:AV->Hp->Prop}(h:cq P cfg.dec E H op=some (v,H'))(m:∀c,op≠.call c)(j:K v H'):fI P cfg f op E H K:=
 ⟨0,v,H',(pK m).2 h,j⟩
def wi:Op->Bool
 | .call _=>false
 |_=>true
theorem DG{op:Op}(h:wi op=true):∀c,op≠.call c:=fun c e=>by subst e;simp[wi]at h
theorem aC.op{d:Nat}{op:Op}{l:List SOp}{E:ao}{H H':Hp}{v:AV}{Q:ao->Hp->Prop}(m:wi op=true)(h:cq P cfg.dec E H op=some (v,H'))(j:aC P cfg f l (T.set E d (some v)) H' Q):aC P cfg f (⟨some d,op,none⟩::l) E H Q:=
 fI.plain h (DG m) j
def fQ:=@aC.op
theorem DH{op:Op}{l:List SOp}{E:ao}{H H':Hp}{v:AV}{Q:ao->Hp->Prop}(m:wi op=true)(h:cq P cfg.dec E H op=some (v,H'))(j:aC P cfg f l E H' Q):aC P cfg f (⟨none,op,none⟩::l) E H Q:=
 fI.plain h (DG m) j
theorem aC.guard{d:Option Nat}{op:Op}{s:Nat}{b t:Bool}{l:List SOp}{E:ao}{H:Hp}{Q:ao->Hp->Prop}(h:E.at s=.bool t)(h1:t=b->aC P cfg f (⟨d,op,none⟩::l) E H Q)(h2:t=!b->aC P cfg f l (zcF E d zdx) H Q):
 aC P cfg f (⟨d,op,some (s,b)⟩::l) E H Q:=by
 unfold aC;by_cases e:t=b
 .exact .inl ⟨by rw[h,e],h1 e⟩
 .have:t=!b:=by cases t<;>cases b<;>simp_all
  exact .inr ⟨.inl (by rw[h,this]),h2 this⟩
theorem DI{d:Option Nat}{op:Op}{s:Nat}{b:Bool}{l:List SOp}{E:ao}{H:Hp}{Q:ao->Hp->Prop}{v:AV}(h:some (E.at s)=some v)(L:v=zdx)(h2:aC P cfg f l (zcF E d zdx) H Q):
 aC P cfg f (⟨d,op,some (s,b)⟩::l) E H Q:=by
 subst L;unfold aC;exact .inr ⟨.inr iQ,h2⟩
theorem aC.call{d:Option Nat}{c:Call}{g:Operand}{k:FuncId}{cap vs:List AV}{l:List SOp}{E:ao}{H:Hp}{Q:ao->Hp->Prop}(O:c.callee=.value g)(A:zcp E g=some (.clo k cap))(L:zeq E c.args.toList=some vs)
 (h:zcx P cfg k (vs++cap) H fun v H'=>aC P cfg f l (zcF E d v) H' Q):aC P cfg f (⟨d,.call c,none⟩::l) E H Q:=by
 obtain⟨v,H',⟨_,n,i⟩,Z⟩:=h;refine⟨n,v,H',?_,Z⟩;simp only[zdA,ou,O,A,L];exact i
def bg:=@aC.call
theorem aC.builtin{d:Option Nat}{c:Call}{b:Builtin}{vs:List AV}{v:AV}{l:List SOp}{E:ao}{H H':Hp}{Q:ao->Hp->Prop}(O:c.callee=.builtin b)(L:zeq E c.args.toList=some vs)
 (h:mn P (cfg.keep f) H b c.argTypes.toList vs=some (v,H')) (j:aC P cfg f l (zcF E d v) H' Q):aC P cfg f (⟨d,.call c,none⟩::l) E H Q:=by
 refine⟨0,v,H',?_,j⟩;simp only[zdA,ou,O,L,h]
def wj:=@aC.builtin
theorem zcx.known{g:FuncId}{args:List AV}{r:AV}{H:Hp}{Q:AV->Hp->Prop}(h:cfg.call g args=some r)(K:Q r H):zcx P cfg g args H Q:=
 ⟨r,H,io aD (n:=0) (by simp only[step,h]),K⟩
theorem DJ{g:FuncId}{args W:List AV}{r:AV}{H H':Hp}{Q:AV->Hp->Prop}(o:cfg.call g args=none)(C:cfg.ice g=true)(m:cfg.froz g=false)(F:ii (fw 100) args H=some (W,H'))(h:cfg.call g W=some r)(K:Q r H'):zcx P cfg g args H Q:=
 ⟨r,H',io aD (n:=0) (by simp only[step,o,kY,C,m,qY,tl,F,h]),K⟩
theorem zcx.mono{g:FuncId}{args:List AV}{H:Hp}{Q z:AV->Hp->Prop}(h:∀v H',Q v H'->z v H')(J:zcx P cfg g args H Q):zcx P cfg g args H z:=by
 obtain⟨v,H',i,Z⟩:=J;exact⟨v,H',i,h _ _ Z⟩
def a7:=@zcx.mono
theorem zcx.body{g:FuncId}{args:List AV}{H:Hp}{fn:Func}{c:Code}{Q:AV->Hp->Prop}(j:cfg.call g args=none)(C:cfg.ice g=false)(m:cfg.froz g=false)(i:P.funcs[g]?=some fn)(z:fn.body=some c)
 (h:zcY P cfg g (max fn.ntmps args.length) (aA (max fn.ntmps args.length) c) (zcr 0 args (py (max fn.ntmps args.length))) H (fun x E' H'=>(x=.normal\/x=.ret)/\∃vs,zd2 P E' H' fn.results.toList=some vs/\Q (zcn vs) H')):zcx P cfg g args H Q:=by
 obtain⟨x,E',H',Z,F,vs,Y,o⟩:=h c rfl;exact⟨zcn vs,H',zdj.call j C m i z Z F (by unfold qX;rw[Y]),o⟩
theorem zcv{g:FuncId}{args:List AV}{H:Hp}{fn:Func}{c:Code}{s:SC}{M:Nat}{rs:List ResultVar}{Q:AV->Hp->Prop}(j:cfg.call g args=none)(C:cfg.ice g=false)(m:cfg.froz g=false)(i:P.funcs[g]?=some fn)(z:fn.body=some c)(Z:max fn.ntmps args.length=M)
 (K:aA M c=s) (hr:fn.results.toList=rs) (h:zcY P cfg g M s (zcr 0 args (py M)) H (fun x E' H'=>(x=.normal\/x=.ret)/\∃vs,zd2 P E' H' rs=some vs/\Q (zcn vs) H')):zcx P cfg g args H Q:=by
 subst Z K hr;exact zcx.body j C m i z h
theorem DK(fit:Fit P){ρ:Nat->Int}(L:kj cfg.dec ρ)(O:∀f args r,cfg.call f args=some r->a9 P ρ f args r){g:FuncId}{args:List AV}{r:AV}{k m:Nat}
 (V:nB k args=true) (h:zcx P cfg g args zc2 fun v H'=>iceV H' m v=some r):a9 P ρ g args r:=by
 obtain⟨v,H',⟨_,n,i⟩,Z⟩:=h;exact zF fit L O (n:=n) (m:=m) V (by unfold tm;rw[i];exact Z)
section
variable {l:List SOp} {E:ao} {H H':Hp} {Q:ao -> Hp -> Prop} {d:Nat} {v a b:AV} {x y:Operand} {t u:TypeId}
theorem aC.move(h:zcp E x=some v)(j:aC P cfg f l (T.set E d (some v)) H Q):aC P cfg f (⟨some d,.move x,none⟩::l) E H Q:=fQ rfl (by simp only[cq,Go.Ab.ret,h]) j
theorem aC.assign(h:zcp E x=some v)(j:aC P cfg f l (T.set E d (some v)) H Q):aC P cfg f (⟨some d,.assign x,none⟩::l) E H Q:=fQ rfl (by simp only[cq,Go.Ab.ret,h]) j
theorem aC.pick{z:Operand}{t:Bool}(h:zcp E x=some (.bool t))(h1:zcp E y=some a)(h2:zcp E z=some b)(j:aC P cfg f l (T.set E d (some (hY t a b))) H Q):aC P cfg f (⟨some d,.pick x y z,none⟩::l) E H Q:=
 fQ rfl (by cases t<;>simp only[cq,vk,Go.Ab.ret,h,h1,h2]<;>rfl) j
theorem aC.load(h:zcp E x=some a)(h1:zdZ P H t a=some v)(j:aC P cfg f l (T.set E d (some v)) H Q):aC P cfg f (⟨some d,.load t x,none⟩::l) E H Q:=fQ rfl (by simp only[cq,tc,Go.Ab.ret,h,h1]) j
theorem aC.store(h:zcp E x=some a)(h1:zcp E y=some b)(h2:zet P H t a b=some H')(j:aC P cfg f l E H' Q):aC P cfg f (⟨none,.store t x y,none⟩::l) E H Q:=DH rfl (by simp only[cq,vn,h,h1,h2];rfl) j
def mF:=@aC.store
theorem aC.nilCheck{r o:Nat}(h:zcp E x=some (.ptr r o))(j:aC P cfg f l (T.set E d (some (.ptr r o))) H Q):aC P cfg f (⟨some d,.nilCheck x,none⟩::l) E H Q:=fQ rfl (by simp only[cq,vo,h]) j
theorem aC.bin{op:BinOp}(h:zcp E x=some a)(h1:zcp E y=some b)(h2:zdr P cfg.dec op t a b=some v)(j:aC P cfg f l (T.set E d (some v)) H Q):aC P cfg f (⟨some d,.binOp op t x y u,none⟩::l) E H Q:=
 fQ rfl (by simp only[cq,vp,Go.Ab.ret,h,h1,h2]) j
theorem aC.un{op:UnOp}(h:zcp E x=some a)(h2:nA op a=some v)(j:aC P cfg f l (T.set E d (some v)) H Q):aC P cfg f (⟨some d,.unOp op t x,none⟩::l) E H Q:=fQ rfl (by simp only[cq,vq,Go.Ab.ret,h,h2]) j
theorem aC.convert(h:zcp E x=some a)(h2:zeI P H t u a=some v)(j:aC P cfg f l (T.set E d (some v)) H Q):aC P cfg f (⟨some d,.convert t u x,none⟩::l) E H Q:=fQ rfl (by simp only[cq,td,Go.Ab.ret,h,h2]) j
theorem aC.fieldAddr{i:Nat}(h:zcp E x=some a)(h2:zcs P t a i=some v)(j:aC P cfg f l (T.set E d (some v)) H Q):aC P cfg f (⟨some d,.fieldAddr t x i,none⟩::l) E H Q:=fQ rfl (by simp only[cq,vt,Go.Ab.ret,h,h2]) j
def DL:=@aC.fieldAddr
theorem aC.field{i:Nat}(h:zcp E x=some a)(h2:zcM P t a i=some v)(j:aC P cfg f l (T.set E d (some v)) H Q):aC P cfg f (⟨some d,.field t x i,none⟩::l) E H Q:=fQ rfl (by simp only[cq,vu,Go.Ab.ret,h,h2]) j
theorem aC.indexAddr(h:zcp E x=some a)(h1:zcp E y=some b)(h2:zcU P t a b=some v)(j:aC P cfg f l (T.set E d (some v)) H Q):aC P cfg f (⟨some d,.indexAddr t x y,none⟩::l) E H Q:=fQ rfl (by simp only[cq,vw,Go.Ab.ret,h,h1,h2]) j
def DM:=@aC.indexAddr
theorem aC.index(h:zcp E x=some a)(h1:zcp E y=some b)(h2:lJ P t a b=some v)(j:aC P cfg f l (T.set E d (some v)) H Q):aC P cfg f (⟨some d,.index t x y,none⟩::l) E H Q:=fQ rfl (by simp only[cq,vx,Go.Ab.ret,h,h1,h2]) j
theorem aC.extract{i:Nat}(h:zcp E x=some a)(h2:Ab.extract a i=some v)(j:aC P cfg f l (T.set E d (some v)) H Q):aC P cfg f (⟨some d,.extract x i,none⟩::l) E H Q:=fQ rfl (by simp only[cq,vz,Go.Ab.ret,h,h2]) j
theorem aC.alloc{z:List AV}{n:Nat}(h:zcX P t=some z)(m:some H.next=some n)(j:aC P cfg f l (T.set E d (some (.ptr n 0))) (H.alloc (.cells z 0 true)) Q):aC P cfg f (⟨some d,.alloc t,none⟩::l) E H Q:=by
 simp only[az]at m;subst m;exact fQ rfl (by simp only[cq,s8,h]) j
theorem aC.box{cs:List AV}{n:Nat}(h:zcp E x=some a)(O:some a.cells=some cs)(m:some H.next=some n)(j:aC P cfg f l (T.set E d (some (.ptr n 0))) (H.alloc (.cells cs 0 true)) Q):aC P cfg f (⟨some d,.box t x,none⟩::l) E H Q:=by
 simp only[az]at O m;subst O m;exact fQ rfl (by simp only[cq,s9,h]) j
theorem aC.build{i:Array (Nat×Operand)}{ps:List (Nat×AV)}(h:zeQ E i.toList=some ps)(h2:zdK P t ps=some v)(j:aC P cfg f l (T.set E d (some v)) H Q):aC P cfg f (⟨some d,.build t i,none⟩::l) E H Q:=fQ rfl (by simp only[cq,vm,Go.Ab.ret,h,h2]) j
theorem aC.buildSlice{n:Nat}{i:Array (Nat×Operand)}{ps:List (Nat×AV)}(h:zeQ E i.toList=some ps)(h2:zdS P H t n ps=some (v,H'))(j:aC P cfg f l (T.set E d (some v)) H' Q):aC P cfg f (⟨some d,.buildSlice t n i,none⟩::l) E H Q:=
 fQ rfl (by simp only[cq,ta,h,h2]) j
def DN:=@aC.buildSlice
theorem aC.makeMap{n:Nat}(m:some H.next=some n)(j:aC P cfg f l (T.set E d (some (.map n))) (H.alloc (.map [])) Q):aC P cfg f (⟨some d,.makeMap t none,none⟩::l) E H Q:=by
 simp only[az]at m;subst m;exact fQ rfl (by simp only[cq,te]) j
theorem aC.lookup{ok:Bool}(h:zcp E x=some a)(h1:zcp E y=some b)(h2:zeD P H t a b ok=some v)(j:aC P cfg f l (T.set E d (some v)) H Q):aC P cfg f (⟨some d,.lookup t x y ok,none⟩::l) E H Q:=fQ rfl (by simp only[cq,th,Go.Ab.ret,h,h1,h2]) j
theorem aC.mapUpdate{z:Operand}{c:AV}(h:zcp E x=some a)(h1:zcp E y=some b)(h2:zcp E z=some c)(o:ze2 P H t a b c=some H')(j:aC P cfg f l E H' Q):aC P cfg f (⟨none,.mapUpdate t x y z,none⟩::l) E H Q:=
 DH rfl (by simp only[cq,vy,h,h1,h2,o];rfl) j
def DO:=@aC.mapUpdate
theorem aC.makeFunc{g:FuncId}{cap:Array Operand}{vs:List AV}(h:zeq E cap.toList=some vs)(j:aC P cfg f l (T.set E d (some (.clo g vs))) H Q):aC P cfg f (⟨some d,.makeFunc (.func g) #[] cap,none⟩::l) E H Q:=fQ rfl (by simp only[cq,vr,h]) j
theorem aC.slice{lo C:Option Operand}{O L:Option AV}(h:zcp E x=some a)(h1:zeJ E lo=some O)(h2:zeJ E C=some L)(o:kR P H t a O L=some v)(j:aC P cfg f l (T.set E d (some v)) H Q):aC P cfg f (⟨some d,.slice t x lo C none,none⟩::l) E H Q:=
 fQ rfl (by simp only[cq,tg,Go.Ab.ret,h,h1,h2,o]) j
theorem aC.makeSlice(h:zcp E x=some a)(h1:zcp E y=some b)(h2:zeb P H t a b=some (v,H'))(j:aC P cfg f l (T.set E d (some v)) H' Q):aC P cfg f (⟨some d,.makeSlice t x y,none⟩::l) E H Q:=fQ rfl (by simp only[cq,tf,h,h1,h2]) j
def DP:=@aC.makeSlice
theorem aC.len{c:AV}(h:zcp E x=some a)(h1:zc0 P H t a=some c)(j:aC P cfg f l (T.set E d (some c)) H Q):aC P cfg f (⟨some d,.call ⟨.builtin .len,#[x],#[t]⟩,none⟩::l) E H Q:=
 wj (c:=⟨.builtin .len,#[x],#[t]⟩) rfl (vs:=[a]) (by simp only[zeq,h]) (by simp only[mn,h1]) j
theorem aC.append(h:zcp E x=some a)(h1:zcp E y=some b)(h2:zdX P (cfg.keep f) H t u a b=some (v,H'))(j:aC P cfg f l (T.set E d (some v)) H' Q):aC P cfg f (⟨some d,.call ⟨.builtin .append,#[x,y],#[t,u]⟩,none⟩::l) E H Q:=
 wj (c:=⟨.builtin .append,#[x,y],#[t,u]⟩) rfl (vs:=[a,b]) zI (by simp only[mn,h2]) j
def nL:=@aC.append
end
theorem gH(E:ao)(d t:Nat)(v:AV):ao.at (T.set E d (some v)) t=bif t == d then v else E.at t:=by
 rw[rh];by_cases h:t=d
 .simp[h]
 .have:(t == d)=false:=by simpa using h
  rw[ah h,this,nK]
theorem get_set(H:Hp)(d t:Nat)(b:HB):(H.set d b).get t=bif t == d then some b else H.get t:=by
 rw[aU];by_cases h:t=d
 .simp[h]
 .have:(t == d)=false:=by simpa using h
  rw[ah h,this,nK]
theorem Mm(E:ao)(t:Nat):zcp E (.tmp t)=some (E.at t):=rfl
theorem Mn(E:ao)(k:IntKind)(n:Int):zcp E (.const (.int k n))=some (.int k n):=rfl
theorem Mo(E:ao)(b:Bool):zcp E (.const (.bool b))=some (.bool b):=rfl
theorem Mp(E:ao)(g:FuncId):zcp E (.func g)=some (.clo g []):=rfl
theorem Mq(E:ao)(s:ByteArray):zcp E (.const (.string s))=some (.str s.data.toList):=rfl
section
variable {D:BinOp -> Sx -> Sx -> Option Bool} {t:TypeId} {k:IntKind} {a b:Int} {s u:List UInt8}
theorem Mr:zdr P D .add t (.int k a) (.int k b)=some (.int k (k.wrap (a+b))):=lP
theorem Ms:zdr P D .sub t (.int k a) (.int k b)=some (.int k (k.wrap (a-b))):=lP
theorem Mt:zdr P D .mul t (.int k a) (.int k b)=some (.int k (k.wrap (a*b))):=lP
theorem mG(h:b≠0):zdr P D .quo t (.int k a) (.int k b)=some (.int k (k.wrap (a.tdiv b))):=by simp[zdr,nz,zeE,h]
theorem pR(h:b≠0):zdr P D .rem t (.int k a) (.int k b)=some (.int k (a.tmod b)):=by simp[zdr,nz,zeE,h]
theorem Mu:zdr P D .and t (.int k a) (.int k b)=some (.int k (k.wrap (BitVec.ofInt k.bits a &&& BitVec.ofInt k.bits b).toNat)):=lP
theorem Mv:zdr P D .or t (.int k a) (.int k b)=some (.int k (k.wrap (BitVec.ofInt k.bits a |||BitVec.ofInt k.bits b).toNat)):=lP
theorem Mw:zdr P D .xor t (.int k a) (.int k b)=some (.int k (k.wrap (BitVec.ofInt k.bits a^^^ BitVec.ofInt k.bits b).toNat)):=lP
theorem My:zdr P D .eql t (.int k a) (.int k b)=some (.bool (decide (a=b))):=by simp[zdr,nz,zeE];rfl
theorem Mz:zdr P D .neq t (.int k a) (.int k b)=some (.bool (!decide (a=b))):=by simp[zdr,nz,zeE];rfl
theorem MA:zdr P D .lss t (.int k a) (.int k b)=some (.bool (decide (a<b))):=lP
theorem MB:zdr P D .leq t (.int k a) (.int k b)=some (.bool (decide (a<=b))):=lP
theorem MC:zdr P D .gtr t (.int k a) (.int k b)=some (.bool (decide (b<a))):=lP
theorem MD:zdr P D .geq t (.int k a) (.int k b)=some (.bool (decide (b<=a))):=lP
theorem ME:zdr P D .eql t (.str s) (.str u)=some (.bool (decide (s=u))):=by
 simp only[zdr,s7];by_cases h:s=u<;>simp[h]
theorem MF:zdr P D .neq t (.str s) (.str u)=some (.bool (!decide (s=u))):=by
 simp only[zdr,s7];by_cases h:s=u<;>simp[h]
theorem MG{x:Bool}:nA .not (.bool x)=some (.bool !x):=rfl
theorem MH:nA .neg (.int k a)=some (.int k (k.wrap (0-a))):=rfl
end
theorem zeL{i:Nat}(h:i<2^62):IntKind.wrap .i64 ((i:Int)+1)=((i+1:Nat):Int):=by
 rw[pG _ ac];rfl
theorem zeM{H:Hp}{t e:TypeId}(h:P.underlying t=some (.slice e))(xs:List (List AV)):zc0 P H t (.lst xs)=some (.int .i64 xs.length):=v4
theorem zez{H:Hp}{t e:TypeId}(h:P.underlying t=some (.slice e))(r o n z:Nat):zc0 P H t (.sl r o n z)=some (.int .i64 n):=v4
theorem zeA{H:Hp}{t e:TypeId}(h:P.underlying t=some (.slice e)):zc0 P H t .nilS=some (.int .i64 0):=v4
theorem MI{H:Hp}{t:TypeId}(h:P.underlying t=some .string)(s:List UInt8):zc0 P H t (.str s)=some (.int .i64 s.length):=v4
theorem mH{t e:TypeId}{s:Nat}(h:P.underlying t=some (.slice e))(K:zcC P e=some s){r o n z i:Nat}(C:i<n):zcU P t (.sl r o n z) (.int .i64 (i:Int))=some (.ptr r (o+i*s)):=by
 show zcU P t (.sl r o n z) (.int .i64 (Int.ofNat i))=_;simp only[zcU,h,K,C,bT]
def tZ:TypeDesc->Bool
 | .struct _|.array _ _=>false
 |_=>true
theorem zdQ{t:TypeId}{d:TypeDesc}(h:P.underlying t=some d)(hd:tZ d=true)(cs:List AV)(o:Nat):zcw P t cs o=cs[o]?:=by
 unfold zcw;rw[h];cases d<;>simp_all[tZ]
theorem pS{H:Hp}{t:TypeId}{d:TypeDesc}(h:P.underlying t=some d)(hd:tZ d=true){r o:Nat}{cs:List AV}{imm:Nat}{tip:Bool}(A:H.get r=some (.cells cs imm tip)):zdZ P H t (.ptr r o)=cs[o]?:=by
 simp only[zdZ,A,zdQ h hd]
def gh(z:Nat):Option (List AV)->Option AV
 |some Z=>if Z.length=z then some (.iptr Z)else none
 |none=>none
theorem MJ(z:Nat)(row:List AV):gh z (some row)=if row.length=z then some (.iptr row)else none:=rfl
def wl:Option UInt8->Option AV
 |some b=>some (.int .u8 b.toNat)
 |none=>none
theorem MK(b:UInt8):wl (some b)=some (.int .u8 b.toNat):=rfl
def zc6(s:Nat)(cs:List AV):Option AV:=if (cs.take s).length=s then some (.agg (cs.take s))else none
theorem zev{t:TypeId}{d:TypeDesc}{s:Nat}(h:P.underlying t=some d)(hd:tZ d=false)(K:zcC P t=some s)(cs:List AV)(o:Nat):zcw P t cs o=zc6 s (cs.drop o):=by
 unfold zcw zc6;rw[h];cases d<;>simp_all[tZ]
theorem zeN{t e:TypeId}{s:Nat}(h:P.underlying t=some (.slice e))(K:zcC P e=some s)(xs:List (List AV)){n:Int}(Z:0<=n)(k:IntKind):zcU P t (.lst xs) (.int k n)=gh s (xs[n.toNat]?):=by
 obtain⟨m,rfl⟩:=ez Z;show zcU P t (.lst xs) (.int k (Int.ofNat m))=gh s (xs[m]?);simp only[zcU,h,K];cases xs[m]? <;>rfl
theorem zeO{t e:TypeId}{s:Nat}(h:P.underlying t=some (.slice e))(K:zcC P e=some s)(r o l z:Nat){n:Int}(Z:0<=n)(k:IntKind):zcU P t (.sl r o l z) (.int k n)=bif decide (n.toNat<l)then some (.ptr r (o+n.toNat*s))else none:=by
 obtain⟨m,rfl⟩:=ez Z;show zcU P t (.sl r o l z) (.int k (Int.ofNat m))=bif decide (m<l)then some (.ptr r (o+m*s))else none
 simp only[zcU,h,K];by_cases M:m<l<;>simp[M]
theorem ML{t:TypeId}(h:P.underlying t=some .string)(s:List UInt8){n:Int}(Z:0<=n)(k:IntKind):lJ P t (.str s) (.int k n)=wl (s[n.toNat]?):=by
 obtain⟨m,rfl⟩:=ez Z;show lJ P t (.str s) (.int k (Int.ofNat m))=wl (s[m]?);simp only[lJ,h];cases s[m]? <;>rfl
def rE(P:Program)(t:TypeId)(o:Nat):Option HB->Option AV
 |some (.cells W _ _)=>zcw P t W o
 |_=>none
theorem MM(t:TypeId)(o:Nat)(cs:List AV)(imm:Nat)(tip:Bool):rE P t o (some (.cells cs imm tip))=zcw P t cs o:=rfl
theorem rF(H:Hp)(t:TypeId)(r o:Nat):zdZ P H t (.ptr r o)=rE P t o (H.get r):=rfl
theorem MN(H:Hp)(t:TypeId)(cs:List AV):zdZ P H t (.iptr cs)=zcw P t cs 0:=rfl
theorem pT(H:Hp)(b:HB)(t:Nat):(H.alloc b).get t=bif t == H.next then some b else H.get t:=by
 rw[zcu];by_cases h:t=H.next
 .simp[h]
 .have:(t == H.next)=false:=by simpa using h
  rw[ah h,this,nK]
noncomputable def DQ(H:Hp)(r o:Nat)(Z:List AV):Option Nat->Option HB->Option Hp
 |some s,some (.cells W g O)=>if Z.length=s/\g<=o/\o+s<=W.length/\Z.all AV.one=true then some (H.set r (.cells (splice W o Z) g O))else none
 |_,_=>none
theorem wm(H:Hp)(r o:Nat)(g:List AV)(s:Nat)(cs:List AV)(imm:Nat)(tip:Bool):DQ H r o g (some s) (some (.cells cs imm tip))=if g.length=s/\imm<=o/\o+s<=cs.length/\g.all AV.one=true then some (H.set r (.cells (splice cs o g) imm tip))else none:=rfl
theorem rG(H:Hp)(t:TypeId)(r o:Nat)(v:AV):zet P H t (.ptr r o) v=DQ H r o v.cells (zcC P t) (H.get r):=by
 unfold zet;simp only[];cases i:H.get r with
 |none=>cases zcC P t<;>rfl
 |some b=>cases b with
  |map U=>cases zcC P t<;>rfl
  |cells W g O=>cases zcC P t with
   |none=>rfl
   |some s=>rfl
theorem DR(cs:List AV)(o:Nat)(K:List AV):splice cs o K=cs.take o++K++cs.drop (o+K.length):=rfl
theorem MO(cs:List AV):AV.cells (.agg cs)=cs:=rfl
theorem cells_int(k:IntKind)(n:Int):AV.cells (.int k n)=[.int k n]:=rfl
theorem DS(b:Bool):AV.cells (.bool b)=[.bool b]:=rfl
theorem MP(b:List UInt8):AV.cells (.str b)=[.str b]:=rfl
theorem MQ(b:List (List AV)):AV.cells (.lst b)=[.lst b]:=rfl
theorem MR(r o l z:Nat):AV.cells (.sl r o l z)=[.sl r o l z]:=rfl
theorem MT:AV.cells .nilS=[.nilS]:=rfl
theorem MU(r o:Nat):AV.cells (.ptr r o)=[.ptr r o]:=rfl
theorem MV(r:Nat):AV.cells (.map r)=[.map r]:=rfl
theorem MW(g:Nat)(cap:List AV):AV.cells (.clo g cap)=[.clo g cap]:=rfl
theorem DT(k:IntKind)(n:Int):AV.one (.int k n)=true:=rfl
theorem MX(b:Bool):AV.one (.bool b)=true:=rfl
theorem MY(b:List UInt8):AV.one (.str b)=true:=rfl
theorem MZ(b:List (List AV)):AV.one (.lst b)=true:=rfl
theorem M0(r o l z:Nat):AV.one (.sl r o l z)=true:=rfl
theorem M1:AV.one .nilS=true:=rfl
theorem M2(r o:Nat):AV.one (.ptr r o)=true:=rfl
theorem M3(r:Nat):AV.one (.map r)=true:=rfl
theorem M4(g:Nat)(cap:List AV):AV.one (.clo g cap)=true:=rfl
theorem zdg:zc2.next=0:=rfl
theorem M5(H:Hp)(t:TypeId)(s:List UInt8)(lo C:Option AV):kR P H t (.str s) lo C=zeh P t (.str s) lo C:=rfl
theorem M6(H:Hp)(t:TypeId)(s:List (List AV))(lo C:Option AV):kR P H t (.lst s) lo C=zeh P t (.lst s) lo C:=rfl
theorem M7(H:Hp)(t:TypeId)(r o n z:Nat)(lo C:Option AV):kR P H t (.sl r o n z) lo C=zeh P t (.sl r o n z) lo C:=rfl
theorem M8(H:Hp)(t:TypeId)(lo C:Option AV):kR P H t .nilS lo C=zeh P t .nilS lo C:=rfl
theorem zN(n k:Nat):(n == n+(k+1))=false:=aD
theorem zO(n k:Nat):(n+(k+1) == n)=false:=aD
theorem DU(n a b:Nat):(n+a == n+b)=(a == b):=by
 by_cases h:a=b
 .simp[h]
 .have i:(a == b)=false:=by simpa using h
  rw[i];simp;omega
end
attribute [irreducible] aC zcY zcx fI
abbrev zdE(l:List (List UInt8)):AV:=.lst (l.map fun s=>[.str s])
abbrev jk(l:List Int):AV:=.lst (l.map fun n=>[.int .i64 n])
def str(s:String):List UInt8:=s.toUTF8.data.toList
inductive Ex where
 |mk (kind:Int) (n:Int) (name:List UInt8) (op:Int) (kids:List Ex)
def Ex.kind:Ex->Int|.mk x _ _ _ _=>x
def Ex.n:Ex->Int|.mk _ x _ _ _=>x
def Ex.name:Ex->List UInt8|.mk _ _ x _ _=>x
def Ex.op:Ex->Int|.mk _ _ _ x _=>x
def Ex.kids:Ex->List Ex|.mk _ _ _ _ x=>x
mutual
def Ex.cells:Ex->List AV
 | .mk a0 a1 a2 zd9 zea=>[.int .i64 a0,.int .i64 a1,.str a2,.int .i64 zd9,.lst (wn zea)]
def wn:List Ex->List (List AV)
 |[]=>[]
 |x::xs=>Ex.cells x::wn xs
end
theorem DV:∀l:List Ex,wn l=l.map Ex.cells
 |[]=>rfl
 |x::xs=>by rw[wn,DV xs];rfl
theorem Ex.cells_eq(x:Ex):x.cells=[.int .i64 x.kind,.int .i64 x.n,.str x.name,.int .i64 x.op,.lst (x.kids.map Ex.cells)]:=by
 cases x;simp only[Ex.cells,DV,Ex.kind,Ex.n,Ex.name,Ex.op,Ex.kids]
def pU:=@Ex.cells_eq
theorem Ex.clen(x:Ex):x.cells.length=5:=pN
theorem Ex.c0(x:Ex):x.cells[0]?=some (.int .i64 x.kind):=pN
theorem Ex.c1(x:Ex):x.cells[1]?=some (.int .i64 x.n):=pN
theorem Ex.c2(x:Ex):x.cells[2]?=some (.str x.name):=pN
theorem Ex.c3(x:Ex):x.cells[3]?=some (.int .i64 x.op):=pN
theorem Ex.c4(x:Ex):x.cells[4]?=some (.lst (x.kids.map Ex.cells)):=pN
theorem Ex.whole(x:Ex):zc6 5 x.cells=some (.agg x.cells):=by unfold zc6;rw[pU];rfl
theorem Ex.one(x:Ex):x.cells.all AV.one=true:=pN
inductive St where
 |mk (kind:Int) (name:List UInt8) (to:List UInt8) (n:Int) (at_:Ex) (value:Ex) (args:List Ex) (thn:List St) (els:List St)
def St.kind:St->Int|.mk x _ _ _ _ _ _ _ _=>x
def St.name:St->List UInt8|.mk _ x _ _ _ _ _ _ _=>x
def St.to:St->List UInt8|.mk _ _ x _ _ _ _ _ _=>x
def St.n:St->Int|.mk _ _ _ x _ _ _ _ _=>x
def St.at_:St->Ex|.mk _ _ _ _ x _ _ _ _=>x
def St.value:St->Ex|.mk _ _ _ _ _ x _ _ _=>x
def St.args:St->List Ex|.mk _ _ _ _ _ _ x _ _=>x
def St.thn:St->List St|.mk _ _ _ _ _ _ _ x _=>x
def St.els:St->List St|.mk _ _ _ _ _ _ _ _ x=>x
mutual
def St.cells:St->List AV
 | .mk a0 a1 a2 zd9 zea a5 a6 zfj zfm=>[.int .i64 a0,.str a1,.str a2,.int .i64 zd9,.int .i64 zea.kind,.int .i64 zea.n,.str zea.name,.int .i64 zea.op,.lst (zea.kids.map Ex.cells),.int .i64 a5.kind,.int .i64 a5.n,.str a5.name,.int .i64 a5.op,.lst (a5.kids.map Ex.cells),.lst (a6.map Ex.cells),.lst (t3 zfj),.lst (t3 zfm)]
def t3:List St->List (List AV)
 |[]=>[]
 |x::xs=>St.cells x::t3 xs
end
theorem DW:∀l:List St,t3 l=l.map St.cells
 |[]=>rfl
 |x::xs=>by rw[t3,DW xs];rfl
theorem St.cells_eq(x:St):x.cells=[.int .i64 x.kind,.str x.name,.str x.to,.int .i64 x.n,.int .i64 x.at_.kind,.int .i64 x.at_.n,.str x.at_.name,.int .i64 x.at_.op,.lst (x.at_.kids.map Ex.cells),.int .i64 x.value.kind,.int .i64 x.value.n,.str x.value.name,.int .i64 x.value.op,.lst (x.value.kids.map Ex.cells),.lst (x.args.map Ex.cells),.lst (x.thn.map St.cells),.lst (x.els.map St.cells)]:=by
 cases x;simp only[St.cells,DW,St.kind,St.name,St.to,St.n,St.at_,St.value,St.args,St.thn,St.els]
def rH:=@St.cells_eq
theorem St.clen(x:St):x.cells.length=17:=hL
theorem St.c0(x:St):x.cells[0]?=some (.int .i64 x.kind):=hL
theorem St.c1(x:St):x.cells[1]?=some (.str x.name):=hL
theorem St.c2(x:St):x.cells[2]?=some (.str x.to):=hL
theorem St.c3(x:St):x.cells[3]?=some (.int .i64 x.n):=hL
theorem St.c4(x:St):x.cells[4]?=some (.int .i64 x.at_.kind):=hL
theorem St.c5(x:St):x.cells[5]?=some (.int .i64 x.at_.n):=hL
theorem St.c6(x:St):x.cells[6]?=some (.str x.at_.name):=hL
theorem St.c7(x:St):x.cells[7]?=some (.int .i64 x.at_.op):=hL
theorem St.c8(x:St):x.cells[8]?=some (.lst (x.at_.kids.map Ex.cells)):=hL
theorem St.c9(x:St):x.cells[9]?=some (.int .i64 x.value.kind):=hL
theorem St.c10(x:St):x.cells[10]?=some (.int .i64 x.value.n):=hL
theorem St.c11(x:St):x.cells[11]?=some (.str x.value.name):=hL
theorem St.c12(x:St):x.cells[12]?=some (.int .i64 x.value.op):=hL
theorem St.c13(x:St):x.cells[13]?=some (.lst (x.value.kids.map Ex.cells)):=hL
theorem St.c14(x:St):x.cells[14]?=some (.lst (x.args.map Ex.cells)):=hL
theorem St.c15(x:St):x.cells[15]?=some (.lst (x.thn.map St.cells)):=hL
theorem St.c16(x:St):x.cells[16]?=some (.lst (x.els.map St.cells)):=hL
theorem St.whole(x:St):zc6 17 x.cells=some (.agg x.cells):=by unfold zc6;rw[rH];rfl
theorem St.one(x:St):x.cells.all AV.one=true:=hL
theorem M9(x:St):zc6 5 (x.cells.drop 4)=some (.agg x.at_.cells):=by unfold zc6;rw[rH,pU];rfl
theorem St.part_value(x:St):zc6 5 (x.cells.drop 9)=some (.agg x.value.cells):=by unfold zc6;rw[rH,pU];rfl
structure Fu where
 name:List UInt8
 params:List (List UInt8)
 locals:List (List UInt8)
 body:List St
 value:Ex
def Fu.cells(x:Fu):List AV:=[.str x.name,zdE x.params,zdE x.locals,.lst (x.body.map St.cells),.int .i64 x.value.kind,.int .i64 x.value.n,.str x.value.name,.int .i64 x.value.op,.lst (x.value.kids.map Ex.cells)]
theorem Fu.cells_eq(x:Fu):x.cells=[.str x.name,zdE x.params,zdE x.locals,.lst (x.body.map St.cells),.int .i64 x.value.kind,.int .i64 x.value.n,.str x.value.name,.int .i64 x.value.op,.lst (x.value.kids.map Ex.cells)]:=rfl
def t4:=@Fu.cells_eq
theorem Fu.clen(x:Fu):x.cells.length=9:=lQ
theorem Fu.c0(x:Fu):x.cells[0]?=some (.str x.name):=lQ
theorem Fu.c1(x:Fu):x.cells[1]?=some (zdE x.params):=lQ
theorem Fu.c2(x:Fu):x.cells[2]?=some (zdE x.locals):=lQ
theorem Fu.c3(x:Fu):x.cells[3]?=some (.lst (x.body.map St.cells)):=lQ
theorem Fu.c4(x:Fu):x.cells[4]?=some (.int .i64 x.value.kind):=lQ
theorem Fu.c5(x:Fu):x.cells[5]?=some (.int .i64 x.value.n):=lQ
theorem Fu.c6(x:Fu):x.cells[6]?=some (.str x.value.name):=lQ
theorem Fu.c7(x:Fu):x.cells[7]?=some (.int .i64 x.value.op):=lQ
theorem Fu.c8(x:Fu):x.cells[8]?=some (.lst (x.value.kids.map Ex.cells)):=lQ
theorem Fu.whole(x:Fu):zc6 9 x.cells=some (.agg x.cells):=by unfold zc6;rw[t4];rfl
theorem Fu.one(x:Fu):x.cells.all AV.one=true:=lQ
theorem Fu.part_value(x:Fu):zc6 5 (x.cells.drop 4)=some (.agg x.value.cells):=by unfold zc6;rw[t4,pU];rfl
structure Ar where
 name:List UInt8
 len:Int
def Ar.cells(x:Ar):List AV:=[.str x.name,.int .i64 x.len]
theorem Ar.cells_eq(x:Ar):x.cells=[.str x.name,.int .i64 x.len]:=rfl
theorem Ar.clen(x:Ar):x.cells.length=2:=v6
theorem Ar.c0(x:Ar):x.cells[0]?=some (.str x.name):=v6
theorem Ar.c1(x:Ar):x.cells[1]?=some (.int .i64 x.len):=v6
theorem Ar.whole(x:Ar):zc6 2 x.cells=some (.agg x.cells):=by unfold zc6;rw[Ar.cells_eq];rfl
theorem Ar.one(x:Ar):x.cells.all AV.one=true:=v6
structure Pr where
 arrays:List Ar
 funcs:List Fu
def Pr.cells(x:Pr):List AV:=[.lst (x.arrays.map Ar.cells),.lst (x.funcs.map Fu.cells)]
theorem Pr.cells_eq(x:Pr):x.cells=[.lst (x.arrays.map Ar.cells),.lst (x.funcs.map Fu.cells)]:=rfl
theorem Pr.clen(x:Pr):x.cells.length=2:=v7
theorem Pr.c0(x:Pr):x.cells[0]?=some (.lst (x.arrays.map Ar.cells)):=v7
theorem Pr.c1(x:Pr):x.cells[1]?=some (.lst (x.funcs.map Fu.cells)):=v7
theorem Pr.whole(x:Pr):zc6 2 x.cells=some (.agg x.cells):=by unfold zc6;rw[Pr.cells_eq];rfl
theorem Pr.one(x:Pr):x.cells.all AV.one=true:=v7
structure Tk where
 kind:Int
 text:List UInt8
 at_:Int
def Tk.cells(x:Tk):List AV:=[.int .i64 x.kind,.str x.text,.int .i64 x.at_]
theorem Tk.cells_eq(x:Tk):x.cells=[.int .i64 x.kind,.str x.text,.int .i64 x.at_]:=rfl
theorem Tk.clen(x:Tk):x.cells.length=3:=tW
theorem Tk.c0(x:Tk):x.cells[0]?=some (.int .i64 x.kind):=tW
theorem Tk.c1(x:Tk):x.cells[1]?=some (.str x.text):=tW
theorem Tk.c2(x:Tk):x.cells[2]?=some (.int .i64 x.at_):=tW
theorem Tk.whole(x:Tk):zc6 3 x.cells=some (.agg x.cells):=by unfold zc6;rw[Tk.cells_eq];rfl
theorem Tk.one(x:Tk):x.cells.all AV.one=true:=tW
structure Nd where
 op:Int
 imm:Int
 kids:List Int
def Nd.cells(x:Nd):List AV:=[.int .i64 x.op,.int .i64 x.imm,jk x.kids]
theorem Nd.cells_eq(x:Nd):x.cells=[.int .i64 x.op,.int .i64 x.imm,jk x.kids]:=rfl
theorem Nd.clen(x:Nd):x.cells.length=3:=tX
theorem Nd.c0(x:Nd):x.cells[0]?=some (.int .i64 x.op):=tX
theorem Nd.c1(x:Nd):x.cells[1]?=some (.int .i64 x.imm):=tX
theorem Nd.c2(x:Nd):x.cells[2]?=some (jk x.kids):=tX
theorem Nd.whole(x:Nd):zc6 3 x.cells=some (.agg x.cells):=by unfold zc6;rw[Nd.cells_eq];rfl
theorem Nd.one(x:Nd):x.cells.all AV.one=true:=tX
structure Gr where
 name:List UInt8
 params:Int
 nodes:List Nd
 value:Int
 state:Int
def Gr.cells(x:Gr):List AV:=[.str x.name,.int .i64 x.params,.lst (x.nodes.map Nd.cells),.int .i64 x.value,.int .i64 x.state]
theorem Gr.cells_eq(x:Gr):x.cells=[.str x.name,.int .i64 x.params,.lst (x.nodes.map Nd.cells),.int .i64 x.value,.int .i64 x.state]:=rfl
theorem Gr.clen(x:Gr):x.cells.length=5:=pO
theorem Gr.c0(x:Gr):x.cells[0]?=some (.str x.name):=pO
theorem Gr.c1(x:Gr):x.cells[1]?=some (.int .i64 x.params):=pO
theorem Gr.c2(x:Gr):x.cells[2]?=some (.lst (x.nodes.map Nd.cells)):=pO
theorem Gr.c3(x:Gr):x.cells[3]?=some (.int .i64 x.value):=pO
theorem Gr.c4(x:Gr):x.cells[4]?=some (.int .i64 x.state):=pO
theorem Gr.whole(x:Gr):zc6 5 x.cells=some (.agg x.cells):=by unfold zc6;rw[Gr.cells_eq];rfl
theorem Gr.one(x:Gr):x.cells.all AV.one=true:=pO
structure Un where
 arrays:List Ar
 funcs:List Gr
def Un.cells(x:Un):List AV:=[.lst (x.arrays.map Ar.cells),.lst (x.funcs.map Gr.cells)]
theorem Un.cells_eq(x:Un):x.cells=[.lst (x.arrays.map Ar.cells),.lst (x.funcs.map Gr.cells)]:=rfl
theorem Un.clen(x:Un):x.cells.length=2:=v8
theorem Un.c0(x:Un):x.cells[0]?=some (.lst (x.arrays.map Ar.cells)):=v8
theorem Un.c1(x:Un):x.cells[1]?=some (.lst (x.funcs.map Gr.cells)):=v8
theorem Un.whole(x:Un):zc6 2 x.cells=some (.agg x.cells):=by unfold zc6;rw[Un.cells_eq];rfl
theorem Un.one(x:Un):x.cells.all AV.one=true:=v8
abbrev eA(n:Int):Int:=IntKind.wrap .i64 n
section
variable (q:Ex -> Int -> Bool)
mutual
def js:Ex->Int->Bool
 | .mk k n s o V,d=>q (.mk k n s o V) d&&zew V (eA (d+1))
def zew:List Ex->Int->Bool
 |[],_=>true
 |e::es,d=>js e d&&zew es d
end
theorem zP(e:Ex)(d:Int):js q e d=(q e d&&zew q e.kids (eA (d+1))):=by
 cases e;simp only[js,Ex.kids]
theorem wo{l:List Ex}{i:Nat}(h:i<l.length)(d:Int):zew q (l.drop i) d=(js q l[i] d&&zew q (l.drop (i+1)) d):=by
 rw[d7 h,zew]
end
section
variable {σ:Type} (q:St -> Int -> σ -> Bool × σ)
mutual
def iw:St->Int->σ->Bool×σ
 | .mk k K g n a v args Y Z,d,s=>match q (.mk k K g n a v args Y Z) d s with
   |(false,s)=>(false,s)
   |(true,s)=>match zdG Y (eA (d+1)) s with
    |(false,s)=>(false,s)
    |(true,s)=>zdG Z (eA (d+1)) s
def zdG:List St->Int->σ->Bool×σ
 |[],_,s=>(true,s)
 |x::l,d,s=>match iw x d s with
  |(false,s)=>(false,s)
  |(true,s)=>zdG l d s
end
theorem Na(x:St)(d:Int)(s:σ):iw q x d s=match q x d s with
 |(false,s)=>(false,s)
 |(true,s)=>match zdG q x.thn (eA (d+1)) s with
  |(false,s)=>(false,s)
  |(true,s)=>zdG q x.els (eA (d+1)) s:=by
 cases x;simp only[iw,St.thn,St.els]
theorem Nb{l:List St}{i:Nat}(h:i<l.length)(d:Int)(s:σ):zdG q (l.drop i) d s=match iw q l[i] d s with
 |(false,s)=>(false,s)
 |(true,s)=>zdG q (l.drop (i+1)) d s:=by
 rw[d7 h,zdG]
end
mutual
def Ex.sz:Ex->Nat
 | .mk _ _ s _ V=>1+s.length+mI V
def mI:List Ex->Nat
 |[]=>0
 |e::es=>1+e.sz+mI es
end
mutual
def St.sz:St->Nat
 | .mk _ K g _ a v args Y Z=>1+K.length+g.length+a.sz+v.sz+mI args+zes Y+zes Z
def zes:List St->Nat
 |[]=>0
 |x::l=>1+x.sz+zes l
end
def zen:List (List UInt8)->Nat
 |[]=>0
 |s::l=>1+s.length+zen l
def Fu.sz(f:Fu):Nat:=1+f.name.length+zen f.params+zen f.locals+zes f.body+f.value.sz
def kA:List Fu->Nat
 |[]=>0
 |f::l=>1+f.sz+kA l
def kB:List Ar->Nat
 |[]=>0
 |a::l=>1+a.name.length+kB l
def Pr.sz(p:Pr):Nat:=1+kB p.arrays+kA p.funcs
theorem t6:∀l:List Ex,l.length<=mI l
 |[]=>aM _
 |e::es=>by have:=t6 es;simp only[dg,mI];omega
theorem DX:∀l:List St,l.length<=zes l
 |[]=>aM _
 |e::es=>by have:=DX es;simp only[dg,zes];omega
theorem rI:∀l:List (List UInt8),l.length<=zen l
 |[]=>aM _
 |e::es=>by have:=rI es;simp only[dg,zen];omega
theorem rJ:∀l:List Fu,l.length<=kA l
 |[]=>aM _
 |e::es=>by have:=rJ es;simp only[dg,kA];omega
theorem rK:∀l:List Ar,l.length<=kB l
 |[]=>aM _
 |e::es=>by have:=rK es;simp only[dg,kB];omega
theorem rL:∀{l:List Ex}{x:Ex},x∈l->x.sz<mI l
 |[],_,h=>by simp at h
 |e::es,x,h=>by
  rcases fk.1 h with rfl|h
  .simp only[mI];omega
  .have:=rL h;simp only[mI];omega
theorem rM:∀{l:List St}{x:St},x∈l->x.sz<zes l
 |[],_,h=>by simp at h
 |e::es,x,h=>by
  rcases fk.1 h with rfl|h
  .simp only[zes];omega
  .have:=rM h;simp only[zes];omega
theorem DY:∀{l:List (List UInt8)}{x:List UInt8},x∈l->x.length<zen l
 |[],_,h=>by simp at h
 |e::es,x,h=>by
  rcases fk.1 h with rfl|h
  .simp only[zen];omega
  .have:=DY h;simp only[zen];omega
theorem rN:∀{l:List Fu}{x:Fu},x∈l->x.sz<kA l
 |[],_,h=>by simp at h
 |e::es,x,h=>by
  rcases fk.1 h with rfl|h
  .simp only[kA];omega
  .have:=rN h;simp only[kA];omega
theorem Ex.sz_eq(e:Ex):e.sz=1+e.name.length+mI e.kids:=by cases e;simp only[Ex.sz,Ex.name,Ex.kids]
theorem St.sz_eq(x:St):x.sz=1+x.name.length+x.to.length+x.at_.sz+x.value.sz+mI x.args+zes x.thn+zes x.els:=by cases x;simp only[St.sz,St.name,St.to,St.at_,St.value,St.args,St.thn,St.els]
structure FrB (base:Nat) (H H':Hp):Prop where
 next:H.next<=H'.next
 get:∀r,base<=r->r<H.next->H'.get r=H.get r
theorem FrB.refl(base:Nat)(H:Hp):FrB base H H:=⟨aM _,fun _ _ _=>rfl⟩
def fT:=@FrB.refl
theorem FrB.trans{base:Nat}{a b c:Hp}(h:FrB base a b)(k:FrB base b c):FrB base a c:=⟨eG h.next k.next,fun r i g=>(k.get r i (fZ g h.next)).trans (h.get r i g)⟩
theorem FrB.alloc{base:Nat}{a b:Hp}(h:FrB base a b)(x:HB):FrB base a (b.alloc x):=⟨eG h.next (f7 _),fun r i g=>by
 have:=h.next
 rw[zcu,ah ac];exact h.get r i g⟩
theorem FrB.set{base r:Nat}{a b:Hp}(h:FrB base a b)(hr:a.next<=r\/r<base)(x:HB):FrB base a (b.set r x):=⟨h.next,fun k i g=>by
 rw[aU,ah ac];exact h.get k i g⟩
def fz(base:Nat)(H H':Hp):Prop:=∀r,r<base->H'.get r=H.get r
theorem fz.refl(base:Nat)(H:Hp):fz base H H:=fun _ _=>rfl
def lS:=@fz.refl
theorem fz.trans{base:Nat}{a b c:Hp}(h:fz base a b)(k:fz base b c):fz base a c:=fun r hr=>(k r hr).trans (h r hr)
theorem fz.alloc{base:Nat}{a b:Hp}(h:fz base a b)(z:base<=b.next)(x:HB):fz base a (b.alloc x):=fun r hr=>by rw[zcu,ah ac];exact h r hr
theorem fz.set{base r:Nat}{a b:Hp}(h:fz base a b)(hr:base<=r)(x:HB):fz base a (b.set r x):=fun k j=>by rw[aU,ah ac];exact h k j
theorem FrB.weak{base A:Nat}(h:base<=A){a b:Hp}(k:FrB base a b):FrB A a b:=⟨k.next,fun r i g=>k.get r (eG h i) g⟩
theorem fz.weak{base A:Nat}(h:base<=A){a b:Hp}(k:fz A a b):fz base a b:=fun r hr=>k r (fZ hr h)
def kC(x:St)(d:Int)(s:Int×Int):Bool×(Int×Int):=
 let n:=eA (s.1+1)
 let l:=if x.kind=4 then eA (s.2+1)else s.2
 (decide (d<=20)&&decide (n<=200)&&decide (l<=16),(n,l))
def nM(_:Ex)(d:Int):Bool:=decide (d<=20)
def lg(q:Ex->Int->Bool)(x:St)(_:Int)(s:Unit):Bool×Unit:=(js q x.at_ 0&&js q x.value 0&&zew q x.args 0,s)
def lh(q:Ex->Int->Bool)(f:Fu):Bool:=js q f.value 0&&(zdG (lg q) f.body 0 ()).1
def gK(f:Fu):Bool:=decide ((f.params.length:Int)<=6)&&decide ((f.locals.length:Int)<=8)&&(zdG kC f.body 0 (0,0)).1&&lh nM f
def iS(p:Pr):Bool:=!decide (4<(p.arrays.length:Int)) && !decide (8<(p.funcs.length:Int))&&p.arrays.all (fun a=>!decide (a.len<1) && !decide (16<a.len))&&p.funcs.all gK
def nN(b:Int):Int:=IntKind.wrap .u64 (IntKind.wrap .i64 (BitVec.ofInt (IntKind.bits .i64) b &&& BitVec.ofInt (IntKind.bits .i64) 63).toNat)
def zQ(k:IntKind)(a b:Int):Int:=k.wrap (a*2^ min b.toNat k.bits)
def wq(k:IntKind)(a b:Int):Int:=a.fdiv (2^ min b.toNat k.bits)
def rO(a b:Int):Int:=if b=0 then 0 else if b=-1 then eA (0-a)else eA (a.tdiv b)
def pV(b:Bool):Int:=if b=true then 1 else 0
def zR(op a b:Int):Int:=
 if op=12 then zQ .i64 a (nN b)else if op=13 then IntKind.wrap .i64 (wq .u64 (IntKind.wrap .u64 a) (nN b))else if op=14 then wq .i64 a (nN b)
 else if op=15 then pV (decide (a=b))else if op=16 then pV (!decide (a=b))else if op=17 then pV (decide (a<b))else if op=18 then pV (decide (a<=b))
 else if op=19 then pV (decide (IntKind.wrap .u64 a<IntKind.wrap .u64 b))else 0
def pW(op a b:Int):Int:=
 if op=4 then eA (a+b)else if op=5 then eA (a-b)else if op=6 then eA (a*b)else if op=7 then rO a b else if op=8 then (if b=0 then 0 else eA (a-eA (rO a b*b)))
 else if op=9 then IntKind.wrap .i64 (BitVec.ofInt (IntKind.bits .i64) a &&& BitVec.ofInt (IntKind.bits .i64) b).toNat
 else if op=10 then IntKind.wrap .i64 (BitVec.ofInt (IntKind.bits .i64) a |||BitVec.ofInt (IntKind.bits .i64) b).toNat
 else if op=11 then IntKind.wrap .i64 (BitVec.ofInt (IntKind.bits .i64) a^^^ BitVec.ofInt (IntKind.bits .i64) b).toNat
 else zR op a b
def pX(op a:Int):Int:=if op=20 then eA (0-a)else if op=21 then IntKind.wrap .i64 (BitVec.ofInt (IntKind.bits .i64) (-1)^^^ BitVec.ofInt (IntKind.bits .i64) a).toNat else 0
theorem Nc{a:Int}:nA .xor (.int .i64 a)=some (.int .i64 (IntKind.wrap .i64 (BitVec.ofInt (IntKind.bits .i64) (-1)^^^ BitVec.ofInt (IntKind.bits .i64) a).toNat)):=rfl
theorem Nf(n:Int):0<=IntKind.wrap .u64 n:=by
 unfold IntKind.wrap;simp only[IntKind.signed,dK,cr,ck];exact Int.emod_nonneg _ (by simp[IntKind.bits])
theorem Ng(b:Int):0<=nN b:=Nf _
theorem Nh{P:Program}{D:BinOp->Sx->Sx->Option Bool}{t:TypeId}{k M:IntKind}{a b:Int}(z:0<=b):zdr P D .shl t (.int k a) (.int M b)=some (.int k (zQ k a b)):=by
 obtain⟨m,rfl⟩:=ez z;simp only[zdr,nz];show oq .shl k a (Int.ofNat m)=_;simp[oq,zQ]
theorem bin_shr{P:Program}{D:BinOp->Sx->Sx->Option Bool}{t:TypeId}{k M:IntKind}{a b:Int}(z:0<=b):zdr P D .shr t (.int k a) (.int M b)=some (.int k (wq k a b)):=by
 obtain⟨m,rfl⟩:=ez z;simp only[zdr,nz];show oq .shr k a (Int.ofNat m)=_;simp[oq,wq]
abbrev zdb:=List UInt8
structure MS where
 fuel:Int
 fin:Int
 code:Int
 cells:List (zdb×List Int)
 out:List Int
def eg:List (zdb×Int)->zdb->Int
 |[],_=>0
 |p::l,nm=>if nm=p.1 then p.2 else eg l nm
def setV:List (zdb×Int)->zdb->Int->List (zdb×Int)
 |[],nm,x=>[(nm,x)]
 |p::l,nm,x=>if nm=p.1 then (nm,x)::l else p::setV l nm x
section
variable (p:Pr) (fi:List (zdb × Int))
end
def cP(vs:List (zdb×Int)):List (AV×AV):=vs.map fun p=>(.str p.1,.int .i64 p.2)
def zdt(l:List Int):List AV:=l.map fun n=>.int .i64 n
theorem t7(l:List Int):(zdt l).length=l.length:=by simp[zdt]
theorem zS(nm:zdb):∀(vs:List (zdb×Int)) (i:Nat),(zdT .string (.str nm) (cP vs) i=some none/\eg vs nm=0/\∀x,cP (setV vs nm x)=cP vs++[(.str nm,.int .i64 x)]) \/
 ∃j,j<vs.length/\zdT .string (.str nm) (cP vs) i=some (some (i+j,.int .i64 (eg vs nm)))/\∀x,cP (setV vs nm x)=(cP vs).set j (.str nm,.int .i64 x)
 |[],i=>.inl ⟨rfl,rfl,fun _=>rfl⟩
 |p::l,i=>by
  by_cases h:nm=p.1
  .refine .inr ⟨0,aD,?_,fun x=>?_⟩
   .simp[cP,zdT,kS,eg,h]
   .simp[cP,setV,h]
  .have Y:zdT .string (.str nm) (cP (p::l)) i=zdT .string (.str nm) (cP l) (i+1):=by
    show zdT .string (.str nm) ((.str p.1,.int .i64 p.2)::cP l) i=_;have:(nm == p.1)=false:=iQ;simp[zdT,kS,this]
   have I:eg (p::l) nm=eg l nm:=by simp[eg,h]
   have K:∀x,cP (setV (p::l) nm x)=(.str p.1,.int .i64 p.2)::cP (setV l nm x):=fun x=>by simp[setV,h,cP]
   rw[Y,I];rcases zS nm l (i+1)with⟨Z,g,o⟩|⟨j,O,Z,o⟩
   .refine .inl ⟨Z,g,fun x=>?_⟩;rw[K,o];simp[cP]
   .refine .inr ⟨j+1,co,?_,fun x=>?_⟩
    .rw[Z,show i+1+j=i+(j+1) by omega]
    .rw[K,o];simp[cP]
structure Mx where
 p:Pr
 rm:Nat
 rc:Nat
 rf:Nat
 rs:List Nat
 fi:List (zdb×Int)
theorem DZ{P:Program}{H:Hp}{t L e r:Nat}{U:List (AV×AV)}{nm:zdb}{z:AV}(C:P.underlying t=some (.map L e))(j:zeZ P L=some .string)(m:ny P e=some z)(A:H.get r=some (.map U)):
 (zdT .string (.str nm) U 0=some none->zeD P H t (.map r) (.str nm) false=some z)/\∀i v,zdT .string (.str nm) U 0=some (some (i,v))->zeD P H t (.map r) (.str nm) false=some v:=by
 refine⟨fun h=>?_,fun i v h=>?_⟩<;>simp only[zeD,C,j,m,pp,A,h,s6]
theorem zT{P:Program}{H:Hp}{t L e r:Nat}{U:List (AV×AV)}{nm:zdb}{x:AV}(C:P.underlying t=some (.map L e))(j:zeZ P L=some .string)(A:H.get r=some (.map U)):
 (zdT .string (.str nm) U 0=some none->ze2 P H t (.map r) (.str nm) x=some (H.set r (.map (U++[(.str nm,x)]))))/\∀i v,zdT .string (.str nm) U 0=some (some (i,v))->ze2 P H t (.map r) (.str nm) x=some (H.set r (.map (U.set i (.str nm,x)))):=by
 refine⟨fun h=>?_,fun i v h=>?_⟩<;>simp only[ze2,C,j,A,h]
theorem D0{P:Program}{H:Hp}{t L e r:Nat}(C:P.underlying t=some (.map L e))(Z:zeZ P L=some .string)(m:ny P e=some (.int .i64 0)){vs:List (zdb×Int)}(A:H.get r=some (.map (cP vs)))(nm:zdb):
 zeD P H t (.map r) (.str nm) false=some (.int .i64 (eg vs nm)):=by
 obtain⟨l1,l2⟩:=DZ (nm:=nm) C Z m A;rcases zS nm vs 0 with⟨i,g,o⟩|⟨j,O,i,o⟩
 .rw[l1 i,g]
 .rw[l2 _ _ i]
theorem Ni{P:Program}{H:Hp}{t L e r:Nat}(C:P.underlying t=some (.map L e))(Z:zeZ P L=some .string){vs:List (zdb×Int)}(A:H.get r=some (.map (cP vs)))(nm:zdb)(x:Int):
 ze2 P H t (.map r) (.str nm) (.int .i64 x)=some (H.set r (.map (cP (setV vs nm x)))):=by
 obtain⟨l1,l2⟩:=zT (nm:=nm) (x:=.int .i64 x) C Z A;rcases zS nm vs 0 with⟨i,g,o⟩|⟨j,O,i,o⟩
 .rw[l1 i,o]
 .rw[l2 _ _ i,o,bw]
theorem Sx.beq_refl:∀a:Sx,Sx.beq a a=true
 | .var i=>by simp[Sx.beq]
 | .lit n=>by simp[Sx.beq]
 | .bin o k a b=>by simp[Sx.beq,Sx.beq_refl a,Sx.beq_refl b]
 | .conv k a=>by simp[Sx.beq,Sx.beq_refl a]
mutual
theorem AV.beq_refl:∀a:AV,AV.beq a a=true
 | .int k n=>by simp[AV.beq]
 | .sx k e=>by simp[AV.beq,Sx.beq_refl]
 | .bool b=>by simp[AV.beq]
 | .str s=>by simp[AV.beq]
 | .nilP=>rfl
 | .nilM=>rfl
 | .nilF=>rfl
 | .nilS=>rfl
 | .ptr r o=>by simp[AV.beq]
 | .iptr W=>by simp only[AV.beq];exact zfh W
 | .sl r o l z=>by simp[AV.beq]
 | .lst C=>by simp only[AV.beq];exact D1 C
 | .map r=>by simp[AV.beq]
 | .clo f W=>by simp only[AV.beq,zfh W,jN];simp
 | .agg W=>by simp only[AV.beq];exact zfh W
 | .tup W=>by simp only[AV.beq];exact zfh W
theorem zfh:∀a:List AV,zeT a a=true
 |[]=>rfl
 |a::l=>by simp only[zeT,AV.beq_refl a,zfh l,jN]
theorem D1:∀a:List (List AV),pu a a=true
 |[]=>rfl
 |a::l=>by simp only[pu,zfh a,D1 l,jN]
end
def pY(o:Oper):Bool:=nI o.op||mz o.op
def wr(o:Oper):Bool:=pY o||(match o.op with|.store ..|.mapUpdate ..=>true |_=>false)
def wt(ops:List Oper):Bool:=
 mo ops&&(List.range ops.length).all (fun i=>match ops[i]? with|some o=>if Nat.blt (i+1) ops.length then pY o else wr o|none=>true)&&(kV ops).all (fun p=>Nat.blt p.2 ops.length)
section
variable {P:Program} {cfg:Cfg} {f N:Nat}
theorem zU{ih:Task->Res}{C:List Oper}:∀{l:List Oper}{E E':ao}{H H':Hp},zeG P cfg ih f N C l E H=.done .normal E' H'->∃rs,gA P cfg ih f N C l E H=.done E' H' rs
 |[],E,E',H,H',h=>by
  simp only[zeG,Res.done.injEq,fH]at h;obtain⟨rfl,rfl⟩:=h;exact⟨[],rfl⟩
 |o::l,E,E',H,H',h=>by
  rw[tY]at h;simp only[gA];cases J:zey C E o with
  |true=>
   rw[J]at h;simp only[]at h⊢;cases Y:zdA P cfg ih f E H o.op with
   |val v H1=>
    rw[Y]at h;simp only[]at h⊢;cases hp:dW N E o.dst v with
    |none=>rw[hp]at h;simp[zeK]at h
    |some E1=>
     rw[hp]at h;simp only[zeK]at h;obtain⟨rs,hr⟩:=zU h;exact⟨_,by simp only[ze5,hr,kT];rfl⟩
   |done _ _ _=>rw[Y]at h;simp at h
   |fail=>rw[Y]at h;simp at h
  |false=>
   rw[J]at h;simp only[]at h⊢;cases hp:dW N E o.dst zdx with
   |none=>rw[hp]at h;simp[zeK]at h
   |some E1=>
    rw[hp]at h;simp only[zeK]at h;obtain⟨rs,hr⟩:=zU h;exact⟨_,by simp only[ze5,hr,kT];rfl⟩
theorem zV{ih:Task->Res}{E:ao}{o:Oper}{v:AV}{H H':Hp}(j:pY o=true)(h:zdA P cfg ih f E H o.op=.val v H'):H'=H:=by
 unfold pY at j;rw[nJ]at j;rcases j with j|j
 .have m:∀c,o.op≠.call c:=fun c e=>by
   rw[e]at j;simp only[nI,zed]at j;split at j
   .rename_i i;split at i<;>simp at i
   .simp at j
  exact(zg j ((pK m).1 h)).1
 .exact zh j h
theorem Nj{ih:Task->Res}{E:ao}{o:Oper}{v:AV}{H H':Hp}(j:wr o=true)(h:zdA P cfg ih f E H o.op=.val v H'):H.next<=H'.next:=by
 unfold wr at j;rw[nJ]at j;rcases j with j|j
 .rw[zV j h];exact aM _
 .obtain⟨Z,i,U,V,W,guard⟩:=o;simp only[]at j h;cases i<;>simp only[cr]at j
  case store t a x=>
   simp only[zdA,cq,vn]at h;split at h
   .split at h
    .rename_i K;simp only[zec,Res.val.injEq]at h;obtain⟨rfl,rfl⟩:=h;unfold zet at K;split at K
     .split at K
      .split at K
       .simp only[az]at K;rw[<-K];exact aM _
       .simp at K
      .simp at K
     .simp at K
    .simp[zec]at h
   .simp[zec]at h
  case mapUpdate t m k x=>
   simp only[zdA,cq,vy]at h;split at h
   .split at h
    .rename_i K;simp only[zec,Res.val.injEq]at h;obtain⟨rfl,rfl⟩:=h;unfold ze2 at K;split at K
     .split at K
      .split at K
       .split at K
        .simp only[az]at K;rw[<-K];exact aM _
        .simp only[az]at K;rw[<-K];exact aM _
        .simp at K
       .simp at K
      .simp at K
     .simp at K
    .simp[zec]at h
   .simp[zec]at h
theorem Nk{ih ih':Task->Res}{f':FuncId}{E:ao}{op:Op}{H:Hp}(j:mz op=true):zdA P cfg ih f E H op=zdA P cfg ih' f' E H op:=by
 cases op<;>simp only[mz,zed,cr]at j<;>try rfl
 rename_i c;simp only[zdA,ou];cases hc:c.callee with
 |value g=>rw[hc]at j;simp at j
 |invoke g m=>rfl
 |builtin b=>
  rw[hc]at j;simp only[];cases b<;>simp only[cr]at j<;>rfl
theorem Nl{ih:Task->Res}{ops:List Oper}{E E':ao}{H H':Hp}(O:wt ops=true)(h:zeG P cfg ih f N ops ops E H=.done .normal E' H'):ze0 P cfg ih f N ops E H=.done .normal E' H':=by
 unfold wt at O;simp only[dp,f9,jb]at O;obtain⟨⟨A,Z⟩,g⟩:=O;obtain⟨rs,hr⟩:=zU h;have K:=tI hr;have hlen:=ze K;obtain⟨_,z2⟩:=zf K;have m:∀(i:Nat) o,ops[i]?=some o->i+1<ops.length->pY o=true:=fun i o J C=>by
  have:=Z i ac;rw[J]at this;simp only[show Nat.blt (i+1) ops.length=true by simpa [gE]using C,bT]at this;exact this
 have M:∀i,i+1<=ops.length->zc3 rs H' i=H:=fun i=>by
  induction i with
  |zero=>intro _;exact z2
  |succ i ih=>
   intro C;have z:=aO (show i<rs.length by omega);obtain⟨o,J,F⟩:=pJ K z;have h1:=ih ac;have h2:zc3 rs H' (i+1)=zc3 rs H' i:=by
    cases hd:(rs[i]' ac).did with
    |true=>exact zV (m i o J ac) (F.yes hd)
    |false=>exact(F.no hd).2
   rw[h2,h1]
 unfold ze0;rw[A];simp only[hr];have U:pw P cfg (kV ops) rs H'=true:=by
  unfold pw;simp only[dp,f9];refine⟨fun r hm=>?_,fun p L=>?_⟩
  .obtain⟨i,C⟩:=zl.1 hm;obtain⟨o,J,F⟩:=pJ K C;have V:i<ops.length:=(dD.1 J).1;rw[F.eH,F.eH'];refine Nat.ble_eq_true_of_le ?_;cases hd:r.did with
   |false=>rw[(F.no hd).2];exact aM _
   |true=>
    by_cases I:i+1<ops.length
    .rw[zV (m i o J I) (F.yes hd)];exact aM _
    .have:=Z i V;rw[J]at this;have hb:Nat.blt (i+1) ops.length=false:=by
      cases hx:Nat.blt (i+1) ops.length with
      |false=>rfl
      |true=>exact(I (by simpa [gE]using hx)).elim
     simp only[hb,cr,ck]at this;exact Nj this (F.yes hd)
  .have hm:p.2<ops.length:=by simpa [gE]using g p L
   cases hrp:rs[p.1]? with
   |none=>rfl
   |some r=>
    obtain⟨o,J,F⟩:=pJ K hrp;have V:p.1<ops.length:=(dD.1 J).1;simp only[];cases hd:r.did with
    |false=>rfl
    |true=>
     simp only[k8,jc];have hH:r.H=zc3 rs H' p.2:=by rw[F.eH,M _ ac,M _ ac]
     unfold zcH;cases j:zed r.o.op with
     |calm=>rfl
     |act=>rfl
     |read=>
      simp only[];have Y:=F.yes hd;rw[<-F.eE,<-F.eo,<-F.eH,hH]at Y;rw[Nk (P:=P) (cfg:=cfg) (f:=f) (ih:=ih) (ih':=fun _=>.fail) (f':=0) (by simp[mz,j])]at Y;rw[Y];simp only[AV.beq_refl]
     |make=>
      exfalso;rw[F.eo]at j;by_cases I:p.1+1<ops.length
      .have:=m _ o J I;unfold pY nI mz at this;rw[j]at this;simp at this
      .have W:=Z p.1 V;rw[J]at W;have hb:Nat.blt (p.1+1) ops.length=false:=by
        cases hx:Nat.blt (p.1+1) ops.length with
        |false=>rfl
        |true=>exact(I (by simpa [gE]using hx)).elim
       simp only[hb,cr,ck,wr,pY,nI,mz,j,Bool.or_self,jc]at W;split at W
       .rename_i Y;rw[Y]at j;simp[zed]at j
       .rename_i Y;rw[Y]at j;simp[zed]at j
       .simp at W
 rw[U]
theorem zcY.draw{id:Nat}{ops:List Oper}{l:List SOp}{E:ao}{H:Hp}{Q:AX->ao->Hp->Prop}(W:cfg.plan f id=.text)(V:wt ops=true)(Z:zcE N ops ops=some l)
 (h:∀K:ao->Hp->Prop,(∀E' H',Q .normal E' H'->K E' H')->aC P cfg f l E H K):zcY P cfg f N (.draw id ops) E H Q:=by
 unfold zcY;intro code hc;cases code with
 |region Y j draw=>
  cases draw with
  |false=>simp only[aA,zcG]at hc;split at hc<;>simp at hc
  |true=>
   simp only[aA,SC.draw.injEq]at hc;obtain⟨rfl,rfl⟩:=hc;obtain⟨n,E',H',i,g⟩:=aC.run Z (h (Q .normal) fun _ _ h=>h);refine⟨_,_,_,zdj.draw (n:=n) (r:=.done .normal E' H') ?_ aD,g⟩;rw[W];simp only[zeF];exact Nl V i
 |_=>simp[aA]at hc
end
section
variable {P:Program} {H:Hp} {t u e:TypeId} {keep:Bool}
theorem Nm{D:BinOp->Sx->Sx->Option Bool}{t:TypeId}{s u:List UInt8}:zdr P D .leq t (.str s) (.str u)=some (.bool (oo s u||s == u)):=rfl
theorem lT{r o n z s:Nat}{cs:List AV}{imm:Nat}{tip:Bool}(A:H.get r=some (.cells cs imm tip))(I:((cs.drop o).take (n*s)).length=n*s):zer H s (.sl r o n z)=some (n,(cs.drop o).take (n*s)):=by
 unfold zer;simp only[A,I,bT]
theorem zW{k:IntKind}{s:List UInt8}{m:Nat}(C:P.underlying t=some .string)(M:m<=s.length):zeh P t (.str s) none (some (.int k (m:Int)))=some (.str (s.take m)):=by
 show zeh P t (.str s) none (some (.int k (Int.ofNat m)))=_;simp[zeh,C,zd3,M]
theorem D2{k:IntKind}{s:List UInt8}{m:Nat}(C:P.underlying t=some .string)(M:m<=s.length):zeh P t (.str s) (some (.int k (m:Int))) none=some (.str (s.drop m)):=by
 show zeh P t (.str s) (some (.int k (Int.ofNat m))) none=_;simp only[zeh,C,zd3];rw[ax ⟨M,aM _⟩];rw[ev aD]
theorem append_nil{s b n:Nat}{z K:List AV}{x:AV}(C:P.underlying t=some (.slice e))(Z:zcC P e=some s)(Y:zc7 P e=some b)(m:zcX P e=some z)(W:j9 P u=true)
 (F:zer H s x=some (n+1,K)) (V:K.all AV.one=true) (I:z.length=s) (h1:(n+1)*b<=zdO) (h2:n+1<=zdO) :
 zdX P keep H t u .nilS x=some (.sl H.next 0 (n+1) s,H.alloc (.cells K 0 true)):=by
 simp only[zdX,C,Z,Y,m,W,F,V,I,mE,bT,fY,jH,h1,h2]
theorem zX{s b n r len:Nat}{z K cs:List AV}{x:AV}(C:P.underlying t=some (.slice e))(Y:zcC P e=some s)(Z:zc7 P e=some b)(m:zcX P e=some z)(W:j9 P u=true)
 (F:zer H s x=some (n+1,K)) (V:K.all AV.one=true) (I:z.length=s) (A:H.get r=some (.cells cs 0 true)) (O:cs.length=len*s) (h1:(len+(n+1))*b<=zdO) (h2:len+(n+1)<=zdO) :
 zdX P false H t u (.sl r 0 len s) x=some (.sl H.next 0 (len+(n+1)) s,(H.kill r).alloc (.cells (cs++K) 0 true)):=by
 have U:fY false H s (.sl r 0 len s)=H:=by
  unfold fY;simp only[A,bw];have:Nat.blt (len*s) cs.length=false:=by
   cases Z:Nat.blt (len*s) cs.length with
   |false=>rfl
   |true=>rw[gE]at Z;omega
  simp[this]
 simp only[zdX,C,Y,Z,m,W,F,V,I,mE,bT,U,jH,A,h1,h2,bw,O,cK,kq,dQ,cr,ck]
end
theorem Nn(E:ao):zcp E (.const (.slice none 0 0))=some .nilS:=rfl
theorem D3(E:ao):zcp E (.const (.map none))=some .nilM:=rfl
def fl:List (zdb×Int)->zdb->Bool
 |[],_=>false
 |p::l,nm=>if nm=p.1 then true else fl l nm
structure Oc where
 kind:Int
 code:Int
 out:List Int
 value:Int
theorem zY(nm:zdb):∀(vs:List (zdb×Int)) (i:Nat),(fl vs nm=false->zdT .string (.str nm) (cP vs) i=some none/\eg vs nm=0)/\(fl vs nm=true->∃j,zdT .string (.str nm) (cP vs) i=some (some (j,.int .i64 (eg vs nm))))
 |[],i=>⟨fun _=>⟨rfl,rfl⟩,fun h=>by simp[fl]at h⟩
 |p::l,i=>by
  by_cases h:nm=p.1
  .refine⟨fun g=>by simp[fl,h]at g,fun _=>⟨i,?_⟩⟩;simp[cP,zdT,kS,eg,h]
  .have Z:zdT .string (.str nm) (cP (p::l)) i=zdT .string (.str nm) (cP l) (i+1):=by
    show zdT .string (.str nm) ((.str p.1,.int .i64 p.2)::cP l) i=_;have:(nm == p.1)=false:=iQ;simp[zdT,kS,this]
   have I:eg (p::l) nm=eg l nm:=by simp[eg,h]
   have Y:fl (p::l) nm=fl l nm:=by simp[fl,h]
   rw[Z,I,Y];exact zY nm l (i+1)
theorem D4{P:Program}{H:Hp}{t L e r:Nat}(C:P.underlying t=some (.map L e))(Z:zeZ P L=some .string)(m:ny P e=some (.int .i64 0)){vs:List (zdb×Int)}(A:H.get r=some (.map (cP vs)))(nm:zdb):
 zeD P H t (.map r) (.str nm) true=some (.tup [.int .i64 (eg vs nm),.bool (fl vs nm)]):=by
 obtain⟨i,g⟩:=zY nm vs 0;cases Y:fl vs nm with
 |false=>
  obtain⟨W,V⟩:=i Y;simp only[zeD,C,Z,m,pp,A,W,s6,V]
 |true=>
  obtain⟨j,W⟩:=g Y;simp only[zeD,C,Z,pp,A,W,s6]
end Go.Ab
namespace Go.Proofs.YtljebeflbbgibaaGreat
set_option maxRecDepth 20000
open Go Go.Ab
structure S9 where
 cells:List (List Int)
 out:List Int
 fuel:Int
 ed:Int
 code:Int
 last:Int
structure R9 where
 k:Bool
 v:Int
 s:Option S9
def zfo:R9:=⟨false,0,none⟩
def R9.known(r:R9):R9:={r with k:=true}
def zdC(Z:List R9)(k:Int):Option R9:=if 0<=k then Z[k.toNat]? else none
def eJ(Z:List R9)(n:Nd)(j:Nat):Option R9:=n.kids[j]?.bind (zdC Z)
def lU(Z:List R9):List Int->Option Int
 |[]=>some (-1)
 |k::l=>(zdC Z k).bind fun r=>if r.k=true then lU Z l else some k
def li(Z:List R9)(n:Nd):Option Int:=(eJ Z n 0).bind fun r=>if r.v≠0 then n.kids[1]? else n.kids[2]?
def t8(Z:List R9)(n:Nd):Option Int:=
 if n.op=31 then none
 else if n.op=22 then n.kids[0]?.bind fun c=>(zdC Z c).bind fun r=>if r.k=true then (li Z n).bind fun k=>(zdC Z k).bind fun t=>some (if t.k=true then -1 else k)else some c
 else if n.op=27\/n.op=29\/n.op=30 then (eJ Z n 0).bind fun r=>if r.k=true then r.s.bind fun s=>if s.ed≠0 then some (-1)else lU Z n.kids else lU Z n.kids
 else lU Z n.kids
def zZ(s:S9)(a i:Int):Option Int:=if 0<=a then s.cells[a.toNat]?.bind fun l=>some (if i<0\/(l.length:Int)<=i then 0 else l.getD i.toNat 0)else none
def z0(s:S9)(a i v:Int):Option S9:=if 0<=a then s.cells[a.toNat]?.bind fun l=>some (if i<0\/(l.length:Int)<=i then s else {s with cells:=s.cells.set a.toNat (l.set i.toNat v) })else none
def nP(start:S9)(Z:List R9)(n:Nd):Option S9:=
 if n.op=26 then some start else
 (eJ Z n 0).bind fun r=>r.s.bind fun s=>
   if n.op=28 then (eJ Z n 1).bind fun a=>(eJ Z n 2).bind fun b=>z0 s n.imm a.v b.v
   else if s.ed≠0 then some s
   else if n.op=27 then (eJ Z n 1).bind fun a=>some (if a.v≠0 then s else {s with ed:=2,code:=n.imm})
   else if n.op=29 then (eJ Z n 1).bind fun a=>some {s with out:=a.v::s.out}
   else none
def iy(start:S9)(args:List Int)(Z:List R9)(n:Nd):Option R9:=
 if n.op=1 then some ⟨false,n.imm,none⟩
 else if n.op=2 then (if 0<=n.imm then args[n.imm.toNat]?.bind fun v=>some ⟨false,v,none⟩else none)
 else if n.op=3\/n.op=25\/n.op=30\/n.op=31 then none
 else if n.op=22 then (li Z n).bind (zdC Z)
 else if n.op=23 then (eJ Z n 0).bind fun r=>r.s.bind fun s=>(eJ Z n 1).bind fun a=>(zZ s n.imm a.v).bind fun v=>some ⟨false,v,none⟩
 else if n.op=24 then (eJ Z n 0).bind fun r=>r.s.bind fun s=>some ⟨false,s.last,none⟩
 else if n.op=20\/n.op=21 then (eJ Z n 0).bind fun r=>some ⟨false,pX n.op r.v,none⟩
 else if n.op=26\/n.op=27\/n.op=28\/n.op=29 then (nP start Z n).bind fun s=>some ⟨false,0,some s⟩
 else (eJ Z n 0).bind fun a=>(eJ Z n 1).bind fun b=>some ⟨false,pW n.op a.v b.v,none⟩
def ja(l:List Nd)(start:S9)(args:List Int):Nat->List R9->List Int->Option (List R9)
 |0,_,_=>none
 |_+1,res,[]=>some res
 |n+1,res,i::st=>(zdC res i).bind fun r=>
  if r.k=true then ja l start args n res st
  else l[i.toNat]?.bind fun m=>(t8 res m).bind fun k=>
   if 0<=k then (if st.length<2^20 then ja l start args n res (k::i::st)else none)
   else (iy start args res m).bind fun t=>ja l start args n (res.set i.toNat t.known) (i::st)
def rP(m:List UInt8)(k:Nat):List Gr->Nat->Int->Int
 |[],_,f=>f
 |g::l,i,f=>rP m k l (i+1) (if g.name=m/\g.params=k then (i:Int)else f)
def D5(z:List Ar)(W:Int):S9:=⟨z.map fun a=>List.replicate a.len.toNat 0,[],W,0,0,0⟩
def lV(s:S9)(v:Int):Oc:=if s.ed=2 then ⟨2,s.code,s.out.reverse,0⟩else if s.ed=0 then ⟨1,0,s.out.reverse,v⟩else ⟨s.ed,0,s.out.reverse,0⟩
def z4(n m:Nat)(g:Gr)(start:S9)(args:List Int):Option Oc:=
 (ja g.nodes start args n (List.replicate g.nodes.length zfo) [g.state]).bind fun res=>(zdC res g.state).bind fun r=>r.s.bind fun s=>
   if s.ed=0 then (ja g.nodes start args m res [g.value]).bind fun O=>(zdC O g.value).bind fun t=>some (lV s t.v)
   else some (lV s 0)
end Go.Proofs.YtljebeflbbgibaaGreat
namespace Go.Ab
set_option maxRecDepth 20000
open Go
structure Rc where
 op:Op
 did:Bool
 E:ao
 H:Hp
 val:AV
 H':Hp
section
variable (P:Program) (cfg:Cfg) (f:FuncId)
def dk:List SOp->List Rc->ao->Hp->(List Rc->ao->Hp->Prop)->Prop
 |[],tr,E,H,Q=>Q tr E H
 |o::l,tr,E,H,Q=>match o.g with
  |none=>fI P cfg f o.op E H fun v H'=>dk l (tr++[⟨o.op,true,E,H,v,H'⟩]) (zcF E o.d v) H' Q
  |some (s,b)=>(E.at s=.bool b/\fI P cfg f o.op E H fun v H'=>dk l (tr++[⟨o.op,true,E,H,v,H'⟩]) (zcF E o.d v) H' Q)\/((E.at s=.bool (!b)\/E.at s=zdx)/\dk l (tr++[⟨o.op,false,E,H,zdx,H⟩]) (zcF E o.d zdx) H Q)
def t9(g:List Rc)(H':Hp)(m:Nat):Hp:=match g[m]? with
 |some r=>r.H
 |none=>H'
def mJ(r:Rc)(H:Hp):Prop:=match zed r.op with
 | .read=>∃Z,zdA P cfg (fun _=>.fail) 0 r.E H r.op=.val r.val Z
 | .make=>∃b,H.get r.H.next=some b/\r.H'.get r.H.next=some b
 |_=>True
def wv(g:List Rc)(H':Hp)(i m:Nat):Prop:=match g[i]? with
 |some r=>r.did=true->mJ P cfg r (t9 g H' m)
 |none=>True
def nQ(V:List (Nat×Nat))(g:List Rc)(H':Hp):Prop:=(∀r∈g,r.H.next<=r.H'.next)/\∀p∈V,wv P cfg g H' p.1 p.2
end
section
variable {P:Program} {cfg:Cfg} {f N:Nat}
def pZ(r:Rec):Rc:=⟨r.o.op,r.did,r.E,r.H,r.val,r.H'⟩
theorem HB.beq_refl(b:HB):HB.beq b b=true:=by
 cases b with
 |cells a i t=>simp[HB.beq,zfh]
 |map U=>simp[HB.beq,zfh]
theorem dk.run{C:List Oper}{Q:List Rc->ao->Hp->Prop}:∀{l:List Oper}{r:List SOp}{Z:List Rc}{E:ao}{H:Hp},zcE N C l=some r->dk P cfg f r Z E H Q ->
 ∃n E' H' rs,gA P cfg (zdp P cfg n) f N C l E H=.done E' H' rs/\Q (Z++rs.map pZ) E' H'
 |[],r,Z,E,H,hs,K=>by
  simp only[zcE,az]at hs;subst hs;unfold dk at K;exact⟨0,E,H,[],rfl,by simpa using K⟩
 |o::l,r,Z,E,H,hs,K=>by
  simp only[zcE]at hs;split at hs
  .rename_i d g r' i h2 U;simp only[az]at hs;subst hs;obtain⟨zex,L⟩:=DF (E:=E) h2;have z:∀k k',k<=k'->zeu (zdp P cfg k) (zdp P cfg k'):=fun k k' j t ht=>zM j ht;have Y:fI P cfg f o.op E H (fun v H'=>dk P cfg f r' (Z++[⟨o.op,true,E,H,v,H'⟩]) (zcF E d v) H' Q)->zey C E o=true->∃n E' H' rs,gA P cfg (zdp P cfg n) f N C (o::l) E H=.done E' H' rs/\Q (Z++rs.map pZ) E' H':=fun J O=>by
    unfold fI at J;obtain⟨n,v,H1,F,g2⟩:=J;obtain⟨m,M,V,rs,W,I⟩:=dk.run U g2;refine⟨max n m,M,V,⟨o,true,E,H,v,H1⟩::rs,?_,by simpa [pZ]using I⟩;simp only[gA,O];rw[wb (z n (max n m) (v9 _ _)) (by rw[F];simp),F];simp only[wh i,ze5];rw[wd (z m (max n m) (wa _ _)) rD,W];rfl
   unfold dk at K;cases A:g with
   |none=>
    rw[A]at K;exact Y K (zex A)
   |some sb=>
    obtain⟨s,b⟩:=sb;rw[A]at K;simp only[]at K;rcases K with⟨e,K⟩|⟨e,K⟩
    .exact Y K ((L s b A).1 e)
    .obtain⟨m,M,V,rs,W,I⟩:=dk.run U K;refine⟨m,M,V,⟨o,false,E,H,zdx,H⟩::rs,?_,by simpa [pZ]using I⟩;simp only[gA,(L s b A).2 e,wh i,ze5,W,kT]
  .simp at hs
theorem No{V:List (Nat×Nat)}{rs:List Rec}{H':Hp}(h:nQ P cfg V (rs.map pZ) H'):pw P cfg V rs H'=true:=by
 unfold pw;simp only[dp,f9];refine⟨fun r Z=>Nat.ble_eq_true_of_le (h.1 _ (mB.2 ⟨r,Z,rfl⟩)),fun p hp=>?_⟩;have K:=h.2 p hp;have M:t9 (rs.map pZ) H' p.2=zc3 rs H' p.2:=by
  unfold t9 zc3;rw[dX];cases rs[p.2]? <;>rfl
 unfold wv at K;rw[dX,M]at K;cases hr:rs[p.1]? with
 |none=>rfl
 |some r=>
  rw[hr]at K;simp only[jp,pZ]at K;simp only[nJ,k9];cases hd:r.did with
  |false=>exact .inl rfl
  |true=>
   right
   have K:=K hd;unfold mJ at K;unfold zcH;cases j:zed r.o.op with
   |calm=>rfl
   |act=>rfl
   |read=>
    rw[j]at K;simp only[]at K⊢;obtain⟨Y,g⟩:=K;rw[g];exact AV.beq_refl _
   |make=>
    rw[j]at K;simp only[]at K⊢;obtain⟨b,i,g⟩:=K;rw[i,g];exact HB.beq_refl b
theorem D6{id:Nat}{ops j:List Oper}{l:List SOp}{V:List (Nat×Nat)}{E:ao}{H:Hp}{Q:AX->ao->Hp->Prop}
 (W:∀ih:Task->Res,zeF P cfg ih f N E H (cfg.plan f id) ops=ze0 P cfg ih f N j E H) (Y:mo j=true) (U:zcE N j j=some l) (m:kV j=V)
 (h:∀K:List Rc->ao->Hp->Prop,(∀g E' H',nQ P cfg V g H'->Q .normal E' H'->K g E' H')->dk P cfg f l [] E H K):zcY P cfg f N (.draw id ops) E H Q:=by
 unfold zcY;intro code hc;cases code with
 |region L Z draw=>
  cases draw with
  |false=>simp only[aA,zcG]at hc;split at hc<;>simp at hc
  |true=>
   simp only[aA,SC.draw.injEq]at hc;obtain⟨rfl,rfl⟩:=hc;obtain⟨n,E',H',rs,i,M,o⟩:=dk.run U (h (fun g E' H'=>nQ P cfg V g H'/\Q .normal E' H') fun _ _ _ h O=>⟨h,O⟩);refine⟨_,_,_,zdj.draw (n:=n) (r:=.done .normal E' H') ?_ aD,o⟩;rw[W];unfold ze0;rw[Y];simp only[i];rw[m,No (by simpa using M)]
 |_=>simp[aA]at hc
theorem Np{id:Nat}{ops:List Oper}{l:List SOp}{V:List (Nat×Nat)}{E:ao}{H:Hp}{Q:AX->ao->Hp->Prop}(W:cfg.plan f id=.text)(Z:mo ops=true)(Y:zcE N ops ops=some l)(m:kV ops=V)
 (h:∀K:List Rc->ao->Hp->Prop,(∀g E' H',nQ P cfg V g H'->Q .normal E' H'->K g E' H')->dk P cfg f l [] E H K):zcY P cfg f N (.draw id ops) E H Q:=
 D6 (fun ih=>by rw[W];rfl) Z Y m h
theorem Nq{id:Nat}{ops:List Oper}{U:List Nat}{l:List SOp}{V:List (Nat×Nat)}{E:ao}{H:Hp}{Q:AX->ao->Hp->Prop}(W:cfg.plan f id=.perm U)(z:tj U ops=true)(Z:mo (zel U ops)=true)(Y:zcE N (zel U ops) (zel U ops)=some l)(m:kV (zel U ops)=V)
 (h:∀K:List Rc->ao->Hp->Prop,(∀g E' H',nQ P cfg V g H'->Q .normal E' H'->K g E' H')->dk P cfg f l [] E H K):zcY P cfg f N (.draw id ops) E H Q:=
 D6 (fun ih=>by rw[W];simp only[zeF,z]) Z Y m h
theorem dk.nil{g:List Rc}{E:ao}{H:Hp}{Q:List Rc->ao->Hp->Prop}(h:Q g E H):dk P cfg f [] g E H Q:=h
theorem dk.step{d:Nat}{op:Op}{l:List SOp}{g:List Rc}{E:ao}{H:Hp}{Q:List Rc->ao->Hp->Prop}
 (h:aC P cfg f [⟨some d,op,none⟩] E H fun E' H'=>dk P cfg f l (g++[⟨op,true,E,H,E'.at d,H'⟩]) E' H' Q):dk P cfg f (⟨some d,op,none⟩::l) g E H Q:=by
 unfold aC at h;simp only[]at h;unfold dk;refine fI.mono (fun v H' K=>?_) h;unfold aC at K;have:(zcF E (some d) v).at d=v:=Dy;rw[this]at K;exact K
def bD:=@dk.step
theorem zeS{op:Op}{l:List SOp}{g:List Rc}{E:ao}{H:Hp}{Q:List Rc->ao->Hp->Prop}(j:zed op=.act)
 (h:aC P cfg f [⟨none,op,none⟩] E H fun E' H'=>∀v,dk P cfg f l (g++[⟨op,true,E,H,v,H'⟩]) E' H' Q):dk P cfg f (⟨none,op,none⟩::l) g E H Q:=by
 unfold aC at h;simp only[]at h;unfold dk;refine fI.mono (fun v H' K=>?_) h;unfold aC at K;exact K v
theorem dk.guard{d:Option Nat}{op:Op}{s:Nat}{b t:Bool}{l:List SOp}{g:List Rc}{E:ao}{H:Hp}{Q:List Rc->ao->Hp->Prop}(h:E.at s=.bool t)(h1:t=b->dk P cfg f (⟨d,op,none⟩::l) g E H Q)(h2:t=!b->dk P cfg f l (g++[⟨op,false,E,H,zdx,H⟩]) (zcF E d zdx) H Q):
 dk P cfg f (⟨d,op,some (s,b)⟩::l) g E H Q:=by
 unfold dk;simp only[];by_cases e:t=b
 .left
  refine⟨by rw[h,e],?_⟩;have:=h1 e;unfold dk at this;exact this
 .right
  have A:t=!b:=by cases t<;>cases b<;>simp_all
  exact⟨.inl (by rw[h,A]),h2 A⟩
theorem Nr{t:TypeId}{x:Operand}{E:ao}{zc2 V H:Hp}{v a:AV}(h:zcp E x=some a)(h1:zdZ P H t a=some v):mJ P cfg ⟨.load t x,true,E,zc2,v,V⟩ H:=
 ⟨H,by simp only[zdA,cq,tc,Go.Ab.ret,h,h1,zec]⟩
theorem Ns{t:TypeId}{x y:Operand}{ok:Bool}{E:ao}{zc2 V H:Hp}{v a b:AV}(h:zcp E x=some a)(h1:zcp E y=some b)(h2:zeD P H t a b ok=some v):mJ P cfg ⟨.lookup t x y ok,true,E,zc2,v,V⟩ H:=
 ⟨H,by simp only[zdA,cq,th,Go.Ab.ret,h,h1,h2,zec]⟩
theorem Nt{t:TypeId}{x:Operand}{E:ao}{zc2 V H:Hp}{v a:AV}(h:zcp E x=some a)(h1:zc0 P H t a=some v):mJ P cfg ⟨.call ⟨.builtin .len,#[x],#[t]⟩,true,E,zc2,v,V⟩ H:=
 ⟨H,by simp only[zdA,ou,zeq,h,mn,h1,zec]⟩
theorem Nu{s t:TypeId}{x:Operand}{E:ao}{zc2 V H:Hp}{v a:AV}(h:zcp E x=some a)(h1:zeI P H s t a=some v):mJ P cfg ⟨.convert s t x,true,E,zc2,v,V⟩ H:=
 ⟨H,by simp only[zdA,cq,td,Go.Ab.ret,h,h1,zec]⟩
theorem Nv{t:TypeId}{x:Operand}{lo C:Option Operand}{O L:Option AV}{E:ao}{zc2 V H:Hp}{v a:AV}(h:zcp E x=some a)(h1:zeJ E lo=some O)(h2:zeJ E C=some L)(o:kR P H t a O L=some v):mJ P cfg ⟨.slice t x lo C none,true,E,zc2,v,V⟩ H:=
 ⟨H,by simp only[zdA,cq,tg,Go.Ab.ret,h,h1,h2,o,zec]⟩
theorem Nw{op:Op}{E:ao}{zc2 V H:Hp}{v:AV}{b:HB}(j:zed op=.make)(h:H.get zc2.next=some b)(h2:V.get zc2.next=some b):mJ P cfg ⟨op,true,E,zc2,v,V⟩ H:=by
 unfold mJ;rw[j];exact⟨b,h,h2⟩
theorem Nx{g:List Rc}{H':Hp}{i m:Nat}{r:Rc}(h:g[i]?=some r)(K:r.did=true->mJ P cfg r (t9 g H' m)):wv P cfg g H' i m:=by
 unfold wv;rw[h];exact K
end
section
variable {P:Program} {cfg:Cfg} {f:FuncId} {l:List SOp} {E:ao} {H:Hp} {Q:ao -> Hp -> Prop} {d:Nat} {x y:Operand} {ts:Array TypeId} {k k':IntKind} {a b:Int}
theorem aC.min2(h:zcp E x=some (.int k a))(h1:zcp E y=some (.int k' b))(j:aC P cfg f l (T.set E d (some (.int k (min a b)))) H Q):aC P cfg f (⟨some d,.call ⟨.builtin .min,#[x,y],ts⟩,none⟩::l) E H Q:=
 wj (c:=⟨.builtin .min,#[x,y],ts⟩) rfl (vs:=[.int k a,.int k' b]) zI (v:=.int k (min a b)) (by
  simp only[mn,ot,mm,cr,ck,jq]
  congr 3;omega) j
theorem aC.max2(h:zcp E x=some (.int k a))(h1:zcp E y=some (.int k' b))(j:aC P cfg f l (T.set E d (some (.int k (max a b)))) H Q):aC P cfg f (⟨some d,.call ⟨.builtin .max,#[x,y],ts⟩,none⟩::l) E H Q:=
 wj (c:=⟨.builtin .max,#[x,y],ts⟩) rfl (vs:=[.int k a,.int k' b]) zI (v:=.int k (max a b)) (by
  simp only[mn,ot,mm,bT,jq]
  congr 3;omega) j
end
attribute [irreducible] dk
def zdU(v:AV):Prop:=∃k,∀m,k<=m->∀H,iceV H m v=some v
def zd7(l:List AV):Prop:=∀v∈l,zdU v
theorem zd7.nil:zd7 []:=fun _ h=>iR
theorem zd7.cons{v:AV}{l:List AV}(h:zdU v)(I:zd7 l):zd7 (v::l):=fun w J=>by
 rcases fk.1 J with rfl|J
 .exact h
 .exact I _ J
theorem zd7.bound:∀{l:List AV},zd7 l->∃k,∀m,k<=m->∀H,iceL (iceV H m) l=some l
 |[],_=>⟨0,fun _ _ _=>rfl⟩
 |v::l,h=>by
  obtain⟨zdc,i⟩:=h v eW;obtain⟨zc8,g⟩:=zd7.bound (l:=l) fun w J=>h w (e8 _ J)
  exact⟨max zdc zc8,fun m M H=>by simp only[iceL,i m ac H,g m ac H]⟩
theorem D7:∀{l:List (List AV)},(∀z∈l,zd7 z)->∃k,∀m,k<=m->∀H,oz (iceV H m) l=some l
 |[],_=>⟨0,fun _ _ _=>rfl⟩
 |v::l,h=>by
  obtain⟨zdc,i⟩:=(h v eW).bound;obtain⟨zc8,g⟩:=D7 (l:=l) fun w J=>h w (e8 _ J)
  exact⟨max zdc zc8,fun m M H=>by simp only[oz,i m ac H,g m ac H]⟩
theorem zdU.one{v:AV}(h:∀m H,iceV H (m+1) v=some v):zdU v:=⟨1,fun m M H=>by
 obtain⟨m,rfl⟩:∃k,m=k+1:=⟨m-1,ac⟩;exact h m H⟩
theorem zdU.int(k:IntKind)(n:Int):zdU (.int k n):=.one fun _ _=>rfl
theorem zdU.bool(b:Bool):zdU (.bool b):=.one fun _ _=>rfl
theorem zdU.str(s:List UInt8):zdU (.str s):=.one fun _ _=>rfl
theorem zdU.nilS:zdU .nilS:=.one fun _ _=>rfl
theorem zdU.lst{l:List (List AV)}(h:∀z∈l,zd7 z):zdU (.lst l):=by
 obtain⟨k,j⟩:=D7 h;refine⟨k+1,fun m M H=>?_⟩;obtain⟨m,rfl⟩:∃k,m=k+1:=⟨m-1,ac⟩;simp only[iceV,j m ac H]
theorem zdU.agg{l:List AV}(h:zd7 l):zdU (.agg l):=by
 obtain⟨k,j⟩:=h.bound;refine⟨k+1,fun m M H=>?_⟩;obtain⟨m,rfl⟩:∃k,m=k+1:=⟨m-1,ac⟩;simp only[iceV,j m ac H]
theorem zdU.tup{l:List AV}(h:zd7 l):zdU (.tup l):=by
 obtain⟨k,j⟩:=h.bound;refine⟨k+1,fun m M H=>?_⟩;obtain⟨m,rfl⟩:∃k,m=k+1:=⟨m-1,ac⟩;simp only[iceV,j m ac H]
theorem zdU.map{M:Type}{l:List M}{f:M->List AV}(h:∀x∈l,zd7 (f x)):zdU (.lst (l.map f)):=.lst fun z hr=>by
 obtain⟨x,F,rfl⟩:=mB.1 hr;exact h x F
theorem D8{args:List AV}(h:zd7 args):∃k,nB k args=true:=by
 obtain⟨k,j⟩:=h.bound;exact⟨k,by unfold nB;rw[j k (aM _) zc2];exact zfh args⟩
theorem Ny{P:Program}{cfg:Cfg}(fit:Fit P){ρ:Nat->Int}(L:kj cfg.dec ρ)(O:∀f args r,cfg.call f args=some r->a9 P ρ f args r){g:FuncId}{args:List AV}{r:AV}
 (V:zd7 args) (hr:zdU r) (h:zcx P cfg g args zc2 fun v _=>v=r):a9 P ρ g args r:=by
 obtain⟨k,j⟩:=D8 V;obtain⟨m,M⟩:=hr;exact DK (m:=m) fit L O j (a7 (fun v H' e=>by rw[e];exact M m (aM _) H') h)
theorem zfi{P:Program}{cfg:Cfg}(fit:Fit P){ρ:Nat->Int}(L:kj cfg.dec ρ)(O:∀f args r,cfg.call f args=some r->a9 P ρ f args r){g:FuncId}{args:List AV}{r:AV}{m:Nat}
 (V:zd7 args) (h:zcx P cfg g args zc2 fun v H'=>iceV H' m v=some r):a9 P ρ g args r:=by
 obtain⟨k,j⟩:=D8 V;exact DK (m:=m) fit L O j h
structure En where
 f:FuncId
 ice:Bool
 sp:List AV->Option AV
def zdn:List En->FuncId->List AV->Option AV
 |[],_,_=>none
 |e::l,f,args=>match Nat.beq e.f f with
  |true=>e.sp args
  |false=>zdn l f args
def iz:List En->FuncId->Bool
 |[],_=>false
 |e::l,f=>match Nat.beq e.f f with
  |true=>e.ice
  |false=>iz l f
noncomputable def zcq(pls:List (Nat×Nat×Plan))(l:List En):Cfg:={keep:=fun _=>false,call:=zdn l,ice:=iz l,plan:=tU pls}
def zdd(P:Program)(ρ:Nat->Int)(e:En):Prop:=∀args r,e.sp args=some r->a9 P ρ e.f args r
def eX(P:Program)(ρ:Nat->Int):List En->Prop
 |[]=>True
 |e::l=>zdd P ρ e/\eX P ρ l
theorem eX.look{P:Program}{ρ:Nat->Int}:∀{l:List En},eX P ρ l->∀f args r,zdn l f args=some r->a9 P ρ f args r
 |[],_,_,_,_,h=>by simp[zdn]at h
 |e::l,hl,f,args,r,h=>by
  simp only[zdn]at h;split at h
  .rename_i i;rw[<-gD i];exact hl.1 args r h
  .exact eX.look hl.2 f args r h
noncomputable def bX{M:Type}(ok:M->Prop)(enc:M->List AV)(out:M->AV)(args:List AV):Option AV:=open Classical in
 if h:∃x,ok x/\enc x=args then some (out (Classical.choose h))else none
theorem z5{M:Type}{ok:M->Prop}{enc:M->List AV}{out:M->AV}(I:∀x y,enc x=enc y->x=y){x:M}(F:ok x):bX ok enc out (enc x)=some (out x):=by
 unfold bX;have h:∃y,ok y/\enc y=enc x:=⟨x,F,rfl⟩;rw[dif_pos h];rw[I _ _ (zJ h).2]
theorem D9{M:Type}{ok:M->Prop}{enc:M->List AV}{out:M->AV}{args:List AV}(h:∀x,ok x->enc x≠args):bX ok enc out args=none:=by
 unfold bX;rw[dif_neg];rintro⟨x,F,e⟩;exact h x F e
theorem zdk{P:Program}{ρ:Nat->Int}{M:Type}{ok:M->Prop}{f:FuncId}{ice:Bool}{enc:M->List AV}{out:M->AV}(h:∀x,ok x->a9 P ρ f (enc x) (out x)):zdd P ρ ⟨f,ice,bX ok enc out⟩:=fun args r hr=>by
 change bX ok enc out args=some r at hr;unfold bX at hr;split at hr
 .rename_i F;simp only[az]at hr;subst hr;have:=h (Classical.choose F) (zJ F).1;rw[(zJ F).2]at this;exact this
 .simp at hr
attribute [irreducible] bX
theorem z6{P:Program}{cfg:Cfg}{g:FuncId}{args:List AV}{r:AV}{H:Hp}(h:cfg.call g args=some r):zcx P cfg g args H fun v H'=>v=r/\H'=H:=zcx.known h ⟨rfl,rfl⟩
theorem zds{P:Program}{pls:List (Nat×Nat×Plan)}{l:List En}{M:Type}{ok:M->Prop}{enc:M->List AV}{out:M->AV}(I:∀x y,enc x=enc y->x=y){g:FuncId}{x:M}(Z:zdn l g (enc x)=bX ok enc out (enc x))(F:ok x){H:Hp}:
 zcx P (zcq pls l) g (enc x) H fun v H'=>v=out x/\H'=H:=z6 Dz
theorem Nz{P:Program}{pls:List (Nat×Nat×Plan)}{l:List En}{M:Type}{ok:M->Prop}{enc:M->List AV}{out:M->AV}(I:∀x y,enc x=enc y->x=y){g:FuncId}{x:M}(Z:∀W,zdn l g W=bX ok enc out W)(C:iz l g=true)(F:ok x){args:List AV}{H H':Hp}
 (m:∀y,ok y->enc y≠args) (Y:ii (fw 100) args H=some (enc x,H')) :
 zcx P (zcq pls l) g args H fun v V=>v=out x/\V=H':=DJ (by show zdn l g args=none;rw[Z];exact D9 m) C rfl Y Dz ⟨rfl,rfl⟩
theorem zdv{P:Program}{ρ:Nat->Int}(fit:Fit P){pls:List (Nat×Nat×Plan)}{l:List En}(I:eX P ρ l){f:FuncId}{args:List AV}{r:AV}(V:zd7 args)(hr:zdU r)(h:zcx P (zcq pls l) f args zc2 fun v _=>v=r):a9 P ρ f args r:=
 Ny fit (lc ρ) (fun g W r A=>eX.look I g W r A) V hr h
end Go.Ab
