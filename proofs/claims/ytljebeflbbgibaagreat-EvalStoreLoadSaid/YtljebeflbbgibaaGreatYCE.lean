/- Parts: AbFuel, AbEnv, AbWp, Tree, Spec4, Spec6, Sem6, Rep6, AbWd, Rep6c, EvS, AbWt, AbPure. -/
import Derived.IntWalk
import Derived.Test.YtljebeflbbgibaaGreatYCD
set_option linter.unusedSimpArgs false
set_option linter.unusedVariables false
set_option linter.unusedSectionVars false
set_option linter.defProp false
set_option maxHeartbeats 32000000
namespace Go.Ab
set_option maxRecDepth 20000
open Go
theorem uv{P:Prop}(h:P:=by rw[hr];simp):P:=h
theorem Aq{P:Prop}(h:P:=by simp only[zeM,h,h1]):P:=h
theorem lT{P:Prop}(h:P:=by simp[zdU,nE,zeZ]):P:=h
theorem wM{P:Prop}(h:P:=by unfold zdu;rw[h]):P:=h
theorem qk{P:Prop}(h:P:=by rw[Ex.cells_eq];rfl):P:=h
theorem ib{P:Prop}(h:P:=by rw[St.cells_eq];rfl):P:=h
theorem lU{P:Prop}(h:P:=by rw[Fu.cells_eq];rfl):P:=h
theorem wN{P:Prop}(h:P:=by rw[Ar.cells_eq];rfl):P:=h
theorem wO{P:Prop}(h:P:=by rw[Pr.cells_eq];rfl):P:=h
theorem uw{P:Prop}(h:P:=by rw[Tk.cells_eq];rfl):P:=h
theorem ux{P:Prop}(h:P:=by rw[Nd.cells_eq];rfl):P:=h
theorem ql{P:Prop}(h:P:=by rw[Gr.cells_eq];rfl):P:=h
theorem wP{P:Prop}(h:P:=by rw[Un.cells_eq];rfl):P:=h
theorem Eb{P:Prop}(h:P:=by simp only[zc5,gN,beq_self_eq_true,cond_true]):P:=h
theorem Ec{P:Prop}(h:P:=by show zdS l g (enc x)=_;rw[I];exact AK J F):P:=h
def wQ:=@Nat.le_max_left
def wR:=@Nat.le_max_right
def oM:=@cond_false
def eI:=@Int.eq_ofNat_of_zero_le
def eJ:=@List.drop_eq_getElem_cons
def dX:=@Bool.false_and
def jW:=@Bool.and_true
def mH:=@and_self
def As:=@Classical.choose_spec
end Go.Ab
namespace Go.Ab
set_option maxRecDepth 20000
open Go
def zeQ(ih ih':Task->Res):Prop:=∀t,ih t≠.fail->ih' t=ih t
section
variable {P:Program} {cfg:Cfg} {ih ih':Task -> Res}
theorem wS(h:zeQ ih ih'){f:FuncId}{E:aw}{H:Hp}{op:Op}(o:zd4 P cfg ih f E H op≠.fail):zd4 P cfg ih' f E H op=zd4 P cfg ih f E H op:=by
 unfold zd4 at *;split
 .rename_i c;unfold oD at *;split
  .rename_i g A;simp only[A]at o;split
   .rename_i k U vs i Z;simp only[i,Z]at o;exact h _ o
   .rfl
  .rfl
  .rfl
 .rfl
theorem uy{f N:Nat}{C:List Oper}{o:Oper}{l:List Oper}{E:aw}{H:Hp}:ze1 P cfg ih f N C (o::l) E H=match jg C E o with
 |true=>match zd4 P cfg ih f E H o.op with
  | .val v H=>ze5 (ze1 P cfg ih f N C l) H (d9 N E o.dst v)
  |_=>.fail
 |false=>ze5 (ze1 P cfg ih f N C l) H (d9 N E o.dst zd1):=rfl
theorem wT(h:zeQ ih ih'){f N:Nat}{C:List Oper}:∀{l:List Oper}{E:aw}{H:Hp},ze1 P cfg ih f N C l E H≠.fail->ze1 P cfg ih' f N C l E H=ze1 P cfg ih f N C l E H
 |[],_,_,_=>rfl
 |o::l,E,H,hn=>by
  rw[uy]at hn⊢;rw[uy];cases Z:jg C E o with
  |true=>
   simp only[Z]at hn⊢;cases J:zd4 P cfg ih f E H o.op with
   |fail=>simp[J]at hn
   |done x E1 H1=>simp[J]at hn
   |val v H1=>
    rw[wS h (by rw[J];simp),J];simp only[J]at hn⊢;cases hp:d9 N E o.dst v with
    |none=>rfl
    |some E1=>
     rw[hp]at hn;exact wT h hn
  |false=>
   simp only[Z]at hn⊢;cases hp:d9 N E o.dst zd1 with
   |none=>rfl
   |some E1=>
    rw[hp]at hn;exact wT h hn
theorem wU(h:zeQ ih ih'){f N:Nat}{C:List Oper}:∀{l:List Oper}{E:aw}{H:Hp},gH P cfg ih f N C l E H≠.fail->gH P cfg ih' f N C l E H=gH P cfg ih f N C l E H
 |[],_,_,_=>rfl
 |o::l,E,H,hn=>by
  have Z:∀{r:Rec}{x:ResD},k0 r x≠.fail->x≠.fail:=fun{r x} F e=>F (by rw[e];rfl);simp only[gH]at hn⊢;cases Y:jg C E o with
  |true=>
   simp only[Y]at hn⊢;cases J:zd4 P cfg ih f E H o.op with
   |fail=>simp[J]at hn
   |done x E1 H1=>simp[J]at hn
   |val v H1=>
    rw[wS h (by rw[J];simp),J];simp only[J]at hn⊢;cases hp:d9 N E o.dst v with
    |none=>rfl
    |some E1=>
     rw[hp]at hn;have:=wU h (Z hn);simp only[zfo,this]
  |false=>
   simp only[Y]at hn⊢;cases hp:d9 N E o.dst zd1 with
   |none=>rfl
   |some E1=>
    rw[hp]at hn;have:=wU h (Z hn);simp only[zfo,this]
theorem Ee(h:zeQ ih ih'){f N:Nat}{ops:List Oper}{E:aw}{H:Hp}(o:zfj P cfg ih f N ops E H≠.fail):zfj P cfg ih' f N ops E H=zfj P cfg ih f N ops E H:=by
 unfold zfj at *;split
 .rename_i hc;simp only[hc]at o;cases hr:gH P cfg ih f N ops ops E H with
  |fail=>simp[hr]at o
  |done E1 H1 rs=>rw[wU h uv,hr]
 .rfl
theorem ME{ops:List Oper}{zc0 r2 g i:Res}(h1:zc0≠.fail->g=zc0)(h2:r2≠.fail->i=r2)(o:pX ops zc0 r2≠.fail):pX ops g i=pX ops zc0 r2:=by
 have W:zc0≠.fail:=fun e=>o (by rw[e];rfl);have Y:r2≠.fail:=fun e=>o (by rw[e];unfold pX;split<;>simp_all);rw[h1 W,h2 Y]
theorem At(h:zeQ ih ih'){f N:Nat}{E:aw}{H:Hp}:∀{m:Plan}{ops:List Oper},ze0 P cfg ih f N E H m ops≠.fail->ze0 P cfg ih' f N E H m ops=ze0 P cfg ih f N E H m ops
 | .text,ops,hn=>Ee h hn
 | .perm ord,ops,hn=>by
   simp only[ze0]at *;split
   .rename_i hp;simp only[hp]at hn;exact Ee h hn
   .rfl
 | .split p q a b,ops,hn=>by
   simp only[ze0]at *;split
   .rfl
   .rename_i hp;simp only[hp]at hn;exact ME (fun i=>At h i) (fun g=>At h g) hn
theorem Au(h:zeQ ih ih'){f:FuncId}{args:List AV}{H:Hp}(o:zfp P ih f args H≠.fail):zfp P ih' f args H=zfp P ih f args H:=by
 unfold zfp at *;split
 .rename_i m j;simp only[j]at o;split
  .rename_i c z;simp only[z]at o;cases hr:ih (.code f (max m.ntmps args.length) c (zcX 0 args (pY (max m.ntmps args.length))) H)with
   |fail=>simp[hr]at o
   |val v H1=>rw[h _ uv,hr]
   |done x E1 H1=>rw[h _ uv,hr]
  .rfl
 .rfl
theorem MF(h:zeQ ih ih'){f:FuncId}{args:List AV}{H:Hp}(o:k5 P cfg ih f args H≠.fail):k5 P cfg ih' f args H=k5 P cfg ih f args H:=by
 unfold k5 at *;split
 .rename_i C;simp only[C]at o;unfold tU at *;split
  .rename_i g H' K;simp only[K]at o;split
   .rfl
   .rename_i i;simp only[i]at o;exact Au h o
  .rename_i K;simp only[K]at o;exact Au h o
 .rename_i C;simp only[C]at o;exact Au h o
theorem Eg(h:zeQ ih ih'){f N:Nat}{b:Code}{r m:Res}(hr:r≠.fail->m=r)(o:k4 ih f N b r≠.fail):k4 ih' f N b m=k4 ih f N b r:=by
 cases r with
 |fail=>simp[k4]at o
 |val v H1=>rw[hr aE];rfl
 |done x E1 H1=>
  rw[hr aE];cases x with
  |normal=>exact h _ o
  |exit id=>rfl
  |ret=>rfl
theorem MG(h:zeQ ih ih'){t:Task}(o:step P cfg ih t≠.fail):step P cfg ih' t=step P cfg ih t:=by
 cases t with
 |call f args H=>
  simp only[step]at *;split
  .rfl
  .rename_i hc;simp only[hc]at o;have A:k5 P cfg ih f args H≠.fail:=fun e=>o (by rw[e];unfold rS;split<;>simp_all);rw[MF h A]
 |code f N c E H=>
  cases c with
  |region id ops draw=>cases draw with
   |false=>exact wT h o
   |true=>exact At h o
  |seq a b=>exact Eg h (h _) o
  |loop a=>exact Eg h (h _) o
  |cond x a b=>
   simp only[step]at *;unfold pZ at *;split
   .rename_i hc;simp only[hc]at o;exact h _ o
   .rename_i hc;simp only[hc]at o;exact h _ o
   .rfl
  |block id a=>
   simp only[step]at *;cases hr:ih (.code f N a E H)with
   |fail=>simp[hr,zfm]at o
   |val v H1=>rw[h _ uv,hr]
   |done x E1 H1=>rw[h _ uv,hr]
  |_=>rfl
theorem Eh:∀n,zeQ (ev P cfg n) (ev P cfg (n+1))
 |0=>fun _ o=>(o rfl).elim
 |n+1=>fun _ o=>MG (Eh n) o
theorem Av{n m:Nat}(M:n<=m){t:Task}(o:ev P cfg n t≠.fail):ev P cfg m t=ev P cfg n t:=by
 induction m with
 |zero=>rw[show n=0 by omega]
 |succ m ih=>
  by_cases h:n=m+1
  .rw[h]
  .have:=ih ac;rw[Eh m t (by rw[this];exact o),this]
theorem wV{n m:Nat}(M:n<=m){t:Task}{r:Res}(h:ev P cfg n t=r)(hr:r≠.fail):ev P cfg m t=r:=by
 rw[Av M (by rw[h];exact hr),h]
def zdL(P:Program)(cfg:Cfg)(t:Task)(r:Res):Prop:=r≠.fail/\∃n,ev P cfg n t=r
theorem zdL.step{t:Task}{r:Res}(hr:r≠.fail){n:Nat}(h:Ab.step P cfg (ev P cfg n) t=r):zdL P cfg t r:=⟨hr,n+1,h⟩
def iz:=@zdL.step
section
variable {f N id:Nat} {a b:Code} {x:Operand} {E E1:aw} {H H1:Hp} {r:Res} {ex:AX}
theorem zdL.seq(h1:zdL P cfg (.code f N a E H) (.done .normal E1 H1))(h2:zdL P cfg (.code f N b E1 H1) r):zdL P cfg (.code f N (.seq a b) E H) r:=by
 obtain⟨_,n,h1⟩:=h1;obtain⟨hr,m,h2⟩:=h2;refine iz hr (n:=max n m) ?_;show k4 (ev P cfg (max n m)) f N b (ev P cfg (max n m) (.code f N a E H))=r;rw[wV (wQ n m) h1 aE];exact wV (wR n m) h2 hr
theorem Ei(h1:zdL P cfg (.code f N a E H) (.done ex E1 H1))(F:ex≠.normal):zdL P cfg (.code f N (.seq a b) E H) (.done ex E1 H1):=by
 obtain⟨hr,n,h1⟩:=h1;refine iz hr (n:=n) ?_;show k4 (ev P cfg n) f N b (ev P cfg n (.code f N a E H))=_;rw[h1];cases ex with
 |normal=>exact(F rfl).elim
 |exit id=>rfl
 |ret=>rfl
theorem zdL.loop(h1:zdL P cfg (.code f N a E H) (.done .normal E1 H1))(h2:zdL P cfg (.code f N (.loop a) E1 H1) r):zdL P cfg (.code f N (.loop a) E H) r:=by
 obtain⟨_,n,h1⟩:=h1;obtain⟨hr,m,h2⟩:=h2;refine iz hr (n:=max n m) ?_;show k4 (ev P cfg (max n m)) f N (.loop a) (ev P cfg (max n m) (.code f N a E H))=r;rw[wV (wQ n m) h1 aE];exact wV (wR n m) h2 hr
theorem Ej(h1:zdL P cfg (.code f N a E H) (.done ex E1 H1))(F:ex≠.normal):zdL P cfg (.code f N (.loop a) E H) (.done ex E1 H1):=by
 obtain⟨hr,n,h1⟩:=h1;refine iz hr (n:=n) ?_;show k4 (ev P cfg n) f N (.loop a) (ev P cfg n (.code f N a E H))=_;rw[h1];cases ex with
 |normal=>exact(F rfl).elim
 |exit id=>rfl
 |ret=>rfl
theorem MH(F:zcV E x=some (.bool true))(h:zdL P cfg (.code f N a E H) r):zdL P cfg (.code f N (.cond x a b) E H) r:=by
 obtain⟨hr,n,h⟩:=h;refine iz hr (n:=n) ?_;show pZ (ev P cfg n) f N x a b E H=r;unfold pZ;rw[F];exact h
theorem MI(F:zcV E x=some (.bool false))(h:zdL P cfg (.code f N b E H) r):zdL P cfg (.code f N (.cond x a b) E H) r:=by
 obtain⟨hr,n,h⟩:=h;refine iz hr (n:=n) ?_;show pZ (ev P cfg n) f N x a b E H=r;unfold pZ;rw[F];exact h
theorem zdL.block(h:zdL P cfg (.code f N a E H) (.done (.exit id) E1 H1)):zdL P cfg (.code f N (.block id a) E H) (.done .normal E1 H1):=by
 obtain⟨hr,n,h⟩:=h;refine iz aE (n:=n) ?_;show zfm id (ev P cfg n (.code f N a E H))=_;rw[h];simp[zfm]
theorem MJ(h:zdL P cfg (.code f N a E H) (.done .normal E1 H1)):zdL P cfg (.code f N (.block id a) E H) (.done .normal E1 H1):=by
 obtain⟨hr,n,h⟩:=h;refine iz aE (n:=n) ?_;show zfm id (ev P cfg n (.code f N a E H))=_;rw[h];rfl
theorem MK(h:zdL P cfg (.code f N a E H) (.done .ret E1 H1)):zdL P cfg (.code f N (.block id a) E H) (.done .ret E1 H1):=by
 obtain⟨hr,n,h⟩:=h;refine iz aE (n:=n) ?_;show zfm id (ev P cfg n (.code f N a E H))=_;rw[h];rfl
theorem ML{Z:Nat}(K:Nat.beq Z id=false)(h:zdL P cfg (.code f N a E H) (.done (.exit Z) E1 H1)):zdL P cfg (.code f N (.block id a) E H) (.done (.exit Z) E1 H1):=by
 obtain⟨hr,n,h⟩:=h;refine iz aE (n:=n) ?_;show zfm id (ev P cfg n (.code f N a E H))=_;rw[h];simp only[zfm,K]
theorem zdL.skip:zdL P cfg (.code f N .skip E H) (.done .normal E H):=iz aE (n:=0) rfl
theorem zdL.exit:zdL P cfg (.code f N (.exit id) E H) (.done (.exit id) E H):=iz aE (n:=0) rfl
theorem zdL.ret:zdL P cfg (.code f N .ret E H) (.done .ret E H):=iz aE (n:=0) rfl
theorem zdL.region{ops:Array Oper}{n:Nat}(h:ze1 P cfg (ev P cfg n) f N ops.toList ops.toList E H=r)(hr:r≠.fail):zdL P cfg (.code f N (.region id ops false) E H) r:=iz hr (n:=n) h
theorem zdL.draw{ops:Array Oper}{n:Nat}(h:ze0 P cfg (ev P cfg n) f N E H (cfg.plan f id) ops.toList=r)(hr:r≠.fail):zdL P cfg (.code f N (.region id ops true) E H) r:=iz hr (n:=n) h
theorem zdL.call{args:List AV}{fn:Func}{c:Code}{v:AV}(j:cfg.call f args=none)(C:cfg.ice f=false)(m:cfg.froz f=false)(Y:P.funcs[f]?=some fn)(z:fn.body=some c)
 (h:zdL P cfg (.code f (max fn.ntmps args.length) c (zcX 0 args (pY (max fn.ntmps args.length))) H) (.done ex E1 H1)) (F:ex=.normal\/ex=.ret) (Z:rR P fn.results.toList E1 H1=.val v H1):zdL P cfg (.call f args H) (.val v H1):=by
 obtain⟨_,n,h⟩:=h;refine iz aE (n:=n) ?_;simp only[Ab.step,j,C,m,k5,rS];unfold zfp;simp only[Y,z,h];rcases F with rfl|rfl<;>exact Z
end
end
noncomputable section
open Go
def ov(L:List (Nat×AV))(d:Nat->AV):Nat->AV:=
 List.rec (motive:=fun _=>Nat->AV) d (fun p _ o k=>il (Nat.beq p.1 k) p.2 (o k)) L
end
structure SOp where
 d:Option Nat
 op:Op
 g:Option (Nat×Bool)
inductive SC where
 |skip|ret|bad
 |ops (l:List SOp)
 |draw (id:Nat) (l:List Oper)
 |seq (a b:SC)
 |cond (x:Operand) (a b:SC)
 |block (id:Nat) (a:SC)
 |loop (a:SC)
 |exit (id:Nat)
def zdc(N:Nat):Option Tmp->Option (Option Nat)
 |none=>some none
 |some d=>match Nat.blt d N with
  |true=>some (some d)
  |false=>none
def zdd(C:List Oper):Option (Nat×Bool)->Option (Option (Nat×Bool))
 |none=>some none
 |some (j,b)=>match (C[j]?).bind (·.dst)with
  |some d=>some (some (d,b))
  |none=>none
def zc9(N:Nat)(C:List Oper):List Oper->Option (List SOp)
 |[]=>some []
 |o::l=>match zdc N o.dst,zdd C o.guard,zc9 N C l with
  |some d,some g,some r=>some (⟨d,o.op,g⟩::r)
  |_,_,_=>none
def zda(l:Option (List SOp)):SC:=match l with
 |some l=>.ops l
 |none=>.bad
def aB(N:Nat):Code->SC
 | .skip=>.skip
 | .region id ops draw=>match draw with
   |false=>zda (zc9 N ops.toList ops.toList)
   |true=>.draw id ops.toList
 | .seq a b=>.seq (aB N a) (aB N b)
 | .cond x a b=>.cond x (aB N a) (aB N b)
 | .block id a=>.block id (aB N a)
 | .loop a=>.loop (aB N a)
 | .exit id=>.exit id
 | .ret=>.ret
 |_=>.bad
section
variable (P:Program) (cfg:Cfg) (f N:Nat)
def zc2(g:FuncId)(args:List AV)(H:Hp)(Q:AV->Hp->Prop):Prop:=∃v H',zdL P cfg (.call g args H) (.val v H')/\Q v H'
def fN(op:Op)(E:aw)(H:Hp)(K:AV->Hp->Prop):Prop:=∃n v H',zd4 P cfg (ev P cfg n) f E H op=.val v H'/\K v H'
noncomputable def zc5(E:aw):Option Nat->AV->aw
 |some d,v=>T.set E d (some v)
 |none,_=>E
def aC:List SOp->aw->Hp->(aw->Hp->Prop)->Prop
 |[],E,H,Q=>Q E H
 |o::l,E,H,Q=>match o.g with
  |none=>fN P cfg f o.op E H fun v H'=>aC l (zc5 E o.d v) H' Q
  |some (s,b)=>(E.at s=.bool b/\fN P cfg f o.op E H fun v H'=>aC l (zc5 E o.d v) H' Q)\/((E.at s=.bool (!b)\/E.at s=zd1)/\aC l (zc5 E o.d zd1) H Q)
def zdr(c:SC)(E:aw)(H:Hp)(Q:AX->aw->Hp->Prop):Prop:=∀code,aB N code=c->∃x E' H',zdL P cfg (.code f N code E H) (.done x E' H')/\Q x E' H'
end
section
variable {P:Program} {cfg:Cfg} {f N:Nat}
theorem fN.mono{op:Op}{E:aw}{H:Hp}{K j:AV->Hp->Prop}(h:∀v H',K v H'->j v H')(Z:fN P cfg f op E H K):fN P cfg f op E H j:=by
 obtain⟨n,v,H',i,g⟩:=Z;exact⟨n,v,H',i,h v H' g⟩
theorem zdr.mono{c:SC}{E:aw}{H:Hp}{Q F:AX->aw->Hp->Prop}(h:∀x E H,Q x E H->F x E H)(J:zdr P cfg f N c E H Q):zdr P cfg f N c E H F:=fun code hc=>by
 obtain⟨x,E',H',i,g⟩:=J code hc;exact⟨x,E',H',i,h _ _ _ g⟩
theorem zdr.skip{E:aw}{H:Hp}{Q:AX->aw->Hp->Prop}(h:Q .normal E H):zdr P cfg f N .skip E H Q:=fun code hc=>by
 cases code with
 |skip=>exact⟨_,_,_,zdL.skip,h⟩
 |region id ops draw=>cases draw<;>simp only[aB,zda,reduceCtorEq]at hc;split at hc<;>simp at hc
 |_=>simp[aB]at hc
theorem zdr.ret{E:aw}{H:Hp}{Q:AX->aw->Hp->Prop}(h:Q .ret E H):zdr P cfg f N .ret E H Q:=fun code hc=>by
 cases code with
 |ret=>exact⟨_,_,_,zdL.ret,h⟩
 |region id ops draw=>cases draw<;>simp only[aB,zda,reduceCtorEq]at hc;split at hc<;>simp at hc
 |_=>simp[aB]at hc
theorem zdr.exit{id:Nat}{E:aw}{H:Hp}{Q:AX->aw->Hp->Prop}(h:Q (.exit id) E H):zdr P cfg f N (.exit id) E H Q:=fun code hc=>by
 cases code with
 |exit Z=>simp only[aB,SC.exit.injEq]at hc;subst hc;exact⟨_,_,_,zdL.exit,h⟩
 |region id ops draw=>cases draw<;>simp only[aB,zda,reduceCtorEq]at hc;split at hc<;>simp at hc
 |_=>simp[aB]at hc
def kG(Q:AX->aw->Hp->Prop)(K:aw->Hp->Prop):AX->aw->Hp->Prop
 | .normal,E,H=>K E H
 | .exit id,E,H=>Q (.exit id) E H
 | .ret,E,H=>Q .ret E H
theorem zdr.seq{a b:SC}{E:aw}{H:Hp}{Q:AX->aw->Hp->Prop}(h:zdr P cfg f N a E H (kG Q fun E H=>zdr P cfg f N b E H Q)):zdr P cfg f N (.seq a b) E H Q:=fun code hc=>by
 cases code with
 |seq p q=>
  simp only[aB,SC.seq.injEq]at hc;obtain⟨x,E1,H1,i,g⟩:=h p hc.1;cases x with
  |normal=>
   obtain⟨x,M,Z,m,U⟩:=g q hc.2;exact⟨x,M,Z,zdL.seq i m,U⟩
  |exit id=>exact⟨_,_,_,Ei i aE,g⟩
  |ret=>exact⟨_,_,_,Ei i aE,g⟩
 |region id ops draw=>cases draw<;>simp only[aB,zda,reduceCtorEq]at hc;split at hc<;>simp at hc
 |_=>simp[aB]at hc
def ak:=@zdr.seq
theorem zdr.cond{x:Operand}{a b:SC}{E:aw}{H:Hp}{Q:AX->aw->Hp->Prop}{t:Bool}(F:zcV E x=some (.bool t))(h1:t=true->zdr P cfg f N a E H Q)(h2:t=false->zdr P cfg f N b E H Q):
 zdr P cfg f N (.cond x a b) E H Q:=fun code hc=>by
 cases code with
 |cond y p q=>
  simp only[aB,SC.cond.injEq]at hc;obtain⟨rfl,m,U⟩:=hc;cases t with
  |true=>
   obtain⟨x,E1,H1,W,Y⟩:=h1 rfl p m;exact⟨x,E1,H1,MH F W,Y⟩
  |false=>
   obtain⟨x,E1,H1,W,Y⟩:=h2 rfl q U;exact⟨x,E1,H1,MI F W,Y⟩
 |region id ops draw=>cases draw<;>simp only[aB,zda,reduceCtorEq]at hc;split at hc<;>simp at hc
 |_=>simp[aB]at hc
def qm(id:Nat)(Q:AX->aw->Hp->Prop):AX->aw->Hp->Prop
 | .normal,E,H=>Q .normal E H
 | .exit Z,E,H=>if Z=id then Q .normal E H else Q (.exit Z) E H
 | .ret,E,H=>Q .ret E H
theorem zdr.block{id:Nat}{a:SC}{E:aw}{H:Hp}{Q:AX->aw->Hp->Prop}(h:zdr P cfg f N a E H (qm id Q)):zdr P cfg f N (.block id a) E H Q:=fun code hc=>by
 cases code with
 |block Z p=>
  simp only[aB,SC.block.injEq]at hc;obtain⟨rfl,m⟩:=hc;obtain⟨x,E1,H1,W,Y⟩:=h p m;cases x with
  |normal=>exact⟨_,_,_,MJ W,Y⟩
  |ret=>exact⟨_,_,_,MK W,Y⟩
  |exit k=>
   simp only[qm]at Y;split at Y
   .rename_i e;subst e;exact⟨_,_,_,zdL.block W,Y⟩
   .rename_i e;exact⟨_,_,_,ML (by cases z:Nat.beq k Z with|true=>exact(e (gK z)).elim|false=>rfl) W,Y⟩
 |region id ops draw=>cases draw<;>simp only[aB,zda,reduceCtorEq]at hc;split at hc<;>simp at hc
 |_=>simp[aB]at hc
def ax:=@zdr.block
theorem zdr.loop{a:SC}{Q:AX->aw->Hp->Prop}(I:Nat->aw->Hp->Prop)(h:∀n E H,I n E H->zdr P cfg f N a E H (kG Q fun E H=>∃m,m<n/\I m E H)){n:Nat}{E:aw}{H:Hp}(o:I n E H):zdr P cfg f N (.loop a) E H Q:=by
 induction n using Nat.strongRecOn generalizing E H with
 |_ n ih=>
  intro code hc;cases code with
  |loop p=>
   simp only[aB,SC.loop.injEq]at hc;obtain⟨x,E1,H1,W,Y⟩:=h n E H o p hc;cases x with
   |normal=>
    obtain⟨m,M,Z⟩:=Y;obtain⟨x,V,U,O,J⟩:=ih m M Z (.loop p) (by simp[aB,hc]);exact⟨x,V,U,zdL.loop W O,J⟩
   |exit id=>exact⟨_,_,_,Ej W aE,Y⟩
   |ret=>exact⟨_,_,_,Ej W aE,Y⟩
  |region id ops draw=>cases draw<;>simp only[aB,zda,reduceCtorEq]at hc;split at hc<;>simp at hc
  |_=>simp[aB]at hc
def qn:=@zdr.loop
theorem lV{a:SC}{Q:AX->aw->Hp->Prop}(I:Nat->aw->Hp->Prop)(m:Nat)(h:∀i E H,i<=m->I i E H->zdr P cfg f N a E H (kG Q fun E H=>i<m/\I (i+1) E H)){E:aw}{H:Hp}(o:I 0 E H):zdr P cfg f N (.loop a) E H Q:=
 qn (fun n E H=>n<=m/\I (m-n) E H) (fun n E H Z=>zdr.mono (fun x E' H' K=>by
  cases x with
  |normal=>
   obtain⟨Y,g⟩:=K;have:=Z.1;refine⟨n-1,ac,ac,?_⟩;rw[show m-(n-1)=m-n+1 by omega];exact g
  |exit id=>exact K
  |ret=>exact K) (h (m-n) E H (Nat.sub_le _ _) Z.2)) (n:=m) ⟨aM _,by rw[kC];exact o⟩
theorem wW{N:Nat}{j:Option Tmp}{d:Option Nat}(h:zdc N j=some d)(E:aw)(v:AV):d9 N E j v=some (zc5 E d v):=by
 cases j with
 |none=>simp only[zdc,aA]at h;subst h;rfl
 |some t=>
  simp only[zdc]at h;split at h
  .rename_i z;simp only[aA]at h;subst h;simp only[d9,z,zc5]
  .simp at h
theorem Ek{C:List Oper}{E:aw}{o:Oper}{g:Option (Nat×Bool)}(h:zdd C o.guard=some g):
 (g=none->jg C E o=true)/\∀s b,g=some (s,b)->(E.at s=.bool b->jg C E o=true)/\(E.at s=.bool (!b)\/E.at s=zd1->jg C E o=false):=by
 unfold jg;cases A:o.guard with
 |none=>
  rw[A]at h;simp only[zdd,aA]at h;subst h;exact⟨fun _=>rfl,fun s b e=>by simp at e⟩
 |some I=>
  obtain⟨j,b⟩:=I;rw[A]at h;simp only[zdd]at h;split at h
  .rename_i d hd;simp only[aA]at h;subst h;refine⟨fun e=>by simp at e,fun s i e=>?_⟩;simp only[ck]at e;obtain⟨rfl,rfl⟩:=e;simp only[wd,hd];refine⟨fun e=>by rw[e];simp,fun e=>by rcases e with e|e<;>rw[e]<;>simp[zd1]⟩
  .simp at h
theorem aC.run{C:List Oper}{Q:aw->Hp->Prop}:∀{l:List Oper}{r:List SOp}{E:aw}{H:Hp},zc9 N C l=some r->aC P cfg f r E H Q ->
 ∃n E' H',ze1 P cfg (ev P cfg n) f N C l E H=.done .normal E' H'/\Q E' H'
 |[],r,E,H,hs,Z=>by
  simp only[zc9,aA]at hs;subst hs;exact⟨0,E,H,rfl,Z⟩
 |o::l,r,E,H,hs,Z=>by
  simp only[zc9]at hs;split at hs
  .rename_i d g r' i h2 O;simp only[aA]at hs;subst hs;obtain⟨zeU,L⟩:=Ek (E:=E) h2;have W:∀{K:Prop},fN P cfg f o.op E H (fun v H'=>aC P cfg f r' (zc5 E d v) H' Q)->jg C E o=true->∃n E' H',ze1 P cfg (ev P cfg n) f N C (o::l) E H=.done .normal E' H'/\Q E' H':=fun{K} F Y=>by
    obtain⟨n,v,H1,I,g2⟩:=F;obtain⟨m,M,U,V,J⟩:=aC.run O g2;refine⟨max n m,M,U,?_,J⟩;have z:∀k k',k<=k'->zeQ (ev P cfg k) (ev P cfg k'):=fun k k' j t ht=>Av j ht;rw[uy,Y];simp only[];rw[wS (z n (max n m) (wQ _ _)) (by rw[I];simp),I];simp only[wW i,ze5];rw[wT (z m (max n m) (wR _ _)) (by rw[V];simp),V]
   unfold aC at Z;cases A:g with
   |none=>
    rw[A]at Z;exact W (K:=True) Z (zeU A)
   |some sb=>
    obtain⟨s,b⟩:=sb;rw[A]at Z;simp only[]at Z;rcases Z with⟨e,Z⟩|⟨e,Z⟩
    .exact W (K:=True) Z ((L s b A).1 e)
    .obtain⟨m,M,U,V,J⟩:=aC.run O Z;refine⟨m,M,U,?_,J⟩;rw[uy,(L s b A).2 e];simp only[wW i,ze5];exact V
  .simp at hs
theorem zdr.ops{l:List SOp}{E:aw}{H:Hp}{Q:AX->aw->Hp->Prop}(h:aC P cfg f l E H (Q .normal)):zdr P cfg f N (.ops l) E H Q:=fun code hc=>by
 cases code with
 |region id ops draw=>
  cases draw with
  |true=>simp[aB]at hc
  |false=>
   simp only[aB,zda]at hc;split at hc
   .rename_i r hr;simp only[SC.ops.injEq]at hc;subst hc;obtain⟨n,E',H',i,g⟩:=aC.run hr h;exact⟨_,_,_,zdL.region i aE,g⟩
   .simp at hc
 |_=>simp[aB]at hc
theorem zcQ{l:List SOp}{E:aw}{H:Hp}{Q:AX->aw->Hp->Prop}(h:∀K:aw->Hp->Prop,(∀E' H',Q .normal E' H'->K E' H')->aC P cfg f l E H K):zdr P cfg f N (.ops l) E H Q:=
 zdr.ops (h _ fun _ _ h=>h)
theorem aC.nil{E:aw}{H:Hp}{Q:aw->Hp->Prop}(h:Q E H):aC P cfg f [] E H Q:=h
theorem fN.plain{op:Op}{E:aw}{H H':Hp}{v:AV}{K:AV->Hp->Prop}(h:cr P cfg.dec E H op=some (v,H'))(o:∀c,op≠.call c)(j:K v H'):fN P cfg f op E H K:=
 ⟨0,v,H',(qh o).2 h,j⟩
def wX:Op->Bool
 | .call _=>false
 |_=>true
theorem El{op:Op}(h:wX op=true):∀c,op≠.call c:=fun c e=>by subst e;simp[wX]at h
theorem aC.op{d:Nat}{op:Op}{l:List SOp}{E:aw}{H H':Hp}{v:AV}{Q:aw->Hp->Prop}(o:wX op=true)(h:cr P cfg.dec E H op=some (v,H'))(j:aC P cfg f l (T.set E d (some v)) H' Q):aC P cfg f (⟨some d,op,none⟩::l) E H Q:=
 fN.plain h (El o) j
def fV:=@aC.op
theorem Em{op:Op}{l:List SOp}{E:aw}{H H':Hp}{v:AV}{Q:aw->Hp->Prop}(o:wX op=true)(h:cr P cfg.dec E H op=some (v,H'))(j:aC P cfg f l E H' Q):aC P cfg f (⟨none,op,none⟩::l) E H Q:=
 fN.plain h (El o) j
theorem aC.guard{d:Option Nat}{op:Op}{s:Nat}{b t:Bool}{l:List SOp}{E:aw}{H:Hp}{Q:aw->Hp->Prop}(h:E.at s=.bool t)(h1:t=b->aC P cfg f (⟨d,op,none⟩::l) E H Q)(h2:t=!b->aC P cfg f l (zc5 E d zd1) H Q):
 aC P cfg f (⟨d,op,some (s,b)⟩::l) E H Q:=by
 unfold aC;by_cases e:t=b
 .exact .inl ⟨by rw[h,e],h1 e⟩
 .have:t=!b:=by cases t<;>cases b<;>simp_all
  exact .inr ⟨.inl (by rw[h,this]),h2 this⟩
theorem Eo{d:Option Nat}{op:Op}{s:Nat}{b:Bool}{l:List SOp}{E:aw}{H:Hp}{Q:aw->Hp->Prop}{v:AV}(h:some (E.at s)=some v)(L:v=zd1)(h2:aC P cfg f l (zc5 E d zd1) H Q):
 aC P cfg f (⟨d,op,some (s,b)⟩::l) E H Q:=by
 subst L;unfold aC;exact .inr ⟨.inr iW,h2⟩
theorem aC.call{d:Option Nat}{c:Call}{g:Operand}{k:FuncId}{cap vs:List AV}{l:List SOp}{E:aw}{H:Hp}{Q:aw->Hp->Prop}(O:c.callee=.value g)(A:zcV E g=some (.clo k cap))(L:zeM E c.args.toList=some vs)
 (h:zc2 P cfg k (vs++cap) H fun v H'=>aC P cfg f l (zc5 E d v) H' Q):aC P cfg f (⟨d,.call c,none⟩::l) E H Q:=by
 obtain⟨v,H',⟨_,n,i⟩,Z⟩:=h;refine⟨n,v,H',?_,Z⟩;simp only[zd4,oD,O,A,L];exact i
def a4:=@aC.call
theorem aC.builtin{d:Option Nat}{c:Call}{b:Builtin}{vs:List AV}{v:AV}{l:List SOp}{E:aw}{H H':Hp}{Q:aw->Hp->Prop}(O:c.callee=.builtin b)(L:zeM E c.args.toList=some vs)
 (h:mp P (cfg.keep f) H b c.argTypes.toList vs=some (v,H')) (j:aC P cfg f l (zc5 E d v) H' Q):aC P cfg f (⟨d,.call c,none⟩::l) E H Q:=by
 refine⟨0,v,H',?_,j⟩;simp only[zd4,oD,O,L,h]
def wY:=@aC.builtin
theorem zc2.known{g:FuncId}{args:List AV}{r:AV}{H:Hp}{Q:AV->Hp->Prop}(h:cfg.call g args=some r)(K:Q r H):zc2 P cfg g args H Q:=
 ⟨r,H,iz aE (n:=0) (by simp only[step,h]),K⟩
theorem Ep{g:FuncId}{args Z:List AV}{r:AV}{H H':Hp}{Q:AV->Hp->Prop}(o:cfg.call g args=none)(C:cfg.ice g=true)(m:cfg.froz g=false)(F:ir (fB 100) args H=some (Z,H'))(h:cfg.call g Z=some r)(K:Q r H'):zc2 P cfg g args H Q:=
 ⟨r,H',iz aE (n:=0) (by simp only[step,o,k5,C,m,rS,tU,F,h]),K⟩
theorem zc2.mono{g:FuncId}{args:List AV}{H:Hp}{Q F:AV->Hp->Prop}(h:∀v H',Q v H'->F v H')(J:zc2 P cfg g args H Q):zc2 P cfg g args H F:=by
 obtain⟨v,H',i,Z⟩:=J;exact⟨v,H',i,h _ _ Z⟩
def aZ:=@zc2.mono
theorem zc2.body{g:FuncId}{args:List AV}{H:Hp}{fn:Func}{c:Code}{Q:AV->Hp->Prop}(j:cfg.call g args=none)(C:cfg.ice g=false)(m:cfg.froz g=false)(Z:P.funcs[g]?=some fn)(z:fn.body=some c)
 (h:zdr P cfg g (max fn.ntmps args.length) (aB (max fn.ntmps args.length) c) (zcX 0 args (pY (max fn.ntmps args.length))) H (fun x E' H'=>(x=.normal\/x=.ret)/\∃vs,zet P E' H' fn.results.toList=some vs/\Q (zcS vs) H')):zc2 P cfg g args H Q:=by
 obtain⟨x,E',H',i,F,vs,Y,W⟩:=h c rfl;exact⟨zcS vs,H',zdL.call j C m Z z i F (by unfold rR;rw[Y]),W⟩
theorem zf{g:FuncId}{args:List AV}{H:Hp}{fn:Func}{c:Code}{s:SC}{M:Nat}{rs:List ResultVar}{Q:AV->Hp->Prop}(j:cfg.call g args=none)(C:cfg.ice g=false)(m:cfg.froz g=false)(Z:P.funcs[g]?=some fn)(z:fn.body=some c)(i:max fn.ntmps args.length=M)
 (K:aB M c=s) (hr:fn.results.toList=rs) (h:zdr P cfg g M s (zcX 0 args (pY M)) H (fun x E' H'=>(x=.normal\/x=.ret)/\∃vs,zet P E' H' rs=some vs/\Q (zcS vs) H')):zc2 P cfg g args H Q:=by
 subst i K hr;exact zc2.body j C m Z z h
theorem Er(fit:Fit P){ρ:Nat->Int}(L:kA cfg.dec ρ)(O:∀f args r,cfg.call f args=some r->bh P ρ f args r){g:FuncId}{args:List AV}{r:AV}{k m:Nat}
 (V:nG k args=true) (h:zc2 P cfg g args zdw fun v H'=>iceV H' m v=some r):bh P ρ g args r:=by
 obtain⟨v,H',⟨_,n,i⟩,Z⟩:=h;exact An fit L O (n:=n) (m:=m) V (by unfold tV;rw[i];exact Z)
section
variable {l:List SOp} {E:aw} {H H':Hp} {Q:aw -> Hp -> Prop} {d:Nat} {v a b:AV} {x y:Operand} {t u:TypeId}
theorem aC.move(h:zcV E x=some v)(j:aC P cfg f l (T.set E d (some v)) H Q):aC P cfg f (⟨some d,.move x,none⟩::l) E H Q:=fV rfl (by simp only[cr,Go.Ab.ret,h]) j
theorem aC.assign(h:zcV E x=some v)(j:aC P cfg f l (T.set E d (some v)) H Q):aC P cfg f (⟨some d,.assign x,none⟩::l) E H Q:=fV rfl (by simp only[cr,Go.Ab.ret,h]) j
theorem aC.pick{z:Operand}{t:Bool}(h:zcV E x=some (.bool t))(h1:zcV E y=some a)(h2:zcV E z=some b)(j:aC P cfg f l (T.set E d (some (il t a b))) H Q):aC P cfg f (⟨some d,.pick x y z,none⟩::l) E H Q:=
 fV rfl (by cases t<;>simp only[cr,vX,Go.Ab.ret,h,h1,h2]<;>rfl) j
theorem aC.load(h:zcV E x=some a)(h1:zep P H t a=some v)(j:aC P cfg f l (T.set E d (some v)) H Q):aC P cfg f (⟨some d,.load t x,none⟩::l) E H Q:=fV rfl (by simp only[cr,tL,Go.Ab.ret,h,h1]) j
theorem aC.store(h:zcV E x=some a)(h1:zcV E y=some b)(h2:zeP P H t a b=some H')(j:aC P cfg f l E H' Q):aC P cfg f (⟨none,.store t x y,none⟩::l) E H Q:=Em rfl (by simp only[cr,vZ,h,h1,h2];rfl) j
def mI:=@aC.store
theorem aC.nilCheck{r o:Nat}(h:zcV E x=some (.ptr r o))(j:aC P cfg f l (T.set E d (some (.ptr r o))) H Q):aC P cfg f (⟨some d,.nilCheck x,none⟩::l) E H Q:=fV rfl (by simp only[cr,v2,h]) j
theorem aC.bin{op:BinOp}(h:zcV E x=some a)(h1:zcV E y=some b)(h2:zdU P cfg.dec op t a b=some v)(j:aC P cfg f l (T.set E d (some v)) H Q):aC P cfg f (⟨some d,.binOp op t x y u,none⟩::l) E H Q:=
 fV rfl (by simp only[cr,v3,Go.Ab.ret,h,h1,h2]) j
theorem aC.un{op:UnOp}(h:zcV E x=some a)(h2:nF op a=some v)(j:aC P cfg f l (T.set E d (some v)) H Q):aC P cfg f (⟨some d,.unOp op t x,none⟩::l) E H Q:=fV rfl (by simp only[cr,v4,Go.Ab.ret,h,h2]) j
theorem aC.convert(h:zcV E x=some a)(h2:ze3 P H t u a=some v)(j:aC P cfg f l (T.set E d (some v)) H Q):aC P cfg f (⟨some d,.convert t u x,none⟩::l) E H Q:=fV rfl (by simp only[cr,tM,Go.Ab.ret,h,h2]) j
theorem aC.fieldAddr{i:Nat}(h:zcV E x=some a)(h2:zcZ P t a i=some v)(j:aC P cfg f l (T.set E d (some v)) H Q):aC P cfg f (⟨some d,.fieldAddr t x i,none⟩::l) E H Q:=fV rfl (by simp only[cr,v7,Go.Ab.ret,h,h2]) j
def Es:=@aC.fieldAddr
theorem aC.field{i:Nat}(h:zcV E x=some a)(h2:zdf P t a i=some v)(j:aC P cfg f l (T.set E d (some v)) H Q):aC P cfg f (⟨some d,.field t x i,none⟩::l) E H Q:=fV rfl (by simp only[cr,v8,Go.Ab.ret,h,h2]) j
theorem aC.indexAddr(h:zcV E x=some a)(h1:zcV E y=some b)(h2:zdn P t a b=some v)(j:aC P cfg f l (T.set E d (some v)) H Q):aC P cfg f (⟨some d,.indexAddr t x y,none⟩::l) E H Q:=fV rfl (by simp only[cr,v9,Go.Ab.ret,h,h1,h2]) j
def Et:=@aC.indexAddr
theorem aC.index(h:zcV E x=some a)(h1:zcV E y=some b)(h2:lM P t a b=some v)(j:aC P cfg f l (T.set E d (some v)) H Q):aC P cfg f (⟨some d,.index t x y,none⟩::l) E H Q:=fV rfl (by simp only[cr,wa,Go.Ab.ret,h,h1,h2]) j
theorem aC.extract{i:Nat}(h:zcV E x=some a)(h2:Ab.extract a i=some v)(j:aC P cfg f l (T.set E d (some v)) H Q):aC P cfg f (⟨some d,.extract x i,none⟩::l) E H Q:=fV rfl (by simp only[cr,wc,Go.Ab.ret,h,h2]) j
theorem aC.alloc{z:List AV}{n:Nat}(h:zdq P t=some z)(o:some H.next=some n)(j:aC P cfg f l (T.set E d (some (.ptr n 0))) (H.alloc (.cells z 0 true)) Q):aC P cfg f (⟨some d,.alloc t,none⟩::l) E H Q:=by
 simp only[aA]at o;subst o;exact fV rfl (by simp only[cr,tI,h]) j
theorem aC.box{cs:List AV}{n:Nat}(h:zcV E x=some a)(O:some a.cells=some cs)(o:some H.next=some n)(j:aC P cfg f l (T.set E d (some (.ptr n 0))) (H.alloc (.cells cs 0 true)) Q):aC P cfg f (⟨some d,.box t x,none⟩::l) E H Q:=by
 simp only[aA]at O o;subst O o;exact fV rfl (by simp only[cr,tJ,h]) j
theorem aC.build{i:Array (Nat×Operand)}{ps:List (Nat×AV)}(h:zfa E i.toList=some ps)(h2:zeb P t ps=some v)(j:aC P cfg f l (T.set E d (some v)) H Q):aC P cfg f (⟨some d,.build t i,none⟩::l) E H Q:=fV rfl (by simp only[cr,vY,Go.Ab.ret,h,h2]) j
theorem aC.buildSlice{n:Nat}{i:Array (Nat×Operand)}{ps:List (Nat×AV)}(h:zfa E i.toList=some ps)(h2:zej P H t n ps=some (v,H'))(j:aC P cfg f l (T.set E d (some v)) H' Q):aC P cfg f (⟨some d,.buildSlice t n i,none⟩::l) E H Q:=
 fV rfl (by simp only[cr,tK,h,h2]) j
def Eu:=@aC.buildSlice
theorem aC.makeMap{n:Nat}(o:some H.next=some n)(j:aC P cfg f l (T.set E d (some (.map n))) (H.alloc (.map [])) Q):aC P cfg f (⟨some d,.makeMap t none,none⟩::l) E H Q:=by
 simp only[aA]at o;subst o;exact fV rfl (by simp only[cr,tN]) j
theorem aC.lookup{ok:Bool}(h:zcV E x=some a)(h1:zcV E y=some b)(h2:zeY P H t a b ok=some v)(j:aC P cfg f l (T.set E d (some v)) H Q):aC P cfg f (⟨some d,.lookup t x y ok,none⟩::l) E H Q:=fV rfl (by simp only[cr,tQ,Go.Ab.ret,h,h1,h2]) j
theorem aC.mapUpdate{z:Operand}{c:AV}(h:zcV E x=some a)(h1:zcV E y=some b)(h2:zcV E z=some c)(m:zfl P H t a b c=some H')(j:aC P cfg f l E H' Q):aC P cfg f (⟨none,.mapUpdate t x y z,none⟩::l) E H Q:=
 Em rfl (by simp only[cr,wb,h,h1,h2,m];rfl) j
def Ev:=@aC.mapUpdate
theorem aC.makeFunc{g:FuncId}{cap:Array Operand}{vs:List AV}(h:zeM E cap.toList=some vs)(j:aC P cfg f l (T.set E d (some (.clo g vs))) H Q):aC P cfg f (⟨some d,.makeFunc (.func g) #[] cap,none⟩::l) E H Q:=fV rfl (by simp only[cr,v6,h]) j
theorem aC.slice{lo C:Option Operand}{O L:Option AV}(h:zcV E x=some a)(h1:ze4 E lo=some O)(h2:ze4 E C=some L)(m:kY P H t a O L=some v)(j:aC P cfg f l (T.set E d (some v)) H Q):aC P cfg f (⟨some d,.slice t x lo C none,none⟩::l) E H Q:=
 fV rfl (by simp only[cr,tP,Go.Ab.ret,h,h1,h2,m]) j
theorem aC.makeSlice(h:zcV E x=some a)(h1:zcV E y=some b)(h2:zeA P H t a b=some (v,H'))(j:aC P cfg f l (T.set E d (some v)) H' Q):aC P cfg f (⟨some d,.makeSlice t x y,none⟩::l) E H Q:=fV rfl (by simp only[cr,tO,h,h1,h2]) j
def Ew:=@aC.makeSlice
theorem aC.len{c:AV}(h:zcV E x=some a)(h1:zdu P H t a=some c)(j:aC P cfg f l (T.set E d (some c)) H Q):aC P cfg f (⟨some d,.call ⟨.builtin .len,#[x],#[t]⟩,none⟩::l) E H Q:=
 wY (c:=⟨.builtin .len,#[x],#[t]⟩) rfl (vs:=[a]) (by simp only[zeM,h]) (by simp only[mp,h1]) j
theorem aC.append(h:zcV E x=some a)(h1:zcV E y=some b)(h2:zen P (cfg.keep f) H t u a b=some (v,H'))(j:aC P cfg f l (T.set E d (some v)) H' Q):aC P cfg f (⟨some d,.call ⟨.builtin .append,#[x,y],#[t,u]⟩,none⟩::l) E H Q:=
 wY (c:=⟨.builtin .append,#[x,y],#[t,u]⟩) rfl (vs:=[a,b]) Aq (by simp only[mp,h2]) j
def nQ:=@aC.append
end
theorem gN(E:aw)(d t:Nat)(v:AV):aw.at (T.set E d (some v)) t=bif t == d then v else E.at t:=by
 rw[rV];by_cases h:t=d
 .simp[h]
 .have:(t == d)=false:=by simpa using h
  rw[ah h,this,oM]
theorem get_set(H:Hp)(d t:Nat)(b:HB):(H.set d b).get t=bif t == d then some b else H.get t:=by
 rw[aX];by_cases h:t=d
 .simp[h]
 .have:(t == d)=false:=by simpa using h
  rw[ah h,this,oM]
theorem MM(E:aw)(t:Nat):zcV E (.tmp t)=some (E.at t):=rfl
theorem MN(E:aw)(k:IntKind)(n:Int):zcV E (.const (.int k n))=some (.int k n):=rfl
theorem MO(E:aw)(b:Bool):zcV E (.const (.bool b))=some (.bool b):=rfl
theorem MP(E:aw)(g:FuncId):zcV E (.func g)=some (.clo g []):=rfl
theorem MQ(E:aw)(s:ByteArray):zcV E (.const (.string s))=some (.str s.data.toList):=rfl
section
variable {D:BinOp -> Sx -> Sx -> Option Bool} {t:TypeId} {k:IntKind} {a b:Int} {s u:List UInt8}
theorem MR:zdU P D .add t (.int k a) (.int k b)=some (.int k (k.wrap (a+b))):=lT
theorem MT:zdU P D .sub t (.int k a) (.int k b)=some (.int k (k.wrap (a-b))):=lT
theorem MU:zdU P D .mul t (.int k a) (.int k b)=some (.int k (k.wrap (a*b))):=lT
theorem mJ(h:b≠0):zdU P D .quo t (.int k a) (.int k b)=some (.int k (k.wrap (a.tdiv b))):=by simp[zdU,nE,zeZ,h]
theorem oN(h:b≠0):zdU P D .rem t (.int k a) (.int k b)=some (.int k (a.tmod b)):=by simp[zdU,nE,zeZ,h]
theorem MV:zdU P D .and t (.int k a) (.int k b)=some (.int k (k.wrap (BitVec.ofInt k.bits a &&& BitVec.ofInt k.bits b).toNat)):=lT
theorem MW:zdU P D .or t (.int k a) (.int k b)=some (.int k (k.wrap (BitVec.ofInt k.bits a |||BitVec.ofInt k.bits b).toNat)):=lT
theorem MX:zdU P D .xor t (.int k a) (.int k b)=some (.int k (k.wrap (BitVec.ofInt k.bits a^^^ BitVec.ofInt k.bits b).toNat)):=lT
theorem MY:zdU P D .eql t (.int k a) (.int k b)=some (.bool (decide (a=b))):=by simp[zdU,nE,zeZ];rfl
theorem MZ:zdU P D .neq t (.int k a) (.int k b)=some (.bool (!decide (a=b))):=by simp[zdU,nE,zeZ];rfl
theorem M0:zdU P D .lss t (.int k a) (.int k b)=some (.bool (decide (a<b))):=lT
theorem M1:zdU P D .leq t (.int k a) (.int k b)=some (.bool (decide (a<=b))):=lT
theorem M2:zdU P D .gtr t (.int k a) (.int k b)=some (.bool (decide (b<a))):=lT
theorem M3:zdU P D .geq t (.int k a) (.int k b)=some (.bool (decide (b<=a))):=lT
theorem M4:zdU P D .eql t (.str s) (.str u)=some (.bool (decide (s=u))):=by
 simp only[zdU,tH];by_cases h:s=u<;>simp[h]
theorem M5:zdU P D .neq t (.str s) (.str u)=some (.bool (!decide (s=u))):=by
 simp only[zdU,tH];by_cases h:s=u<;>simp[h]
theorem M6{x:Bool}:nF .not (.bool x)=some (.bool !x):=rfl
theorem M7:nF .neg (.int k a)=some (.int k (k.wrap (0-a))):=rfl
end
theorem ze6{i:Nat}(h:i<2^62):IntKind.wrap .i64 ((i:Int)+1)=((i+1:Nat):Int):=by
 rw[qd _ ac];rfl
theorem ze7{H:Hp}{t e:TypeId}(h:P.underlying t=some (.slice e))(xs:List (List AV)):zdu P H t (.lst xs)=some (.int .i64 xs.length):=wM
theorem zeV{H:Hp}{t e:TypeId}(h:P.underlying t=some (.slice e))(r o n z:Nat):zdu P H t (.sl r o n z)=some (.int .i64 n):=wM
theorem zeW{H:Hp}{t e:TypeId}(h:P.underlying t=some (.slice e)):zdu P H t .nilS=some (.int .i64 0):=wM
theorem M8{H:Hp}{t:TypeId}(h:P.underlying t=some .string)(s:List UInt8):zdu P H t (.str s)=some (.int .i64 s.length):=wM
theorem mK{t e:TypeId}{s:Nat}(h:P.underlying t=some (.slice e))(K:zc8 P e=some s){r o n z i:Nat}(C:i<n):zdn P t (.sl r o n z) (.int .i64 (i:Int))=some (.ptr r (o+i*s)):=by
 show zdn P t (.sl r o n z) (.int .i64 (Int.ofNat i))=_;simp only[zdn,h,K,C,bS]
def uz:TypeDesc->Bool
 | .struct _|.array _ _=>false
 |_=>true
theorem zei{t:TypeId}{d:TypeDesc}(h:P.underlying t=some d)(hd:uz d=true)(cs:List AV)(o:Nat):zc1 P t cs o=cs[o]?:=by
 unfold zc1;rw[h];cases d<;>simp_all[uz]
theorem qo{H:Hp}{t:TypeId}{d:TypeDesc}(h:P.underlying t=some d)(hd:uz d=true){r o:Nat}{cs:List AV}{imm:Nat}{tip:Bool}(A:H.get r=some (.cells cs imm tip)):zep P H t (.ptr r o)=cs[o]?:=by
 simp only[zep,A,zei h hd]
def gB(z:Nat):Option (List AV)->Option AV
 |some A=>if A.length=z then some (.iptr A)else none
 |none=>none
theorem M9(z:Nat)(row:List AV):gB z (some row)=if row.length=z then some (.iptr row)else none:=rfl
def wZ:Option UInt8->Option AV
 |some b=>some (.int .u8 b.toNat)
 |none=>none
theorem Na(b:UInt8):wZ (some b)=some (.int .u8 b.toNat):=rfl
def zdA(s:Nat)(cs:List AV):Option AV:=if (cs.take s).length=s then some (.agg (cs.take s))else none
theorem zeR{t:TypeId}{d:TypeDesc}{s:Nat}(h:P.underlying t=some d)(hd:uz d=false)(K:zc8 P t=some s)(cs:List AV)(o:Nat):zc1 P t cs o=zdA s (cs.drop o):=by
 unfold zc1 zdA;rw[h];cases d<;>simp_all[uz]
theorem ze8{t e:TypeId}{s:Nat}(h:P.underlying t=some (.slice e))(K:zc8 P e=some s)(xs:List (List AV)){n:Int}(o:0<=n)(k:IntKind):zdn P t (.lst xs) (.int k n)=gB s (xs[n.toNat]?):=by
 obtain⟨m,rfl⟩:=eI o;show zdn P t (.lst xs) (.int k (Int.ofNat m))=gB s (xs[m]?);simp only[zdn,h,K];cases xs[m]? <;>rfl
theorem ze9{t e:TypeId}{s:Nat}(h:P.underlying t=some (.slice e))(K:zc8 P e=some s)(r o l z:Nat){n:Int}(Z:0<=n)(k:IntKind):zdn P t (.sl r o l z) (.int k n)=bif decide (n.toNat<l)then some (.ptr r (o+n.toNat*s))else none:=by
 obtain⟨m,rfl⟩:=eI Z;show zdn P t (.sl r o l z) (.int k (Int.ofNat m))=bif decide (m<l)then some (.ptr r (o+m*s))else none
 simp only[zdn,h,K];by_cases M:m<l<;>simp[M]
theorem Nb{t:TypeId}(h:P.underlying t=some .string)(s:List UInt8){n:Int}(o:0<=n)(k:IntKind):lM P t (.str s) (.int k n)=wZ (s[n.toNat]?):=by
 obtain⟨m,rfl⟩:=eI o;show lM P t (.str s) (.int k (Int.ofNat m))=wZ (s[m]?);simp only[lM,h];cases s[m]? <;>rfl
def sd(P:Program)(t:TypeId)(o:Nat):Option HB->Option AV
 |some (.cells W _ _)=>zc1 P t W o
 |_=>none
theorem Nc(t:TypeId)(o:Nat)(cs:List AV)(imm:Nat)(tip:Bool):sd P t o (some (.cells cs imm tip))=zc1 P t cs o:=rfl
theorem se(H:Hp)(t:TypeId)(r o:Nat):zep P H t (.ptr r o)=sd P t o (H.get r):=rfl
theorem Nf(H:Hp)(t:TypeId)(cs:List AV):zep P H t (.iptr cs)=zc1 P t cs 0:=rfl
theorem sf(H:Hp)(b:HB)(t:Nat):(H.alloc b).get t=bif t == H.next then some b else H.get t:=by
 rw[zcY];by_cases h:t=H.next
 .simp[h]
 .have:(t == H.next)=false:=by simpa using h
  rw[ah h,this,oM]
noncomputable def Ey(H:Hp)(r o:Nat)(j:List AV):Option Nat->Option HB->Option Hp
 |some s,some (.cells W g O)=>if j.length=s/\g<=o/\o+s<=W.length/\j.all AV.one=true then some (H.set r (.cells (splice W o j) g O))else none
 |_,_=>none
theorem w1(H:Hp)(r o:Nat)(j:List AV)(s:Nat)(cs:List AV)(imm:Nat)(tip:Bool):Ey H r o j (some s) (some (.cells cs imm tip))=if j.length=s/\imm<=o/\o+s<=cs.length/\j.all AV.one=true then some (H.set r (.cells (splice cs o j) imm tip))else none:=rfl
theorem sg(H:Hp)(t:TypeId)(r o:Nat)(v:AV):zeP P H t (.ptr r o) v=Ey H r o v.cells (zc8 P t) (H.get r):=by
 unfold zeP;simp only[];cases i:H.get r with
 |none=>cases zc8 P t<;>rfl
 |some b=>cases b with
  |map U=>cases zc8 P t<;>rfl
  |cells W g O=>cases zc8 P t with
   |none=>rfl
   |some s=>rfl
theorem Ez(cs:List AV)(o:Nat)(L:List AV):splice cs o L=cs.take o++L++cs.drop (o+L.length):=rfl
theorem Ng(cs:List AV):AV.cells (.agg cs)=cs:=rfl
theorem cells_int(k:IntKind)(n:Int):AV.cells (.int k n)=[.int k n]:=rfl
theorem EC(b:Bool):AV.cells (.bool b)=[.bool b]:=rfl
theorem Nh(b:List UInt8):AV.cells (.str b)=[.str b]:=rfl
theorem Ni(b:List (List AV)):AV.cells (.lst b)=[.lst b]:=rfl
theorem Nj(r o l z:Nat):AV.cells (.sl r o l z)=[.sl r o l z]:=rfl
theorem Nk:AV.cells .nilS=[.nilS]:=rfl
theorem Nl(r o:Nat):AV.cells (.ptr r o)=[.ptr r o]:=rfl
theorem Nm(r:Nat):AV.cells (.map r)=[.map r]:=rfl
theorem Nn(g:Nat)(cap:List AV):AV.cells (.clo g cap)=[.clo g cap]:=rfl
theorem ED(k:IntKind)(n:Int):AV.one (.int k n)=true:=rfl
theorem No(b:Bool):AV.one (.bool b)=true:=rfl
theorem Np(b:List UInt8):AV.one (.str b)=true:=rfl
theorem Nq(b:List (List AV)):AV.one (.lst b)=true:=rfl
theorem Nr(r o l z:Nat):AV.one (.sl r o l z)=true:=rfl
theorem Ns:AV.one .nilS=true:=rfl
theorem Nt(r o:Nat):AV.one (.ptr r o)=true:=rfl
theorem Nu(r:Nat):AV.one (.map r)=true:=rfl
theorem Nv(g:Nat)(cap:List AV):AV.one (.clo g cap)=true:=rfl
theorem zdK:zdw.next=0:=rfl
theorem Nw(H:Hp)(t:TypeId)(s:List UInt8)(lo C:Option AV):kY P H t (.str s) lo C=zeF P t (.str s) lo C:=rfl
theorem Nx(H:Hp)(t:TypeId)(s:List (List AV))(lo C:Option AV):kY P H t (.lst s) lo C=zeF P t (.lst s) lo C:=rfl
theorem Ny(H:Hp)(t:TypeId)(r o n z:Nat)(lo C:Option AV):kY P H t (.sl r o n z) lo C=zeF P t (.sl r o n z) lo C:=rfl
theorem Nz(H:Hp)(t:TypeId)(lo C:Option AV):kY P H t .nilS lo C=zeF P t .nilS lo C:=rfl
theorem Aw(n k:Nat):(n == n+(k+1))=false:=aE
theorem Ax(n k:Nat):(n+(k+1) == n)=false:=aE
theorem EE(n a b:Nat):(n+a == n+b)=(a == b):=by
 by_cases h:a=b
 .simp[h]
 .have i:(a == b)=false:=by simpa using h
  rw[i];simp;omega
end
attribute [irreducible] aC zdr zc2 fN
abbrev zd7(l:List (List UInt8)):AV:=.lst (l.map fun s=>[.str s])
abbrev zdR(l:List Int):AV:=.lst (l.map fun n=>[.int .i64 n])
def str(s:String):List UInt8:=s.toUTF8.data.toList
inductive Ex where
 |mk (kind:Int) (n:Int) (name:List UInt8) (op:Int) (kids:List Ex)
def Ex.kind:Ex->Int|.mk x _ _ _ _=>x
def Ex.n:Ex->Int|.mk _ x _ _ _=>x
def Ex.name:Ex->List UInt8|.mk _ _ x _ _=>x
def Ex.op:Ex->Int|.mk _ _ _ x _=>x
def Ex.kids:Ex->List Ex|.mk _ _ _ _ x=>x
mutual
def Ex.cells:Ex->List AV
 | .mk a0 zd0 a2 a3 zeh=>[.int .i64 a0,.int .i64 zd0,.str a2,.int .i64 a3,.lst (w5 zeh)]
def w5:List Ex->List (List AV)
 |[]=>[]
 |x::xs=>Ex.cells x::w5 xs
end
theorem EF:∀l:List Ex,w5 l=l.map Ex.cells
 |[]=>rfl
 |x::xs=>by rw[w5,EF xs];rfl
theorem Ex.cells_eq(x:Ex):x.cells=[.int .i64 x.kind,.int .i64 x.n,.str x.name,.int .i64 x.op,.lst (x.kids.map Ex.cells)]:=by
 cases x;simp only[Ex.cells,EF,Ex.kind,Ex.n,Ex.name,Ex.op,Ex.kids]
def qp:=@Ex.cells_eq
theorem Ex.clen(x:Ex):x.cells.length=5:=qk
theorem Ex.c0(x:Ex):x.cells[0]?=some (.int .i64 x.kind):=qk
theorem Ex.c1(x:Ex):x.cells[1]?=some (.int .i64 x.n):=qk
theorem Ex.c2(x:Ex):x.cells[2]?=some (.str x.name):=qk
theorem Ex.c3(x:Ex):x.cells[3]?=some (.int .i64 x.op):=qk
theorem Ex.c4(x:Ex):x.cells[4]?=some (.lst (x.kids.map Ex.cells)):=qk
theorem Ex.whole(x:Ex):zdA 5 x.cells=some (.agg x.cells):=by unfold zdA;rw[qp];rfl
theorem Ex.one(x:Ex):x.cells.all AV.one=true:=qk
inductive St where
 |mk (kind:Int) (name:List UInt8) (to:List UInt8) (n:Int) (at_:Ex) (value:Ex) (args:List Ex) (thn:List St) (els:List St)
def St.kind:St->Int|.mk x _ _ _ _ _ _ _ _=>x
def St.name:St->List UInt8|.mk _ x _ _ _ _ _ _ _=>x
def St.to:St->List UInt8|.mk _ _ x _ _ _ _ _ _=>x
def St.n:St->Int|.mk _ _ _ x _ _ _ _ _=>x
def St.at_:St->Ex|.mk _ _ _ _ x _ _ _ _=>x
def St.value:St->Ex|.mk _ _ _ _ _ x _ _ _=>x
def St.args:St->List Ex|.mk _ _ _ _ _ _ x _ _=>x
def St.thn:St->List St|.mk _ _ _ _ _ _ _ x _=>x
def St.els:St->List St|.mk _ _ _ _ _ _ _ _ x=>x
mutual
def St.cells:St->List AV
 | .mk a0 zd0 a2 a3 zeh a5 zfu zfG zfI=>[.int .i64 a0,.str zd0,.str a2,.int .i64 a3,.int .i64 zeh.kind,.int .i64 zeh.n,.str zeh.name,.int .i64 zeh.op,.lst (zeh.kids.map Ex.cells),.int .i64 a5.kind,.int .i64 a5.n,.str a5.name,.int .i64 a5.op,.lst (a5.kids.map Ex.cells),.lst (zfu.map Ex.cells),.lst (uA zfG),.lst (uA zfI)]
def uA:List St->List (List AV)
 |[]=>[]
 |x::xs=>St.cells x::uA xs
end
theorem EG:∀l:List St,uA l=l.map St.cells
 |[]=>rfl
 |x::xs=>by rw[uA,EG xs];rfl
theorem St.cells_eq(x:St):x.cells=[.int .i64 x.kind,.str x.name,.str x.to,.int .i64 x.n,.int .i64 x.at_.kind,.int .i64 x.at_.n,.str x.at_.name,.int .i64 x.at_.op,.lst (x.at_.kids.map Ex.cells),.int .i64 x.value.kind,.int .i64 x.value.n,.str x.value.name,.int .i64 x.value.op,.lst (x.value.kids.map Ex.cells),.lst (x.args.map Ex.cells),.lst (x.thn.map St.cells),.lst (x.els.map St.cells)]:=by
 cases x;simp only[St.cells,EG,St.kind,St.name,St.to,St.n,St.at_,St.value,St.args,St.thn,St.els]
def sh:=@St.cells_eq
theorem St.clen(x:St):x.cells.length=17:=ib
theorem St.c0(x:St):x.cells[0]?=some (.int .i64 x.kind):=ib
theorem St.c1(x:St):x.cells[1]?=some (.str x.name):=ib
theorem St.c2(x:St):x.cells[2]?=some (.str x.to):=ib
theorem St.c3(x:St):x.cells[3]?=some (.int .i64 x.n):=ib
theorem St.c4(x:St):x.cells[4]?=some (.int .i64 x.at_.kind):=ib
theorem St.c5(x:St):x.cells[5]?=some (.int .i64 x.at_.n):=ib
theorem St.c6(x:St):x.cells[6]?=some (.str x.at_.name):=ib
theorem St.c7(x:St):x.cells[7]?=some (.int .i64 x.at_.op):=ib
theorem St.c8(x:St):x.cells[8]?=some (.lst (x.at_.kids.map Ex.cells)):=ib
theorem St.c9(x:St):x.cells[9]?=some (.int .i64 x.value.kind):=ib
theorem St.c10(x:St):x.cells[10]?=some (.int .i64 x.value.n):=ib
theorem St.c11(x:St):x.cells[11]?=some (.str x.value.name):=ib
theorem St.c12(x:St):x.cells[12]?=some (.int .i64 x.value.op):=ib
theorem St.c13(x:St):x.cells[13]?=some (.lst (x.value.kids.map Ex.cells)):=ib
theorem St.c14(x:St):x.cells[14]?=some (.lst (x.args.map Ex.cells)):=ib
theorem St.c15(x:St):x.cells[15]?=some (.lst (x.thn.map St.cells)):=ib
theorem St.c16(x:St):x.cells[16]?=some (.lst (x.els.map St.cells)):=ib
theorem St.whole(x:St):zdA 17 x.cells=some (.agg x.cells):=by unfold zdA;rw[sh];rfl
theorem St.one(x:St):x.cells.all AV.one=true:=ib
theorem NA(x:St):zdA 5 (x.cells.drop 4)=some (.agg x.at_.cells):=by unfold zdA;rw[sh,qp];rfl
theorem St.part_value(x:St):zdA 5 (x.cells.drop 9)=some (.agg x.value.cells):=by unfold zdA;rw[sh,qp];rfl
structure Fu where
 name:List UInt8
 params:List (List UInt8)
 locals:List (List UInt8)
 body:List St
 value:Ex
def Fu.cells(x:Fu):List AV:=[.str x.name,zd7 x.params,zd7 x.locals,.lst (x.body.map St.cells),.int .i64 x.value.kind,.int .i64 x.value.n,.str x.value.name,.int .i64 x.value.op,.lst (x.value.kids.map Ex.cells)]
theorem Fu.cells_eq(x:Fu):x.cells=[.str x.name,zd7 x.params,zd7 x.locals,.lst (x.body.map St.cells),.int .i64 x.value.kind,.int .i64 x.value.n,.str x.value.name,.int .i64 x.value.op,.lst (x.value.kids.map Ex.cells)]:=rfl
def uB:=@Fu.cells_eq
theorem Fu.clen(x:Fu):x.cells.length=9:=lU
theorem Fu.c0(x:Fu):x.cells[0]?=some (.str x.name):=lU
theorem Fu.c1(x:Fu):x.cells[1]?=some (zd7 x.params):=lU
theorem Fu.c2(x:Fu):x.cells[2]?=some (zd7 x.locals):=lU
theorem Fu.c3(x:Fu):x.cells[3]?=some (.lst (x.body.map St.cells)):=lU
theorem Fu.c4(x:Fu):x.cells[4]?=some (.int .i64 x.value.kind):=lU
theorem Fu.c5(x:Fu):x.cells[5]?=some (.int .i64 x.value.n):=lU
theorem Fu.c6(x:Fu):x.cells[6]?=some (.str x.value.name):=lU
theorem Fu.c7(x:Fu):x.cells[7]?=some (.int .i64 x.value.op):=lU
theorem Fu.c8(x:Fu):x.cells[8]?=some (.lst (x.value.kids.map Ex.cells)):=lU
theorem Fu.whole(x:Fu):zdA 9 x.cells=some (.agg x.cells):=by unfold zdA;rw[uB];rfl
theorem Fu.one(x:Fu):x.cells.all AV.one=true:=lU
theorem Fu.part_value(x:Fu):zdA 5 (x.cells.drop 4)=some (.agg x.value.cells):=by unfold zdA;rw[uB,qp];rfl
structure Ar where
 name:List UInt8
 len:Int
def Ar.cells(x:Ar):List AV:=[.str x.name,.int .i64 x.len]
theorem Ar.cells_eq(x:Ar):x.cells=[.str x.name,.int .i64 x.len]:=rfl
theorem Ar.clen(x:Ar):x.cells.length=2:=wN
theorem Ar.c0(x:Ar):x.cells[0]?=some (.str x.name):=wN
theorem Ar.c1(x:Ar):x.cells[1]?=some (.int .i64 x.len):=wN
theorem Ar.whole(x:Ar):zdA 2 x.cells=some (.agg x.cells):=by unfold zdA;rw[Ar.cells_eq];rfl
theorem Ar.one(x:Ar):x.cells.all AV.one=true:=wN
structure Pr where
 arrays:List Ar
 funcs:List Fu
def Pr.cells(x:Pr):List AV:=[.lst (x.arrays.map Ar.cells),.lst (x.funcs.map Fu.cells)]
theorem Pr.cells_eq(x:Pr):x.cells=[.lst (x.arrays.map Ar.cells),.lst (x.funcs.map Fu.cells)]:=rfl
theorem Pr.clen(x:Pr):x.cells.length=2:=wO
theorem Pr.c0(x:Pr):x.cells[0]?=some (.lst (x.arrays.map Ar.cells)):=wO
theorem Pr.c1(x:Pr):x.cells[1]?=some (.lst (x.funcs.map Fu.cells)):=wO
theorem Pr.whole(x:Pr):zdA 2 x.cells=some (.agg x.cells):=by unfold zdA;rw[Pr.cells_eq];rfl
theorem Pr.one(x:Pr):x.cells.all AV.one=true:=wO
structure Tk where
 kind:Int
 text:List UInt8
 at_:Int
def Tk.cells(x:Tk):List AV:=[.int .i64 x.kind,.str x.text,.int .i64 x.at_]
theorem Tk.cells_eq(x:Tk):x.cells=[.int .i64 x.kind,.str x.text,.int .i64 x.at_]:=rfl
theorem Tk.clen(x:Tk):x.cells.length=3:=uw
theorem Tk.c0(x:Tk):x.cells[0]?=some (.int .i64 x.kind):=uw
theorem Tk.c1(x:Tk):x.cells[1]?=some (.str x.text):=uw
theorem Tk.c2(x:Tk):x.cells[2]?=some (.int .i64 x.at_):=uw
theorem Tk.whole(x:Tk):zdA 3 x.cells=some (.agg x.cells):=by unfold zdA;rw[Tk.cells_eq];rfl
theorem Tk.one(x:Tk):x.cells.all AV.one=true:=uw
structure Nd where
 op:Int
 imm:Int
 kids:List Int
def Nd.cells(x:Nd):List AV:=[.int .i64 x.op,.int .i64 x.imm,zdR x.kids]
theorem Nd.cells_eq(x:Nd):x.cells=[.int .i64 x.op,.int .i64 x.imm,zdR x.kids]:=rfl
theorem Nd.clen(x:Nd):x.cells.length=3:=ux
theorem Nd.c0(x:Nd):x.cells[0]?=some (.int .i64 x.op):=ux
theorem Nd.c1(x:Nd):x.cells[1]?=some (.int .i64 x.imm):=ux
theorem Nd.c2(x:Nd):x.cells[2]?=some (zdR x.kids):=ux
theorem Nd.whole(x:Nd):zdA 3 x.cells=some (.agg x.cells):=by unfold zdA;rw[Nd.cells_eq];rfl
theorem Nd.one(x:Nd):x.cells.all AV.one=true:=ux
structure Gr where
 name:List UInt8
 params:Int
 nodes:List Nd
 value:Int
 state:Int
def Gr.cells(x:Gr):List AV:=[.str x.name,.int .i64 x.params,.lst (x.nodes.map Nd.cells),.int .i64 x.value,.int .i64 x.state]
theorem Gr.cells_eq(x:Gr):x.cells=[.str x.name,.int .i64 x.params,.lst (x.nodes.map Nd.cells),.int .i64 x.value,.int .i64 x.state]:=rfl
theorem Gr.clen(x:Gr):x.cells.length=5:=ql
theorem Gr.c0(x:Gr):x.cells[0]?=some (.str x.name):=ql
theorem Gr.c1(x:Gr):x.cells[1]?=some (.int .i64 x.params):=ql
theorem Gr.c2(x:Gr):x.cells[2]?=some (.lst (x.nodes.map Nd.cells)):=ql
theorem Gr.c3(x:Gr):x.cells[3]?=some (.int .i64 x.value):=ql
theorem Gr.c4(x:Gr):x.cells[4]?=some (.int .i64 x.state):=ql
theorem Gr.whole(x:Gr):zdA 5 x.cells=some (.agg x.cells):=by unfold zdA;rw[Gr.cells_eq];rfl
theorem Gr.one(x:Gr):x.cells.all AV.one=true:=ql
structure Un where
 arrays:List Ar
 funcs:List Gr
def Un.cells(x:Un):List AV:=[.lst (x.arrays.map Ar.cells),.lst (x.funcs.map Gr.cells)]
theorem Un.cells_eq(x:Un):x.cells=[.lst (x.arrays.map Ar.cells),.lst (x.funcs.map Gr.cells)]:=rfl
theorem Un.clen(x:Un):x.cells.length=2:=wP
theorem Un.c0(x:Un):x.cells[0]?=some (.lst (x.arrays.map Ar.cells)):=wP
theorem Un.c1(x:Un):x.cells[1]?=some (.lst (x.funcs.map Gr.cells)):=wP
theorem Un.whole(x:Un):zdA 2 x.cells=some (.agg x.cells):=by unfold zdA;rw[Un.cells_eq];rfl
theorem Un.one(x:Un):x.cells.all AV.one=true:=wP
abbrev eK(n:Int):Int:=IntKind.wrap .i64 n
section
variable (q:Ex -> Int -> Bool)
mutual
def jB:Ex->Int->Bool
 | .mk k n s o V,d=>q (.mk k n s o V) d&&zeS V (eK (d+1))
def zeS:List Ex->Int->Bool
 |[],_=>true
 |e::es,d=>jB e d&&zeS es d
end
theorem Ay(e:Ex)(d:Int):jB q e d=(q e d&&zeS q e.kids (eK (d+1))):=by
 cases e;simp only[jB,Ex.kids]
theorem w6{l:List Ex}{i:Nat}(h:i<l.length)(d:Int):zeS q (l.drop i) d=(jB q l[i] d&&zeS q (l.drop (i+1)) d):=by
 rw[eJ h,zeS]
end
section
variable {σ:Type} (q:St -> Int -> σ -> Bool × σ)
mutual
def iE:St->Int->σ->Bool×σ
 | .mk k m Z n a v args g i,d,s=>match q (.mk k m Z n a v args g i) d s with
   |(false,s)=>(false,s)
   |(true,s)=>match zea g (eK (d+1)) s with
    |(false,s)=>(false,s)
    |(true,s)=>zea i (eK (d+1)) s
def zea:List St->Int->σ->Bool×σ
 |[],_,s=>(true,s)
 |x::l,d,s=>match iE x d s with
  |(false,s)=>(false,s)
  |(true,s)=>zea l d s
end
theorem NB(x:St)(d:Int)(s:σ):iE q x d s=match q x d s with
 |(false,s)=>(false,s)
 |(true,s)=>match zea q x.thn (eK (d+1)) s with
  |(false,s)=>(false,s)
  |(true,s)=>zea q x.els (eK (d+1)) s:=by
 cases x;simp only[iE,St.thn,St.els]
theorem NC{l:List St}{i:Nat}(h:i<l.length)(d:Int)(s:σ):zea q (l.drop i) d s=match iE q l[i] d s with
 |(false,s)=>(false,s)
 |(true,s)=>zea q (l.drop (i+1)) d s:=by
 rw[eJ h,zea]
end
mutual
def Ex.sz:Ex->Nat
 | .mk _ _ s _ V=>1+s.length+mL V
def mL:List Ex->Nat
 |[]=>0
 |e::es=>1+e.sz+mL es
end
mutual
def St.sz:St->Nat
 | .mk _ m g _ a v args Z i=>1+m.length+g.length+a.sz+v.sz+mL args+zeO Z+zeO i
def zeO:List St->Nat
 |[]=>0
 |x::l=>1+x.sz+zeO l
end
def zeJ:List (List UInt8)->Nat
 |[]=>0
 |s::l=>1+s.length+zeJ l
def Fu.sz(f:Fu):Nat:=1+f.name.length+zeJ f.params+zeJ f.locals+zeO f.body+f.value.sz
def jX:List Fu->Nat
 |[]=>0
 |f::l=>1+f.sz+jX l
def jC:List Ar->Nat
 |[]=>0
 |a::l=>1+a.name.length+jC l
def Pr.sz(p:Pr):Nat:=1+jC p.arrays+jX p.funcs
theorem uC:∀l:List Ex,l.length<=mL l
 |[]=>aM _
 |e::es=>by have:=uC es;simp only[dl,mL];omega
theorem EH:∀l:List St,l.length<=zeO l
 |[]=>aM _
 |e::es=>by have:=EH es;simp only[dl,zeO];omega
theorem si:∀l:List (List UInt8),l.length<=zeJ l
 |[]=>aM _
 |e::es=>by have:=si es;simp only[dl,zeJ];omega
theorem sj:∀l:List Fu,l.length<=jX l
 |[]=>aM _
 |e::es=>by have:=sj es;simp only[dl,jX];omega
theorem sk:∀l:List Ar,l.length<=jC l
 |[]=>aM _
 |e::es=>by have:=sk es;simp only[dl,jC];omega
theorem sm:∀{l:List Ex}{x:Ex},x∈l->x.sz<mL l
 |[],_,h=>by simp at h
 |e::es,x,h=>by
  rcases fk.1 h with rfl|h
  .simp only[mL];omega
  .have:=sm h;simp only[mL];omega
theorem sn:∀{l:List St}{x:St},x∈l->x.sz<zeO l
 |[],_,h=>by simp at h
 |e::es,x,h=>by
  rcases fk.1 h with rfl|h
  .simp only[zeO];omega
  .have:=sn h;simp only[zeO];omega
theorem EI:∀{l:List (List UInt8)}{x:List UInt8},x∈l->x.length<zeJ l
 |[],_,h=>by simp at h
 |e::es,x,h=>by
  rcases fk.1 h with rfl|h
  .simp only[zeJ];omega
  .have:=EI h;simp only[zeJ];omega
theorem so:∀{l:List Fu}{x:Fu},x∈l->x.sz<jX l
 |[],_,h=>by simp at h
 |e::es,x,h=>by
  rcases fk.1 h with rfl|h
  .simp only[jX];omega
  .have:=so h;simp only[jX];omega
theorem Ex.sz_eq(e:Ex):e.sz=1+e.name.length+mL e.kids:=by cases e;simp only[Ex.sz,Ex.name,Ex.kids]
theorem St.sz_eq(x:St):x.sz=1+x.name.length+x.to.length+x.at_.sz+x.value.sz+mL x.args+zeO x.thn+zeO x.els:=by cases x;simp only[St.sz,St.name,St.to,St.at_,St.value,St.args,St.thn,St.els]
structure FrB (base:Nat) (H H':Hp):Prop where
 next:H.next<=H'.next
 get:∀r,base<=r->r<H.next->H'.get r=H.get r
theorem FrB.refl(base:Nat)(H:Hp):FrB base H H:=⟨aM _,fun _ _ _=>rfl⟩
def fY:=@FrB.refl
theorem FrB.trans{base:Nat}{a b c:Hp}(h:FrB base a b)(k:FrB base b c):FrB base a c:=⟨eP h.next k.next,fun r i g=>(k.get r i (gk g h.next)).trans (h.get r i g)⟩
theorem FrB.alloc{base:Nat}{a b:Hp}(h:FrB base a b)(x:HB):FrB base a (b.alloc x):=⟨eP h.next (gm _),fun r i g=>by
 have:=h.next
 rw[zcY,ah ac];exact h.get r i g⟩
theorem FrB.set{base r:Nat}{a b:Hp}(h:FrB base a b)(hr:a.next<=r\/r<base)(x:HB):FrB base a (b.set r x):=⟨h.next,fun k i g=>by
 rw[aX,ah ac];exact h.get k i g⟩
def fE(base:Nat)(H H':Hp):Prop:=∀r,r<base->H'.get r=H.get r
theorem fE.refl(base:Nat)(H:Hp):fE base H H:=fun _ _=>rfl
def lW:=@fE.refl
theorem fE.trans{base:Nat}{a b c:Hp}(h:fE base a b)(k:fE base b c):fE base a c:=fun r hr=>(k r hr).trans (h r hr)
theorem fE.alloc{base:Nat}{a b:Hp}(h:fE base a b)(z:base<=b.next)(x:HB):fE base a (b.alloc x):=fun r hr=>by rw[zcY,ah ac];exact h r hr
theorem fE.set{base r:Nat}{a b:Hp}(h:fE base a b)(hr:base<=r)(x:HB):fE base a (b.set r x):=fun k j=>by rw[aX,ah ac];exact h k j
theorem FrB.weak{base I:Nat}(h:base<=I){a b:Hp}(k:FrB base a b):FrB I a b:=⟨k.next,fun r i g=>k.get r (eP h i) g⟩
theorem fE.weak{base I:Nat}(h:base<=I){a b:Hp}(k:fE I a b):fE base a b:=fun r hr=>k r (gk hr h)
def kH(x:St)(d:Int)(s:Int×Int):Bool×(Int×Int):=
 let n:=eK (s.1+1)
 let l:=if x.kind=4 then eK (s.2+1)else s.2
 (decide (d<=20)&&decide (n<=200)&&decide (l<=16),(n,l))
def nR(_:Ex)(d:Int):Bool:=decide (d<=20)
def lm(q:Ex->Int->Bool)(x:St)(_:Int)(s:Unit):Bool×Unit:=(jB q x.at_ 0&&jB q x.value 0&&zeS q x.args 0,s)
def lq(q:Ex->Int->Bool)(f:Fu):Bool:=jB q f.value 0&&(zea (lm q) f.body 0 ()).1
def gQ(f:Fu):Bool:=decide ((f.params.length:Int)<=6)&&decide ((f.locals.length:Int)<=8)&&(zea kH f.body 0 (0,0)).1&&lq nR f
def iZ(p:Pr):Bool:=!decide (4<(p.arrays.length:Int)) && !decide (8<(p.funcs.length:Int))&&p.arrays.all (fun a=>!decide (a.len<1) && !decide (16<a.len))&&p.funcs.all gQ
def nS(b:Int):Int:=IntKind.wrap .u64 (IntKind.wrap .i64 (BitVec.ofInt (IntKind.bits .i64) b &&& BitVec.ofInt (IntKind.bits .i64) 63).toNat)
def Az(k:IntKind)(a b:Int):Int:=k.wrap (a*2^ min b.toNat k.bits)
def w7(k:IntKind)(a b:Int):Int:=a.fdiv (2^ min b.toNat k.bits)
def ss(a b:Int):Int:=if b=0 then 0 else if b=-1 then eK (0-a)else eK (a.tdiv b)
def qq(b:Bool):Int:=if b=true then 1 else 0
def AA(op a b:Int):Int:=
 if op=12 then Az .i64 a (nS b)else if op=13 then IntKind.wrap .i64 (w7 .u64 (IntKind.wrap .u64 a) (nS b))else if op=14 then w7 .i64 a (nS b)
 else if op=15 then qq (decide (a=b))else if op=16 then qq (!decide (a=b))else if op=17 then qq (decide (a<b))else if op=18 then qq (decide (a<=b))
 else if op=19 then qq (decide (IntKind.wrap .u64 a<IntKind.wrap .u64 b))else 0
def qr(op a b:Int):Int:=
 if op=4 then eK (a+b)else if op=5 then eK (a-b)else if op=6 then eK (a*b)else if op=7 then ss a b else if op=8 then (if b=0 then 0 else eK (a-eK (ss a b*b)))
 else if op=9 then IntKind.wrap .i64 (BitVec.ofInt (IntKind.bits .i64) a &&& BitVec.ofInt (IntKind.bits .i64) b).toNat
 else if op=10 then IntKind.wrap .i64 (BitVec.ofInt (IntKind.bits .i64) a |||BitVec.ofInt (IntKind.bits .i64) b).toNat
 else if op=11 then IntKind.wrap .i64 (BitVec.ofInt (IntKind.bits .i64) a^^^ BitVec.ofInt (IntKind.bits .i64) b).toNat
 else AA op a b
def qs(op a:Int):Int:=if op=20 then eK (0-a)else if op=21 then IntKind.wrap .i64 (BitVec.ofInt (IntKind.bits .i64) (-1)^^^ BitVec.ofInt (IntKind.bits .i64) a).toNat else 0
theorem ND{a:Int}:nF .xor (.int .i64 a)=some (.int .i64 (IntKind.wrap .i64 (BitVec.ofInt (IntKind.bits .i64) (-1)^^^ BitVec.ofInt (IntKind.bits .i64) a).toNat)):=rfl
theorem NE(n:Int):0<=IntKind.wrap .u64 n:=by
 unfold IntKind.wrap;simp only[IntKind.signed,dX,ct,cb];exact Int.emod_nonneg _ (by simp[IntKind.bits])
theorem NF(b:Int):0<=nS b:=NE _
theorem NG{P:Program}{D:BinOp->Sx->Sx->Option Bool}{t:TypeId}{k M:IntKind}{a b:Int}(z:0<=b):zdU P D .shl t (.int k a) (.int M b)=some (.int k (Az k a b)):=by
 obtain⟨m,rfl⟩:=eI z;simp only[zdU,nE];show oB .shl k a (Int.ofNat m)=_;simp[oB,Az]
theorem bin_shr{P:Program}{D:BinOp->Sx->Sx->Option Bool}{t:TypeId}{k M:IntKind}{a b:Int}(z:0<=b):zdU P D .shr t (.int k a) (.int M b)=some (.int k (w7 k a b)):=by
 obtain⟨m,rfl⟩:=eI z;simp only[zdU,nE];show oB .shr k a (Int.ofNat m)=_;simp[oB,w7]
abbrev zdE:=List UInt8
structure MS where
 fuel:Int
 fin:Int
 code:Int
 cells:List (zdE×List Int)
 out:List Int
def en:List (zdE×Int)->zdE->Int
 |[],_=>0
 |p::l,nm=>if nm=p.1 then p.2 else en l nm
def setV:List (zdE×Int)->zdE->Int->List (zdE×Int)
 |[],nm,x=>[(nm,x)]
 |p::l,nm,x=>if nm=p.1 then (nm,x)::l else p::setV l nm x
section
variable (p:Pr) (fi:List (zdE × Int))
end
def cV(vs:List (zdE×Int)):List (AV×AV):=vs.map fun p=>(.str p.1,.int .i64 p.2)
def zdX(l:List Int):List AV:=l.map fun n=>.int .i64 n
theorem uD(l:List Int):(zdX l).length=l.length:=by simp[zdX]
theorem AB(nm:zdE):∀(vs:List (zdE×Int)) (i:Nat),(zek .string (.str nm) (cV vs) i=some none/\en vs nm=0/\∀x,cV (setV vs nm x)=cV vs++[(.str nm,.int .i64 x)]) \/
 ∃j,j<vs.length/\zek .string (.str nm) (cV vs) i=some (some (i+j,.int .i64 (en vs nm)))/\∀x,cV (setV vs nm x)=(cV vs).set j (.str nm,.int .i64 x)
 |[],i=>.inl ⟨rfl,rfl,fun _=>rfl⟩
 |p::l,i=>by
  by_cases h:nm=p.1
  .refine .inr ⟨0,aE,?_,fun x=>?_⟩
   .simp[cV,zek,kZ,en,h]
   .simp[cV,setV,h]
  .have Y:zek .string (.str nm) (cV (p::l)) i=zek .string (.str nm) (cV l) (i+1):=by
    show zek .string (.str nm) ((.str p.1,.int .i64 p.2)::cV l) i=_;have:(nm == p.1)=false:=iW;simp[zek,kZ,this]
   have I:en (p::l) nm=en l nm:=by simp[en,h]
   have K:∀x,cV (setV (p::l) nm x)=(.str p.1,.int .i64 p.2)::cV (setV l nm x):=fun x=>by simp[setV,h,cV]
   rw[Y,I];rcases AB nm l (i+1)with⟨Z,g,m⟩|⟨j,O,Z,m⟩
   .refine .inl ⟨Z,g,fun x=>?_⟩;rw[K,m];simp[cV]
   .refine .inr ⟨j+1,cp,?_,fun x=>?_⟩
    .rw[Z,show i+1+j=i+(j+1) by omega]
    .rw[K,m];simp[cV]
structure Mx where
 p:Pr
 rm:Nat
 rc:Nat
 rf:Nat
 rs:List Nat
 fi:List (zdE×Int)
theorem EJ{P:Program}{H:Hp}{t M e r:Nat}{U:List (AV×AV)}{nm:zdE}{z:AV}(C:P.underlying t=some (.map M e))(j:zfi P M=some .string)(m:nD P e=some z)(A:H.get r=some (.map U)):
 (zek .string (.str nm) U 0=some none->zeY P H t (.map r) (.str nm) false=some z)/\∀i v,zek .string (.str nm) U 0=some (some (i,v))->zeY P H t (.map r) (.str nm) false=some v:=by
 refine⟨fun h=>?_,fun i v h=>?_⟩<;>simp only[zeY,C,j,m,pS,A,h,tG]
theorem AC{P:Program}{H:Hp}{t M e r:Nat}{U:List (AV×AV)}{nm:zdE}{x:AV}(C:P.underlying t=some (.map M e))(j:zfi P M=some .string)(A:H.get r=some (.map U)):
 (zek .string (.str nm) U 0=some none->zfl P H t (.map r) (.str nm) x=some (H.set r (.map (U++[(.str nm,x)]))))/\∀i v,zek .string (.str nm) U 0=some (some (i,v))->zfl P H t (.map r) (.str nm) x=some (H.set r (.map (U.set i (.str nm,x)))):=by
 refine⟨fun h=>?_,fun i v h=>?_⟩<;>simp only[zfl,C,j,A,h]
theorem EK{P:Program}{H:Hp}{t M e r:Nat}(C:P.underlying t=some (.map M e))(Z:zfi P M=some .string)(m:nD P e=some (.int .i64 0)){vs:List (zdE×Int)}(A:H.get r=some (.map (cV vs)))(nm:zdE):
 zeY P H t (.map r) (.str nm) false=some (.int .i64 (en vs nm)):=by
 obtain⟨l1,l2⟩:=EJ (nm:=nm) C Z m A;rcases AB nm vs 0 with⟨i,g,Y⟩|⟨j,O,i,Y⟩
 .rw[l1 i,g]
 .rw[l2 _ _ i]
theorem NH{P:Program}{H:Hp}{t M e r:Nat}(C:P.underlying t=some (.map M e))(Z:zfi P M=some .string){vs:List (zdE×Int)}(A:H.get r=some (.map (cV vs)))(nm:zdE)(x:Int):
 zfl P H t (.map r) (.str nm) (.int .i64 x)=some (H.set r (.map (cV (setV vs nm x)))):=by
 obtain⟨l1,l2⟩:=AC (nm:=nm) (x:=.int .i64 x) C Z A;rcases AB nm vs 0 with⟨i,g,m⟩|⟨j,O,i,m⟩
 .rw[l1 i,m]
 .rw[l2 _ _ i,m,bz]
theorem Sx.beq_refl:∀a:Sx,Sx.beq a a=true
 | .var i=>by simp[Sx.beq]
 | .lit n=>by simp[Sx.beq]
 | .bin o k a b=>by simp[Sx.beq,Sx.beq_refl a,Sx.beq_refl b]
 | .conv k a=>by simp[Sx.beq,Sx.beq_refl a]
mutual
theorem AV.beq_refl:∀a:AV,AV.beq a a=true
 | .int k n=>by simp[AV.beq]
 | .sx k e=>by simp[AV.beq,Sx.beq_refl]
 | .bool b=>by simp[AV.beq]
 | .str s=>by simp[AV.beq]
 | .nilP=>rfl
 | .nilM=>rfl
 | .nilF=>rfl
 | .nilS=>rfl
 | .ptr r o=>by simp[AV.beq]
 | .iptr W=>by simp only[AV.beq];exact jr W
 | .sl r o l z=>by simp[AV.beq]
 | .lst C=>by simp only[AV.beq];exact EL C
 | .map r=>by simp[AV.beq]
 | .clo f W=>by simp only[AV.beq,jr W,jW];simp
 | .agg W=>by simp only[AV.beq];exact jr W
 | .tup W=>by simp only[AV.beq];exact jr W
theorem jr:∀a:List AV,zfd a a=true
 |[]=>rfl
 |a::l=>by simp only[zfd,AV.beq_refl a,jr l,jW]
theorem EL:∀a:List (List AV),pV a a=true
 |[]=>rfl
 |a::l=>by simp only[pV,jr a,EL l,jW]
end
def qt(o:Oper):Bool:=nO o.op||mC o.op
def w8(o:Oper):Bool:=qt o||(match o.op with|.store ..|.mapUpdate ..=>true |_=>false)
def w9(ops:List Oper):Bool:=
 mq ops&&(List.range ops.length).all (fun i=>match ops[i]? with|some o=>if Nat.blt (i+1) ops.length then qt o else w8 o|none=>true)&&(k2 ops).all (fun p=>Nat.blt p.2 ops.length)
section
variable {P:Program} {cfg:Cfg} {f N:Nat}
theorem AD{ih:Task->Res}{C:List Oper}:∀{l:List Oper}{E E':aw}{H H':Hp},ze1 P cfg ih f N C l E H=.done .normal E' H'->∃rs,gH P cfg ih f N C l E H=.done E' H' rs
 |[],E,E',H,H',h=>by
  simp only[ze1,Res.done.injEq,fM]at h;obtain⟨rfl,rfl⟩:=h;exact⟨[],rfl⟩
 |o::l,E,E',H,H',h=>by
  rw[uy]at h;simp only[gH];cases J:jg C E o with
  |true=>
   rw[J]at h;simp only[]at h⊢;cases g:zd4 P cfg ih f E H o.op with
   |val v H1=>
    rw[g]at h;simp only[]at h⊢;cases hp:d9 N E o.dst v with
    |none=>rw[hp]at h;simp[ze5]at h
    |some E1=>
     rw[hp]at h;simp only[ze5]at h;obtain⟨rs,hr⟩:=AD h;exact⟨_,by simp only[zfo,hr,k0];rfl⟩
   |done _ _ _=>rw[g]at h;simp at h
   |fail=>rw[g]at h;simp at h
  |false=>
   rw[J]at h;simp only[]at h⊢;cases hp:d9 N E o.dst zd1 with
   |none=>rw[hp]at h;simp[ze5]at h
   |some E1=>
    rw[hp]at h;simp only[ze5]at h;obtain⟨rs,hr⟩:=AD h;exact⟨_,by simp only[zfo,hr,k0];rfl⟩
theorem AE{ih:Task->Res}{E:aw}{o:Oper}{v:AV}{H H':Hp}(j:qt o=true)(h:zd4 P cfg ih f E H o.op=.val v H'):H'=H:=by
 unfold qt at j;rw[nP]at j;rcases j with j|j
 .have Z:∀c,o.op≠.call c:=fun c e=>by
   rw[e]at j;simp only[nO,zeB]at j;split at j
   .rename_i i;split at i<;>simp at i
   .simp at j
  exact(zW j ((qh Z).1 h)).1
 .exact zX j h
theorem NI{ih:Task->Res}{E:aw}{o:Oper}{v:AV}{H H':Hp}(j:w8 o=true)(h:zd4 P cfg ih f E H o.op=.val v H'):H.next<=H'.next:=by
 unfold w8 at j;rw[nP]at j;rcases j with j|j
 .rw[AE j h];exact aM _
 .obtain⟨Z,i,U,V,W,guard⟩:=o;simp only[]at j h;cases i<;>simp only[ct]at j
  case store t a x=>
   simp only[zd4,cr,vZ]at h;split at h
   .split at h
    .rename_i K;simp only[jR,Res.val.injEq]at h;obtain⟨rfl,rfl⟩:=h;unfold zeP at K;split at K
     .split at K
      .split at K
       .simp only[aA]at K;rw[<-K];exact aM _
       .simp at K
      .simp at K
     .simp at K
    .simp[jR]at h
   .simp[jR]at h
  case mapUpdate t m k x=>
   simp only[zd4,cr,wb]at h;split at h
   .split at h
    .rename_i K;simp only[jR,Res.val.injEq]at h;obtain⟨rfl,rfl⟩:=h;unfold zfl at K;split at K
     .split at K
      .split at K
       .split at K
        .simp only[aA]at K;rw[<-K];exact aM _
        .simp only[aA]at K;rw[<-K];exact aM _
        .simp at K
       .simp at K
      .simp at K
     .simp at K
    .simp[jR]at h
   .simp[jR]at h
theorem NJ{ih ih':Task->Res}{f':FuncId}{E:aw}{op:Op}{H:Hp}(j:mC op=true):zd4 P cfg ih f E H op=zd4 P cfg ih' f' E H op:=by
 cases op<;>simp only[mC,zeB,ct]at j<;>try rfl
 rename_i c;simp only[zd4,oD];cases hc:c.callee with
 |value g=>rw[hc]at j;simp at j
 |invoke g m=>rfl
 |builtin b=>
  rw[hc]at j;simp only[];cases b<;>simp only[ct]at j<;>rfl
theorem NK{ih:Task->Res}{ops:List Oper}{E E':aw}{H H':Hp}(O:w9 ops=true)(h:ze1 P cfg ih f N ops ops E H=.done .normal E' H'):zfj P cfg ih f N ops E H=.done .normal E' H':=by
 unfold w9 at O;simp only[dB,fT,iY]at O;obtain⟨⟨Y,K⟩,W⟩:=O;obtain⟨rs,hr⟩:=AD h;have M:=ug hr;have hlen:=zU M;obtain⟨_,z2⟩:=zV M;have z:∀(i:Nat) o,ops[i]?=some o->i+1<ops.length->qt o=true:=fun i o J C=>by
  have:=K i ac;rw[J]at this;simp only[show Nat.blt (i+1) ops.length=true by simpa [gL]using C,bS]at this;exact this
 have Z:∀i,i+1<=ops.length->zdy rs H' i=H:=fun i=>by
  induction i with
  |zero=>intro _;exact z2
  |succ i ih=>
   intro C;have A:=aO (show i<rs.length by omega);obtain⟨o,J,F⟩:=qg M A;have h1:=ih ac;have h2:zdy rs H' (i+1)=zdy rs H' i:=by
    cases hd:(rs[i]' ac).did with
    |true=>exact AE (z i o J ac) (F.yes hd)
    |false=>exact(F.no hd).2
   rw[h2,h1]
 unfold zfj;rw[Y];simp only[hr];have V:pW P cfg (k2 ops) rs H'=true:=by
  unfold pW;simp only[dB,fT];refine⟨fun r hm=>?_,fun p L=>?_⟩
  .obtain⟨i,C⟩:=z4.1 hm;obtain⟨o,J,F⟩:=qg M C;have U:i<ops.length:=(dJ.1 J).1;rw[F.eH,F.eH'];refine Nat.ble_eq_true_of_le ?_;cases hd:r.did with
   |false=>rw[(F.no hd).2];exact aM _
   |true=>
    by_cases I:i+1<ops.length
    .rw[AE (z i o J I) (F.yes hd)];exact aM _
    .have:=K i U;rw[J]at this;have hb:Nat.blt (i+1) ops.length=false:=by
      cases hx:Nat.blt (i+1) ops.length with
      |false=>rfl
      |true=>exact(I (by simpa [gL]using hx)).elim
     simp only[hb,ct,cb]at this;exact NI this (F.yes hd)
  .have hm:p.2<ops.length:=by simpa [gL]using W p L
   cases hrp:rs[p.1]? with
   |none=>rfl
   |some r=>
    obtain⟨o,J,F⟩:=qg M hrp;have U:p.1<ops.length:=(dJ.1 J).1;simp only[];cases hd:r.did with
    |false=>rfl
    |true=>
     simp only[lj,ji];have hH:r.H=zdy rs H' p.2:=by rw[F.eH,Z _ ac,Z _ ac]
     unfold zcJ;cases j:zeB r.o.op with
     |calm=>rfl
     |act=>rfl
     |read=>
      simp only[];have g:=F.yes hd;rw[<-F.eE,<-F.eo,<-F.eH,hH]at g;rw[NJ (P:=P) (cfg:=cfg) (f:=f) (ih:=ih) (ih':=fun _=>.fail) (f':=0) (by simp[mC,j])]at g;rw[g];simp only[AV.beq_refl]
     |make=>
      exfalso;rw[F.eo]at j;by_cases I:p.1+1<ops.length
      .have:=z _ o J I;unfold qt nO mC at this;rw[j]at this;simp at this
      .have m:=K p.1 U;rw[J]at m;have hb:Nat.blt (p.1+1) ops.length=false:=by
        cases hx:Nat.blt (p.1+1) ops.length with
        |false=>rfl
        |true=>exact(I (by simpa [gL]using hx)).elim
       simp only[hb,ct,cb,w8,qt,nO,mC,j,Bool.or_self,ji]at m;split at m
       .rename_i g;rw[g]at j;simp[zeB]at j
       .rename_i g;rw[g]at j;simp[zeB]at j
       .simp at m
 rw[V]
theorem zdr.draw{id:Nat}{ops:List Oper}{l:List SOp}{E:aw}{H:Hp}{Q:AX->aw->Hp->Prop}(W:cfg.plan f id=.text)(V:w9 ops=true)(Z:zc9 N ops ops=some l)
 (h:∀K:aw->Hp->Prop,(∀E' H',Q .normal E' H'->K E' H')->aC P cfg f l E H K):zdr P cfg f N (.draw id ops) E H Q:=by
 unfold zdr;intro code hc;cases code with
 |region Y o draw=>
  cases draw with
  |false=>simp only[aB,zda]at hc;split at hc<;>simp at hc
  |true=>
   simp only[aB,SC.draw.injEq]at hc;obtain⟨rfl,rfl⟩:=hc;obtain⟨n,E',H',i,g⟩:=aC.run Z (h (Q .normal) fun _ _ h=>h);refine⟨_,_,_,zdL.draw (n:=n) (r:=.done .normal E' H') ?_ aE,g⟩;rw[W];simp only[ze0];exact NK V i
 |_=>simp[aB]at hc
end
section
variable {P:Program} {H:Hp} {t u e:TypeId} {keep:Bool}
theorem NL{D:BinOp->Sx->Sx->Option Bool}{t:TypeId}{s u:List UInt8}:zdU P D .leq t (.str s) (.str u)=some (.bool (oA s u||s == u)):=rfl
theorem lX{r o n z s:Nat}{cs:List AV}{imm:Nat}{tip:Bool}(A:H.get r=some (.cells cs imm tip))(I:((cs.drop o).take (n*s)).length=n*s):zeN H s (.sl r o n z)=some (n,(cs.drop o).take (n*s)):=by
 unfold zeN;simp only[A,I,bS]
theorem AF{k:IntKind}{s:List UInt8}{m:Nat}(C:P.underlying t=some .string)(M:m<=s.length):zeF P t (.str s) none (some (.int k (m:Int)))=some (.str (s.take m)):=by
 show zeF P t (.str s) none (some (.int k (Int.ofNat m)))=_;simp[zeF,C,yL,M]
theorem EM{k:IntKind}{s:List UInt8}{m:Nat}(C:P.underlying t=some .string)(M:m<=s.length):zeF P t (.str s) (some (.int k (m:Int))) none=some (.str (s.drop m)):=by
 show zeF P t (.str s) (some (.int k (Int.ofNat m))) none=_;simp only[zeF,C,yL];rw[ay ⟨M,aM _⟩];rw[eF aE]
theorem append_nil{s b n:Nat}{z L:List AV}{x:AV}(C:P.underlying t=some (.slice e))(K:zc8 P e=some s)(Z:zdz P e=some b)(m:zdq P e=some z)(I:kw P u=true)
 (F:zeN H s x=some (n+1,L)) (W:L.all AV.one=true) (M:z.length=s) (h1:(n+1)*b<=zef) (h2:n+1<=zef) :
 zen P keep H t u .nilS x=some (.sl H.next 0 (n+1) s,H.alloc (.cells L 0 true)):=by
 simp only[zen,C,K,Z,m,I,F,W,M,mH,bS,gh,zfz,h1,h2]
theorem AG{s b n r len:Nat}{z L cs:List AV}{x:AV}(C:P.underlying t=some (.slice e))(K:zc8 P e=some s)(Z:zdz P e=some b)(m:zdq P e=some z)(I:kw P u=true)
 (F:zeN H s x=some (n+1,L)) (W:L.all AV.one=true) (M:z.length=s) (A:H.get r=some (.cells cs 0 true)) (V:cs.length=len*s) (h1:(len+(n+1))*b<=zef) (h2:len+(n+1)<=zef) :
 zen P false H t u (.sl r 0 len s) x=some (.sl H.next 0 (len+(n+1)) s,(H.kill r).alloc (.cells (cs++L) 0 true)):=by
 have Y:gh false H s (.sl r 0 len s)=H:=by
  unfold gh;simp only[A,bz];have:Nat.blt (len*s) cs.length=false:=by
   cases Z:Nat.blt (len*s) cs.length with
   |false=>rfl
   |true=>rw[gL]at Z;omega
  simp[this]
 simp only[zen,C,K,Z,m,I,F,W,M,mH,bS,Y,zfz,A,h1,h2,bz,V,cN,kC,dW,ct,cb]
end
theorem NM(E:aw):zcV E (.const (.slice none 0 0))=some .nilS:=rfl
theorem EN(E:aw):zcV E (.const (.map none))=some .nilM:=rfl
def fw:List (zdE×Int)->zdE->Bool
 |[],_=>false
 |p::l,nm=>if nm=p.1 then true else fw l nm
structure Oc where
 kind:Int
 code:Int
 out:List Int
 value:Int
theorem AH(nm:zdE):∀(vs:List (zdE×Int)) (i:Nat),(fw vs nm=false->zek .string (.str nm) (cV vs) i=some none/\en vs nm=0)/\(fw vs nm=true->∃j,zek .string (.str nm) (cV vs) i=some (some (j,.int .i64 (en vs nm))))
 |[],i=>⟨fun _=>⟨rfl,rfl⟩,fun h=>by simp[fw]at h⟩
 |p::l,i=>by
  by_cases h:nm=p.1
  .refine⟨fun g=>by simp[fw,h]at g,fun _=>⟨i,?_⟩⟩;simp[cV,zek,kZ,en,h]
  .have Z:zek .string (.str nm) (cV (p::l)) i=zek .string (.str nm) (cV l) (i+1):=by
    show zek .string (.str nm) ((.str p.1,.int .i64 p.2)::cV l) i=_;have:(nm == p.1)=false:=iW;simp[zek,kZ,this]
   have I:en (p::l) nm=en l nm:=by simp[en,h]
   have Y:fw (p::l) nm=fw l nm:=by simp[fw,h]
   rw[Z,I,Y];exact AH nm l (i+1)
theorem EO{P:Program}{H:Hp}{t M e r:Nat}(C:P.underlying t=some (.map M e))(Z:zfi P M=some .string)(m:nD P e=some (.int .i64 0)){vs:List (zdE×Int)}(A:H.get r=some (.map (cV vs)))(nm:zdE):
 zeY P H t (.map r) (.str nm) true=some (.tup [.int .i64 (en vs nm),.bool (fw vs nm)]):=by
 obtain⟨i,g⟩:=AH nm vs 0;cases Y:fw vs nm with
 |false=>
  obtain⟨W,V⟩:=i Y;simp only[zeY,C,Z,m,pS,A,W,tG,V]
 |true=>
  obtain⟨j,W⟩:=g Y;simp only[zeY,C,Z,pS,A,W,tG]
end Go.Ab
namespace Go.Proofs.YtljebeflbbgibaaGreat
set_option maxRecDepth 20000
open Go Go.Ab
structure S9 where
 cells:List (List Int)
 out:List Int
 fuel:Int
 ed:Int
 code:Int
 last:Int
structure R9 where
 k:Bool
 v:Int
 s:Option S9
def zfK:R9:=⟨false,0,none⟩
def R9.known(r:R9):R9:={r with k:=true}
def zd8(Z:List R9)(k:Int):Option R9:=if 0<=k then Z[k.toNat]? else none
def eR(Z:List R9)(n:Nd)(j:Nat):Option R9:=n.kids[j]?.bind (zd8 Z)
def lY(Z:List R9):List Int->Option Int
 |[]=>some (-1)
 |k::l=>(zd8 Z k).bind fun r=>if r.k=true then lY Z l else some k
def oO(Z:List R9)(n:Nd):Option Int:=(eR Z n 0).bind fun r=>if r.v≠0 then n.kids[1]? else n.kids[2]?
def uE(Z:List R9)(n:Nd):Option Int:=
 if n.op=31 then none
 else if n.op=22 then n.kids[0]?.bind fun c=>(zd8 Z c).bind fun r=>if r.k=true then (oO Z n).bind fun k=>(zd8 Z k).bind fun t=>some (if t.k=true then -1 else k)else some c
 else if n.op=27\/n.op=29\/n.op=30 then (eR Z n 0).bind fun r=>if r.k=true then r.s.bind fun s=>if s.ed≠0 then some (-1)else lY Z n.kids else lY Z n.kids
 else lY Z n.kids
def AI(s:S9)(a i:Int):Option Int:=if 0<=a then s.cells[a.toNat]?.bind fun l=>some (if i<0\/(l.length:Int)<=i then 0 else l.getD i.toNat 0)else none
def qu(s:S9)(a i v:Int):Option S9:=if 0<=a then s.cells[a.toNat]?.bind fun l=>some (if i<0\/(l.length:Int)<=i then s else {s with cells:=s.cells.set a.toNat (l.set i.toNat v) })else none
def nU(start:S9)(Z:List R9)(n:Nd):Option S9:=
 if n.op=26 then some start else
 (eR Z n 0).bind fun r=>r.s.bind fun s=>
   if n.op=28 then (eR Z n 1).bind fun a=>(eR Z n 2).bind fun b=>qu s n.imm a.v b.v
   else if s.ed≠0 then some s
   else if n.op=27 then (eR Z n 1).bind fun a=>some (if a.v≠0 then s else {s with ed:=2,code:=n.imm})
   else if n.op=29 then (eR Z n 1).bind fun a=>some {s with out:=a.v::s.out}
   else none
def ig(start:S9)(args:List Int)(Z:List R9)(n:Nd):Option R9:=
 if n.op=1 then some ⟨false,n.imm,none⟩
 else if n.op=2 then (if 0<=n.imm then args[n.imm.toNat]?.bind fun v=>some ⟨false,v,none⟩else none)
 else if n.op=3\/n.op=25\/n.op=30\/n.op=31 then none
 else if n.op=22 then (oO Z n).bind (zd8 Z)
 else if n.op=23 then (eR Z n 0).bind fun r=>r.s.bind fun s=>(eR Z n 1).bind fun a=>(AI s n.imm a.v).bind fun v=>some ⟨false,v,none⟩
 else if n.op=24 then (eR Z n 0).bind fun r=>r.s.bind fun s=>some ⟨false,s.last,none⟩
 else if n.op=20\/n.op=21 then (eR Z n 0).bind fun r=>some ⟨false,qs n.op r.v,none⟩
 else if n.op=26\/n.op=27\/n.op=28\/n.op=29 then (nU start Z n).bind fun s=>some ⟨false,0,some s⟩
 else (eR Z n 0).bind fun a=>(eR Z n 1).bind fun b=>some ⟨false,qr n.op a.v b.v,none⟩
def zeE(l:List Nd)(start:S9)(args:List Int):Nat->List R9->List Int->Option (List R9)
 |0,_,_=>none
 |_+1,res,[]=>some res
 |n+1,res,i::st=>(zd8 res i).bind fun r=>
  if r.k=true then zeE l start args n res st
  else l[i.toNat]?.bind fun K=>(uE res K).bind fun k=>
   if 0<=k then (if st.length<2^20 then zeE l start args n res (k::i::st)else none)
   else (ig start args res K).bind fun t=>zeE l start args n (res.set i.toNat t.known) (i::st)
def su(z:List UInt8)(k:Nat):List Gr->Nat->Int->Int
 |[],_,f=>f
 |g::l,i,f=>su z k l (i+1) (if g.name=z/\g.params=k then (i:Int)else f)
def EP(z:List Ar)(i:Int):S9:=⟨z.map fun a=>List.replicate a.len.toNat 0,[],i,0,0,0⟩
def lZ(s:S9)(v:Int):Oc:=if s.ed=2 then ⟨2,s.code,s.out.reverse,0⟩else if s.ed=0 then ⟨1,0,s.out.reverse,v⟩else ⟨s.ed,0,s.out.reverse,0⟩
def AJ(n m:Nat)(g:Gr)(start:S9)(args:List Int):Option Oc:=
 (zeE g.nodes start args n (List.replicate g.nodes.length zfK) [g.state]).bind fun res=>(zd8 res g.state).bind fun r=>r.s.bind fun s=>
   if s.ed=0 then (zeE g.nodes start args m res [g.value]).bind fun O=>(zd8 O g.value).bind fun t=>some (lZ s t.v)
   else some (lZ s 0)
end Go.Proofs.YtljebeflbbgibaaGreat
namespace Go.Ab
set_option maxRecDepth 20000
open Go
structure Rc where
 op:Op
 did:Bool
 E:aw
 H:Hp
 val:AV
 H':Hp
section
variable (P:Program) (cfg:Cfg) (f:FuncId)
def dy:List SOp->List Rc->aw->Hp->(List Rc->aw->Hp->Prop)->Prop
 |[],tr,E,H,Q=>Q tr E H
 |o::l,tr,E,H,Q=>match o.g with
  |none=>fN P cfg f o.op E H fun v H'=>dy l (tr++[⟨o.op,true,E,H,v,H'⟩]) (zc5 E o.d v) H' Q
  |some (s,b)=>(E.at s=.bool b/\fN P cfg f o.op E H fun v H'=>dy l (tr++[⟨o.op,true,E,H,v,H'⟩]) (zc5 E o.d v) H' Q)\/((E.at s=.bool (!b)\/E.at s=zd1)/\dy l (tr++[⟨o.op,false,E,H,zd1,H⟩]) (zc5 E o.d zd1) H Q)
def uF(j:List Rc)(H':Hp)(m:Nat):Hp:=match j[m]? with
 |some r=>r.H
 |none=>H'
def mM(r:Rc)(H:Hp):Prop:=match zeB r.op with
 | .read=>∃Z,zd4 P cfg (fun _=>.fail) 0 r.E H r.op=.val r.val Z
 | .make=>∃b,H.get r.H.next=some b/\r.H'.get r.H.next=some b
 |_=>True
def xb(j:List Rc)(H':Hp)(i m:Nat):Prop:=match j[i]? with
 |some r=>r.did=true->mM P cfg r (uF j H' m)
 |none=>True
def nV(V:List (Nat×Nat))(j:List Rc)(H':Hp):Prop:=(∀r∈j,r.H.next<=r.H'.next)/\∀p∈V,xb P cfg j H' p.1 p.2
end
section
variable {P:Program} {cfg:Cfg} {f N:Nat}
def qv(r:Rec):Rc:=⟨r.o.op,r.did,r.E,r.H,r.val,r.H'⟩
theorem HB.beq_refl(b:HB):HB.beq b b=true:=by
 cases b with
 |cells a i t=>simp[HB.beq,jr]
 |map U=>simp[HB.beq,jr]
theorem dy.run{C:List Oper}{Q:List Rc->aw->Hp->Prop}:∀{l:List Oper}{r:List SOp}{j:List Rc}{E:aw}{H:Hp},zc9 N C l=some r->dy P cfg f r j E H Q ->
 ∃n E' H' rs,gH P cfg (ev P cfg n) f N C l E H=.done E' H' rs/\Q (j++rs.map qv) E' H'
 |[],r,j,E,H,hs,K=>by
  simp only[zc9,aA]at hs;subst hs;unfold dy at K;exact⟨0,E,H,[],rfl,wt⟩
 |o::l,r,j,E,H,hs,K=>by
  simp only[zc9]at hs;split at hs
  .rename_i d g r' i h2 O;simp only[aA]at hs;subst hs;obtain⟨zeU,L⟩:=Ek (E:=E) h2;have z:∀k k',k<=k'->zeQ (ev P cfg k) (ev P cfg k'):=fun k k' F t ht=>Av F ht;have Z:fN P cfg f o.op E H (fun v H'=>dy P cfg f r' (j++[⟨o.op,true,E,H,v,H'⟩]) (zc5 E d v) H' Q)->jg C E o=true->∃n E' H' rs,gH P cfg (ev P cfg n) f N C (o::l) E H=.done E' H' rs/\Q (j++rs.map qv) E' H':=fun U Y=>by
    unfold fN at U;obtain⟨n,v,H1,I,g2⟩:=U;obtain⟨m,M,V,rs,W,J⟩:=dy.run O g2;refine⟨max n m,M,V,⟨o,true,E,H,v,H1⟩::rs,?_,by simpa [qv]using J⟩;simp only[gH,Y];rw[wS (z n (max n m) (wQ _ _)) (by rw[I];simp),I];simp only[wW i,zfo];rw[wU (z m (max n m) (wR _ _)) (by rw[W];simp),W];rfl
   unfold dy at K;cases A:g with
   |none=>
    rw[A]at K;exact Z K (zeU A)
   |some sb=>
    obtain⟨s,b⟩:=sb;rw[A]at K;simp only[]at K;rcases K with⟨e,K⟩|⟨e,K⟩
    .exact Z K ((L s b A).1 e)
    .obtain⟨m,M,V,rs,W,J⟩:=dy.run O K;refine⟨m,M,V,⟨o,false,E,H,zd1,H⟩::rs,?_,by simpa [qv]using J⟩;simp only[gH,(L s b A).2 e,wW i,zfo,W,k0]
  .simp at hs
theorem NN{V:List (Nat×Nat)}{rs:List Rec}{H':Hp}(h:nV P cfg V (rs.map qv) H'):pW P cfg V rs H'=true:=by
 unfold pW;simp only[dB,fT];refine⟨fun r Z=>Nat.ble_eq_true_of_le (h.1 _ (mE.2 ⟨r,Z,rfl⟩)),fun p hp=>?_⟩;have K:=h.2 p hp;have M:uF (rs.map qv) H' p.2=zdy rs H' p.2:=by
  unfold uF zdy;rw[ea];cases rs[p.2]? <;>rfl
 unfold xb at K;rw[ea,M]at K;cases hr:rs[p.1]? with
 |none=>rfl
 |some r=>
  rw[hr]at K;simp only[jy,qv]at K;simp only[nP,lS];cases hd:r.did with
  |false=>exact .inl rfl
  |true=>
   right
   have K:=K hd;unfold mM at K;unfold zcJ;cases j:zeB r.o.op with
   |calm=>rfl
   |act=>rfl
   |read=>
    rw[j]at K;simp only[]at K⊢;obtain⟨Y,g⟩:=K;rw[g];exact AV.beq_refl _
   |make=>
    rw[j]at K;simp only[]at K⊢;obtain⟨b,i,g⟩:=K;rw[i,g];exact HB.beq_refl b
theorem EQ{id:Nat}{ops C:List Oper}{l:List SOp}{V:List (Nat×Nat)}{E:aw}{H:Hp}{Q:AX->aw->Hp->Prop}
 (W:∀ih:Task->Res,ze0 P cfg ih f N E H (cfg.plan f id) ops=zfj P cfg ih f N C E H) (Z:mq C=true) (Y:zc9 N C C=some l) (U:k2 C=V)
 (h:∀K:List Rc->aw->Hp->Prop,(∀j E' H',nV P cfg V j H'->Q .normal E' H'->K j E' H')->dy P cfg f l [] E H K):zdr P cfg f N (.draw id ops) E H Q:=by
 unfold zdr;intro code hc;cases code with
 |region M o draw=>
  cases draw with
  |false=>simp only[aB,zda]at hc;split at hc<;>simp at hc
  |true=>
   simp only[aB,SC.draw.injEq]at hc;obtain⟨rfl,rfl⟩:=hc;obtain⟨n,E',H',rs,i,g,m⟩:=dy.run Y (h (fun j E' H'=>nV P cfg V j H'/\Q .normal E' H') fun _ _ _ h O=>⟨h,O⟩);refine⟨_,_,_,zdL.draw (n:=n) (r:=.done .normal E' H') ?_ aE,m⟩;rw[W];unfold zfj;rw[Z];simp only[i];rw[U,NN (by simpa using g)]
 |_=>simp[aB]at hc
theorem NO{id:Nat}{ops:List Oper}{l:List SOp}{V:List (Nat×Nat)}{E:aw}{H:Hp}{Q:AX->aw->Hp->Prop}(W:cfg.plan f id=.text)(Z:mq ops=true)(Y:zc9 N ops ops=some l)(o:k2 ops=V)
 (h:∀K:List Rc->aw->Hp->Prop,(∀j E' H',nV P cfg V j H'->Q .normal E' H'->K j E' H')->dy P cfg f l [] E H K):zdr P cfg f N (.draw id ops) E H Q:=
 EQ (fun ih=>by rw[W];rfl) Z Y o h
theorem NP{id:Nat}{ops:List Oper}{Y:List Nat}{l:List SOp}{V:List (Nat×Nat)}{E:aw}{H:Hp}{Q:AX->aw->Hp->Prop}(W:cfg.plan f id=.perm Y)(z:tS Y ops=true)(Z:mq (zeH Y ops)=true)(U:zc9 N (zeH Y ops) (zeH Y ops)=some l)(o:k2 (zeH Y ops)=V)
 (h:∀K:List Rc->aw->Hp->Prop,(∀j E' H',nV P cfg V j H'->Q .normal E' H'->K j E' H')->dy P cfg f l [] E H K):zdr P cfg f N (.draw id ops) E H Q:=
 EQ (fun ih=>by rw[W];simp only[ze0,z]) Z U o h
theorem dy.nil{j:List Rc}{E:aw}{H:Hp}{Q:List Rc->aw->Hp->Prop}(h:Q j E H):dy P cfg f [] j E H Q:=h
theorem dy.step{d:Nat}{op:Op}{l:List SOp}{j:List Rc}{E:aw}{H:Hp}{Q:List Rc->aw->Hp->Prop}
 (h:aC P cfg f [⟨some d,op,none⟩] E H fun E' H'=>dy P cfg f l (j++[⟨op,true,E,H,E'.at d,H'⟩]) E' H' Q):dy P cfg f (⟨some d,op,none⟩::l) j E H Q:=by
 unfold aC at h;simp only[]at h;unfold dy;refine fN.mono (fun v H' K=>?_) h;unfold aC at K;have:(zc5 E (some d) v).at d=v:=Eb;rw[this]at K;exact K
def b4:=@dy.step
theorem zfc{op:Op}{l:List SOp}{j:List Rc}{E:aw}{H:Hp}{Q:List Rc->aw->Hp->Prop}(Z:zeB op=.act)
 (h:aC P cfg f [⟨none,op,none⟩] E H fun E' H'=>∀v,dy P cfg f l (j++[⟨op,true,E,H,v,H'⟩]) E' H' Q):dy P cfg f (⟨none,op,none⟩::l) j E H Q:=by
 unfold aC at h;simp only[]at h;unfold dy;refine fN.mono (fun v H' K=>?_) h;unfold aC at K;exact K v
theorem dy.guard{d:Option Nat}{op:Op}{s:Nat}{b t:Bool}{l:List SOp}{j:List Rc}{E:aw}{H:Hp}{Q:List Rc->aw->Hp->Prop}(h:E.at s=.bool t)(h1:t=b->dy P cfg f (⟨d,op,none⟩::l) j E H Q)(h2:t=!b->dy P cfg f l (j++[⟨op,false,E,H,zd1,H⟩]) (zc5 E d zd1) H Q):
 dy P cfg f (⟨d,op,some (s,b)⟩::l) j E H Q:=by
 unfold dy;simp only[];by_cases e:t=b
 .left
  refine⟨by rw[h,e],?_⟩;have:=h1 e;unfold dy at this;exact this
 .right
  have A:t=!b:=by cases t<;>cases b<;>simp_all
  exact⟨.inl (by rw[h,A]),h2 A⟩
theorem NQ{t:TypeId}{x:Operand}{E:aw}{zdw Y H:Hp}{v a:AV}(h:zcV E x=some a)(h1:zep P H t a=some v):mM P cfg ⟨.load t x,true,E,zdw,v,Y⟩ H:=
 ⟨H,by simp only[zd4,cr,tL,Go.Ab.ret,h,h1,jR]⟩
theorem NR{t:TypeId}{x y:Operand}{ok:Bool}{E:aw}{zdw Y H:Hp}{v a b:AV}(h:zcV E x=some a)(h1:zcV E y=some b)(h2:zeY P H t a b ok=some v):mM P cfg ⟨.lookup t x y ok,true,E,zdw,v,Y⟩ H:=
 ⟨H,by simp only[zd4,cr,tQ,Go.Ab.ret,h,h1,h2,jR]⟩
theorem NS{t:TypeId}{x:Operand}{E:aw}{zdw Y H:Hp}{v a:AV}(h:zcV E x=some a)(h1:zdu P H t a=some v):mM P cfg ⟨.call ⟨.builtin .len,#[x],#[t]⟩,true,E,zdw,v,Y⟩ H:=
 ⟨H,by simp only[zd4,oD,zeM,h,mp,h1,jR]⟩
theorem NT{s t:TypeId}{x:Operand}{E:aw}{zdw Y H:Hp}{v a:AV}(h:zcV E x=some a)(h1:ze3 P H s t a=some v):mM P cfg ⟨.convert s t x,true,E,zdw,v,Y⟩ H:=
 ⟨H,by simp only[zd4,cr,tM,Go.Ab.ret,h,h1,jR]⟩
theorem NU{t:TypeId}{x:Operand}{lo C:Option Operand}{O L:Option AV}{E:aw}{zdw Y H:Hp}{v a:AV}(h:zcV E x=some a)(h1:ze4 E lo=some O)(h2:ze4 E C=some L)(m:kY P H t a O L=some v):mM P cfg ⟨.slice t x lo C none,true,E,zdw,v,Y⟩ H:=
 ⟨H,by simp only[zd4,cr,tP,Go.Ab.ret,h,h1,h2,m,jR]⟩
theorem NV{op:Op}{E:aw}{zdw Y H:Hp}{v:AV}{b:HB}(j:zeB op=.make)(h:H.get zdw.next=some b)(h2:Y.get zdw.next=some b):mM P cfg ⟨op,true,E,zdw,v,Y⟩ H:=by
 unfold mM;rw[j];exact⟨b,h,h2⟩
theorem NW{j:List Rc}{H':Hp}{i m:Nat}{r:Rc}(h:j[i]?=some r)(K:r.did=true->mM P cfg r (uF j H' m)):xb P cfg j H' i m:=by
 unfold xb;rw[h];exact K
end
section
variable {P:Program} {cfg:Cfg} {f:FuncId} {l:List SOp} {E:aw} {H:Hp} {Q:aw -> Hp -> Prop} {d:Nat} {x y:Operand} {ts:Array TypeId} {k k':IntKind} {a b:Int}
theorem aC.min2(h:zcV E x=some (.int k a))(h1:zcV E y=some (.int k' b))(j:aC P cfg f l (T.set E d (some (.int k (min a b)))) H Q):aC P cfg f (⟨some d,.call ⟨.builtin .min,#[x,y],ts⟩,none⟩::l) E H Q:=
 wY (c:=⟨.builtin .min,#[x,y],ts⟩) rfl (vs:=[.int k a,.int k' b]) Aq (v:=.int k (min a b)) (by
  simp only[mp,oC,mm,ct,cb,jz]
  congr 3;omega) j
theorem aC.max2(h:zcV E x=some (.int k a))(h1:zcV E y=some (.int k' b))(j:aC P cfg f l (T.set E d (some (.int k (max a b)))) H Q):aC P cfg f (⟨some d,.call ⟨.builtin .max,#[x,y],ts⟩,none⟩::l) E H Q:=
 wY (c:=⟨.builtin .max,#[x,y],ts⟩) rfl (vs:=[.int k a,.int k' b]) Aq (v:=.int k (max a b)) (by
  simp only[mp,oC,mm,bS,jz]
  congr 3;omega) j
end
attribute [irreducible] dy
def ee(v:AV):Prop:=∃k,∀m,k<=m->∀H,iceV H m v=some v
def eS(l:List AV):Prop:=∀v∈l,ee v
theorem eS.nil:eS []:=fun _ h=>iX
theorem eS.cons{v:AV}{l:List AV}(h:ee v)(I:eS l):eS (v::l):=fun w J=>by
 rcases fk.1 J with rfl|J
 .exact h
 .exact I _ J
theorem eS.bound:∀{l:List AV},eS l->∃k,∀m,k<=m->∀H,iceL (iceV H m) l=some l
 |[],_=>⟨0,fun _ _ _=>rfl⟩
 |v::l,h=>by
  obtain⟨k1,i⟩:=h v e8;obtain⟨zdp,g⟩:=eS.bound (l:=l) fun w J=>h w (fl _ J)
  exact⟨max k1 zdp,fun m M H=>by simp only[iceL,i m ac H,g m ac H]⟩
theorem ER:∀{l:List (List AV)},(∀A∈l,eS A)->∃k,∀m,k<=m->∀H,oH (iceV H m) l=some l
 |[],_=>⟨0,fun _ _ _=>rfl⟩
 |v::l,h=>by
  obtain⟨k1,i⟩:=(h v e8).bound;obtain⟨zdp,g⟩:=ER (l:=l) fun w J=>h w (fl _ J)
  exact⟨max k1 zdp,fun m M H=>by simp only[oH,i m ac H,g m ac H]⟩
theorem ee.one{v:AV}(h:∀m H,iceV H (m+1) v=some v):ee v:=⟨1,fun m M H=>by
 obtain⟨m,rfl⟩:∃k,m=k+1:=⟨m-1,ac⟩;exact h m H⟩
theorem ee.int(k:IntKind)(n:Int):ee (.int k n):=.one fun _ _=>rfl
theorem ee.bool(b:Bool):ee (.bool b):=.one fun _ _=>rfl
theorem ee.str(s:List UInt8):ee (.str s):=.one fun _ _=>rfl
theorem ee.nilS:ee .nilS:=.one fun _ _=>rfl
theorem ee.lst{l:List (List AV)}(h:∀A∈l,eS A):ee (.lst l):=by
 obtain⟨k,j⟩:=ER h;refine⟨k+1,fun m M H=>?_⟩;obtain⟨m,rfl⟩:∃k,m=k+1:=⟨m-1,ac⟩;simp only[iceV,j m ac H]
theorem ee.agg{l:List AV}(h:eS l):ee (.agg l):=by
 obtain⟨k,j⟩:=h.bound;refine⟨k+1,fun m M H=>?_⟩;obtain⟨m,rfl⟩:∃k,m=k+1:=⟨m-1,ac⟩;simp only[iceV,j m ac H]
theorem ee.tup{l:List AV}(h:eS l):ee (.tup l):=by
 obtain⟨k,j⟩:=h.bound;refine⟨k+1,fun m M H=>?_⟩;obtain⟨m,rfl⟩:∃k,m=k+1:=⟨m-1,ac⟩;simp only[iceV,j m ac H]
theorem ee.map{M:Type}{l:List M}{f:M->List AV}(h:∀x∈l,eS (f x)):ee (.lst (l.map f)):=.lst fun A hr=>by
 obtain⟨x,F,rfl⟩:=mE.1 hr;exact h x F
theorem ET{args:List AV}(h:eS args):∃k,nG k args=true:=by
 obtain⟨k,j⟩:=h.bound;exact⟨k,by unfold nG;rw[j k (aM _) zdw];exact jr args⟩
theorem NX{P:Program}{cfg:Cfg}(fit:Fit P){ρ:Nat->Int}(L:kA cfg.dec ρ)(O:∀f args r,cfg.call f args=some r->bh P ρ f args r){g:FuncId}{args:List AV}{r:AV}
 (V:eS args) (hr:ee r) (h:zc2 P cfg g args zdw fun v _=>v=r):bh P ρ g args r:=by
 obtain⟨k,j⟩:=ET V;obtain⟨m,M⟩:=hr;exact Er (m:=m) fit L O j (aZ (fun v H' e=>by rw[e];exact M m (aM _) H') h)
theorem zfE{P:Program}{cfg:Cfg}(fit:Fit P){ρ:Nat->Int}(L:kA cfg.dec ρ)(O:∀f args r,cfg.call f args=some r->bh P ρ f args r){g:FuncId}{args:List AV}{r:AV}{m:Nat}
 (V:eS args) (h:zc2 P cfg g args zdw fun v H'=>iceV H' m v=some r):bh P ρ g args r:=by
 obtain⟨k,j⟩:=ET V;exact Er (m:=m) fit L O j h
structure En where
 f:FuncId
 ice:Bool
 sp:List AV->Option AV
def zdS:List En->FuncId->List AV->Option AV
 |[],_,_=>none
 |e::l,f,args=>match Nat.beq e.f f with
  |true=>e.sp args
  |false=>zdS l f args
def iF:List En->FuncId->Bool
 |[],_=>false
 |e::l,f=>match Nat.beq e.f f with
  |true=>e.ice
  |false=>iF l f
noncomputable def zcW(pls:List (Nat×Nat×Plan))(l:List En):Cfg:={keep:=fun _=>false,call:=zdS l,ice:=iF l,plan:=uu pls}
def zdF(P:Program)(ρ:Nat->Int)(e:En):Prop:=∀args r,e.sp args=some r->bh P ρ e.f args r
def fb(P:Program)(ρ:Nat->Int):List En->Prop
 |[]=>True
 |e::l=>zdF P ρ e/\fb P ρ l
theorem fb.look{P:Program}{ρ:Nat->Int}:∀{l:List En},fb P ρ l->∀f args r,zdS l f args=some r->bh P ρ f args r
 |[],_,_,_,_,h=>by simp[zdS]at h
 |e::l,hl,f,args,r,h=>by
  simp only[zdS]at h;split at h
  .rename_i j;rw[<-gK j];exact hl.1 args r h
  .exact fb.look hl.2 f args r h
noncomputable def b0{M:Type}(ok:M->Prop)(enc:M->List AV)(out:M->AV)(args:List AV):Option AV:=open Classical in
 if h:∃x,ok x/\enc x=args then some (out (Classical.choose h))else none
theorem AK{M:Type}{ok:M->Prop}{enc:M->List AV}{out:M->AV}(J:∀x y,enc x=enc y->x=y){x:M}(F:ok x):b0 ok enc out (enc x)=some (out x):=by
 unfold b0;have h:∃y,ok y/\enc y=enc x:=⟨x,F,rfl⟩;rw[dif_pos h];rw[J _ _ (As h).2]
theorem EU{M:Type}{ok:M->Prop}{enc:M->List AV}{out:M->AV}{args:List AV}(h:∀x,ok x->enc x≠args):b0 ok enc out args=none:=by
 unfold b0;rw[dif_neg];rintro⟨x,F,e⟩;exact h x F e
theorem zdM{P:Program}{ρ:Nat->Int}{M:Type}{ok:M->Prop}{f:FuncId}{ice:Bool}{enc:M->List AV}{out:M->AV}(h:∀x,ok x->bh P ρ f (enc x) (out x)):zdF P ρ ⟨f,ice,b0 ok enc out⟩:=fun args r hr=>by
 change b0 ok enc out args=some r at hr;unfold b0 at hr;split at hr
 .rename_i F;simp only[aA]at hr;subst hr;have:=h (Classical.choose F) (As F).1;rw[(As F).2]at this;exact this
 .simp at hr
attribute [irreducible] b0
theorem AL{P:Program}{cfg:Cfg}{g:FuncId}{args:List AV}{r:AV}{H:Hp}(h:cfg.call g args=some r):zc2 P cfg g args H fun v H'=>v=r/\H'=H:=zc2.known h ⟨rfl,rfl⟩
theorem zdW{P:Program}{pls:List (Nat×Nat×Plan)}{l:List En}{M:Type}{ok:M->Prop}{enc:M->List AV}{out:M->AV}(J:∀x y,enc x=enc y->x=y){g:FuncId}{x:M}(I:zdS l g (enc x)=b0 ok enc out (enc x))(F:ok x){H:Hp}:
 zc2 P (zcW pls l) g (enc x) H fun v H'=>v=out x/\H'=H:=AL Ec
theorem NY{P:Program}{pls:List (Nat×Nat×Plan)}{l:List En}{M:Type}{ok:M->Prop}{enc:M->List AV}{out:M->AV}(J:∀x y,enc x=enc y->x=y){g:FuncId}{x:M}(I:∀Z,zdS l g Z=b0 ok enc out Z)(C:iF l g=true)(F:ok x){args:List AV}{H H':Hp}
 (o:∀y,ok y->enc y≠args) (Y:ir (fB 100) args H=some (enc x,H')) :
 zc2 P (zcW pls l) g args H fun v W=>v=out x/\W=H':=Ep (by show zdS l g args=none;rw[I];exact EU o) C rfl Y Ec ⟨rfl,rfl⟩
theorem zdZ{P:Program}{ρ:Nat->Int}(fit:Fit P){pls:List (Nat×Nat×Plan)}{l:List En}(I:fb P ρ l){f:FuncId}{args:List AV}{r:AV}(V:eS args)(hr:ee r)(h:zc2 P (zcW pls l) f args zdw fun v _=>v=r):bh P ρ f args r:=
 NX fit (ll ρ) (fun g Z r A=>fb.look I g Z r A) V hr h
end Go.Ab
