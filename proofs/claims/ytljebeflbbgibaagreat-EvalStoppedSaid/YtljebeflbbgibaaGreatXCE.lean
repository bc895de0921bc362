/- Parts: AbFuel, AbEnv, AbWp, Tree, Spec4, Spec6, Sem6, Rep6, AbWd, Rep6c, EvS, EvL. -/
import Derived.IntWalk
import Derived.Test.YtljebeflbbgibaaGreatXCD
set_option linter.unusedSimpArgs false
set_option linter.unusedVariables false
set_option linter.unusedSectionVars false
set_option linter.defProp false
set_option maxHeartbeats 32000000
namespace Go.Ab
set_option maxRecDepth 20000
open Go
theorem ul{P:Prop}(h:P:=by rw[hr];simp):P:=h
theorem Ap{P:Prop}(h:P:=by simp only[zfj,h,h1]):P:=h
theorem md{P:Prop}(h:P:=by simp[zep,nS,zfw]):P:=h
theorem wN{P:Prop}(h:P:=by unfold zdY;rw[h]):P:=h
theorem qg{P:Prop}(h:P:=by rw[Ex.cells_eq];rfl):P:=h
theorem ip{P:Prop}(h:P:=by rw[St.cells_eq];rfl):P:=h
theorem me{P:Prop}(h:P:=by rw[Fu.cells_eq];rfl):P:=h
theorem wO{P:Prop}(h:P:=by rw[Ar.cells_eq];rfl):P:=h
theorem wP{P:Prop}(h:P:=by rw[Pr.cells_eq];rfl):P:=h
theorem um{P:Prop}(h:P:=by rw[Tk.cells_eq];rfl):P:=h
theorem uo{P:Prop}(h:P:=by rw[Nd.cells_eq];rfl):P:=h
theorem qh{P:Prop}(h:P:=by rw[Gr.cells_eq];rfl):P:=h
theorem wQ{P:Prop}(h:P:=by rw[Un.cells_eq];rfl):P:=h
theorem wR{P:Prop}(h:P:=by rw[List.length_set]):P:=h
theorem Aq{P:Prop}(h:P:=by rw[List.length_cons];omega):P:=h
def wS:=@Nat.le_max_left
def wT:=@Nat.le_max_right
def pd:=@cond_false
def eL:=@Int.eq_ofNat_of_zero_le
def fq:=@List.drop_eq_getElem_cons
def dZ:=@Bool.false_and
def j6:=@Bool.and_true
def mX:=@and_self
def dQ:=@Int.toNat_natCast
def da:=@Option.bind_some
def mg:=@List.length_set
def j7:=@List.length_replicate
def pe:=@List.getElem?_replicate
end Go.Ab
namespace Go.Ab
set_option maxRecDepth 20000
open Go
def zfm(ih ih':Task->Res):Prop:=∀t,ih t≠.fail->ih' t=ih t
section
variable {P:Program} {cfg:Cfg} {ih ih':Task -> Res}
theorem wU(h:zfm ih ih'){f:FuncId}{E:ax}{H:Hp}{op:Op}(m:zez P cfg ih f E H op≠.fail):zez P cfg ih' f E H op=zez P cfg ih f E H op:=by
 unfold zez at *;split
 .rename_i c;unfold oU at *;split
  .rename_i g C;simp only[C]at m;split
   .rename_i k L vs i Z;simp only[i,Z]at m;exact h _ m
   .rfl
  .rfl
  .rfl
 .rfl
theorem uq{f N:Nat}{J:List Oper}{o:Oper}{l:List Oper}{E:ax}{H:Hp}:zfy P cfg ih f N J (o::l) E H=match zfr J E o with
 |true=>match zez P cfg ih f E H o.op with
  | .val v H=>zfC (zfy P cfg ih f N J l) H (d9 N E o.dst v)
  |_=>.fail
 |false=>zfC (zfy P cfg ih f N J l) H (d9 N E o.dst zev):=rfl
theorem wV(h:zfm ih ih'){f N:Nat}{J:List Oper}:∀{l:List Oper}{E:ax}{H:Hp},zfy P cfg ih f N J l E H≠.fail->zfy P cfg ih' f N J l E H=zfy P cfg ih f N J l E H
 |[],_,_,_=>rfl
 |o::l,E,H,hn=>by
  rw[uq]at hn⊢;rw[uq];cases Z:zfr J E o with
  |true=>
   simp only[Z]at hn⊢;cases K:zez P cfg ih f E H o.op with
   |fail=>simp[K]at hn
   |done x E1 H1=>simp[K]at hn
   |val v H1=>
    rw[wU h (by rw[K];simp),K];simp only[K]at hn⊢;cases hp:d9 N E o.dst v with
    |none=>rfl
    |some E1=>
     rw[hp]at hn;exact wV h hn
  |false=>
   simp only[Z]at hn⊢;cases hp:d9 N E o.dst zev with
   |none=>rfl
   |some E1=>
    rw[hp]at hn;exact wV h hn
theorem wW(h:zfm ih ih'){f N:Nat}{J:List Oper}:∀{l:List Oper}{E:ax}{H:Hp},gL P cfg ih f N J l E H≠.fail->gL P cfg ih' f N J l E H=gL P cfg ih f N J l E H
 |[],_,_,_=>rfl
 |o::l,E,H,hn=>by
  have A:∀{r:Rec}{x:ResD},lc r x≠.fail->x≠.fail:=fun{r x} I e=>I (by rw[e];rfl);simp only[gL]at hn⊢;cases Z:zfr J E o with
  |true=>
   simp only[Z]at hn⊢;cases K:zez P cfg ih f E H o.op with
   |fail=>simp[K]at hn
   |done x E1 H1=>simp[K]at hn
   |val v H1=>
    rw[wU h (by rw[K];simp),K];simp only[K]at hn⊢;cases hp:d9 N E o.dst v with
    |none=>rfl
    |some E1=>
     rw[hp]at hn;have:=wW h (A hn);simp only[zfW,this]
  |false=>
   simp only[Z]at hn⊢;cases hp:d9 N E o.dst zev with
   |none=>rfl
   |some E1=>
    rw[hp]at hn;have:=wW h (A hn);simp only[zfW,this]
theorem Ea(h:zfm ih ih'){f N:Nat}{ops:List Oper}{E:ax}{H:Hp}(m:j0 P cfg ih f N ops E H≠.fail):j0 P cfg ih' f N ops E H=j0 P cfg ih f N ops E H:=by
 unfold j0 at *;split
 .rename_i hc;simp only[hc]at m;cases hr:gL P cfg ih f N ops ops E H with
  |fail=>simp[hr]at m
  |done E1 H1 rs=>rw[wW h ul,hr]
 .rfl
theorem MV{ops:List Oper}{zdu r2 C F:Res}(h1:zdu≠.fail->C=zdu)(h2:r2≠.fail->F=r2)(m:pV ops zdu r2≠.fail):pV ops C F=pV ops zdu r2:=by
 have V:zdu≠.fail:=fun e=>m (by rw[e];rfl);have g:r2≠.fail:=fun e=>m (by rw[e];unfold pV;split<;>simp_all);rw[h1 V,h2 g]
theorem As(h:zfm ih ih'){f N:Nat}{E:ax}{H:Hp}:∀{j:Plan}{ops:List Oper},zfx P cfg ih f N E H j ops≠.fail->zfx P cfg ih' f N E H j ops=zfx P cfg ih f N E H j ops
 | .text,ops,hn=>Ea h hn
 | .perm ord,ops,hn=>by
   simp only[zfx]at *;split
   .rename_i hp;simp only[hp]at hn;exact Ea h hn
   .rfl
 | .split p q a b,ops,hn=>by
   simp only[zfx]at *;split
   .rfl
   .rename_i hp;simp only[hp]at hn;exact MV (fun i=>As h i) (fun g=>As h g) hn
theorem At(h:zfm ih ih'){f:FuncId}{args:List AV}{H:Hp}(m:zfX P ih f args H≠.fail):zfX P ih' f args H=zfX P ih f args H:=by
 unfold zfX at *;split
 .rename_i V Z;simp only[Z]at m;split
  .rename_i c z;simp only[z]at m;cases hr:ih (.code f (max V.ntmps args.length) c (zds 0 args (pW (max V.ntmps args.length))) H)with
   |fail=>simp[hr]at m
   |val v H1=>rw[h _ ul,hr]
   |done x E1 H1=>rw[h _ ul,hr]
  .rfl
 .rfl
theorem MW(h:zfm ih ih'){f:FuncId}{args:List AV}{H:Hp}(m:lk P cfg ih f args H≠.fail):lk P cfg ih' f args H=lk P cfg ih f args H:=by
 unfold lk at *;split
 .rename_i A;simp only[A]at m;unfold tP at *;split
  .rename_i L H' K;simp only[K]at m;split
   .rfl
   .rename_i i;simp only[i]at m;exact At h m
  .rename_i K;simp only[K]at m;exact At h m
 .rename_i A;simp only[A]at m;exact At h m
theorem Eb(h:zfm ih ih'){f N:Nat}{b:Code}{r A:Res}(hr:r≠.fail->A=r)(m:lj ih f N b r≠.fail):lj ih' f N b A=lj ih f N b r:=by
 cases r with
 |fail=>simp[lj]at m
 |val v H1=>rw[hr aB];rfl
 |done x E1 H1=>
  rw[hr aB];cases x with
  |normal=>exact h _ m
  |exit id=>rfl
  |ret=>rfl
theorem MX(h:zfm ih ih'){t:Task}(m:step P cfg ih t≠.fail):step P cfg ih' t=step P cfg ih t:=by
 cases t with
 |call f args H=>
  simp only[step]at *;split
  .rfl
  .rename_i hc;simp only[hc]at m;have j:lk P cfg ih f args H≠.fail:=fun e=>m (by rw[e];unfold rM;split<;>simp_all);rw[MW h j]
 |code f N c E H=>
  cases c with
  |region id ops draw=>cases draw with
   |false=>exact wV h m
   |true=>exact As h m
  |seq a b=>exact Eb h (h _) m
  |loop a=>exact Eb h (h _) m
  |cond x a b=>
   simp only[step]at *;unfold pX at *;split
   .rename_i hc;simp only[hc]at m;exact h _ m
   .rename_i hc;simp only[hc]at m;exact h _ m
   .rfl
  |block id a=>
   simp only[step]at *;cases hr:ih (.code f N a E H)with
   |fail=>simp[hr,zfT]at m
   |val v H1=>rw[h _ ul,hr]
   |done x E1 H1=>rw[h _ ul,hr]
  |_=>rfl
theorem Ec:∀n,zfm (ev P cfg n) (ev P cfg (n+1))
 |0=>fun _ m=>(m rfl).elim
 |n+1=>fun _ m=>MX (Ec n) m
theorem Au{n m:Nat}(M:n<=m){t:Task}(Z:ev P cfg n t≠.fail):ev P cfg m t=ev P cfg n t:=by
 induction m with
 |zero=>rw[show n=0 by omega]
 |succ m ih=>
  by_cases h:n=m+1
  .rw[h]
  .have:=ih ac;rw[Ec m t (by rw[this];exact Z),this]
theorem wX{n m:Nat}(M:n<=m){t:Task}{r:Res}(h:ev P cfg n t=r)(hr:r≠.fail):ev P cfg m t=r:=by
 rw[Au M (by rw[h];exact hr),h]
def zek(P:Program)(cfg:Cfg)(t:Task)(r:Res):Prop:=r≠.fail/\∃n,ev P cfg n t=r
theorem zek.step{t:Task}{r:Res}(hr:r≠.fail){n:Nat}(h:Ab.step P cfg (ev P cfg n) t=r):zek P cfg t r:=⟨hr,n+1,h⟩
def iF:=@zek.step
section
variable {f N id:Nat} {a b:Code} {x:Operand} {E E1:ax} {H H1:Hp} {r:Res} {ex:AX}
theorem zek.seq(h1:zek P cfg (.code f N a E H) (.done .normal E1 H1))(h2:zek P cfg (.code f N b E1 H1) r):zek P cfg (.code f N (.seq a b) E H) r:=by
 obtain⟨_,n,h1⟩:=h1;obtain⟨hr,m,h2⟩:=h2;refine iF hr (n:=max n m) ?_;show lj (ev P cfg (max n m)) f N b (ev P cfg (max n m) (.code f N a E H))=r;rw[wX (wS n m) h1 aB];exact wX (wT n m) h2 hr
theorem Ee(h1:zek P cfg (.code f N a E H) (.done ex E1 H1))(I:ex≠.normal):zek P cfg (.code f N (.seq a b) E H) (.done ex E1 H1):=by
 obtain⟨hr,n,h1⟩:=h1;refine iF hr (n:=n) ?_;show lj (ev P cfg n) f N b (ev P cfg n (.code f N a E H))=_;rw[h1];cases ex with
 |normal=>exact(I rfl).elim
 |exit id=>rfl
 |ret=>rfl
theorem zek.loop(h1:zek P cfg (.code f N a E H) (.done .normal E1 H1))(h2:zek P cfg (.code f N (.loop a) E1 H1) r):zek P cfg (.code f N (.loop a) E H) r:=by
 obtain⟨_,n,h1⟩:=h1;obtain⟨hr,m,h2⟩:=h2;refine iF hr (n:=max n m) ?_;show lj (ev P cfg (max n m)) f N (.loop a) (ev P cfg (max n m) (.code f N a E H))=r;rw[wX (wS n m) h1 aB];exact wX (wT n m) h2 hr
theorem Eg(h1:zek P cfg (.code f N a E H) (.done ex E1 H1))(I:ex≠.normal):zek P cfg (.code f N (.loop a) E H) (.done ex E1 H1):=by
 obtain⟨hr,n,h1⟩:=h1;refine iF hr (n:=n) ?_;show lj (ev P cfg n) f N (.loop a) (ev P cfg n (.code f N a E H))=_;rw[h1];cases ex with
 |normal=>exact(I rfl).elim
 |exit id=>rfl
 |ret=>rfl
theorem MY(I:zdo E x=some (.bool true))(h:zek P cfg (.code f N a E H) r):zek P cfg (.code f N (.cond x a b) E H) r:=by
 obtain⟨hr,n,h⟩:=h;refine iF hr (n:=n) ?_;show pX (ev P cfg n) f N x a b E H=r;unfold pX;rw[I];exact h
theorem MZ(I:zdo E x=some (.bool false))(h:zek P cfg (.code f N b E H) r):zek P cfg (.code f N (.cond x a b) E H) r:=by
 obtain⟨hr,n,h⟩:=h;refine iF hr (n:=n) ?_;show pX (ev P cfg n) f N x a b E H=r;unfold pX;rw[I];exact h
theorem zek.block(h:zek P cfg (.code f N a E H) (.done (.exit id) E1 H1)):zek P cfg (.code f N (.block id a) E H) (.done .normal E1 H1):=by
 obtain⟨hr,n,h⟩:=h;refine iF aB (n:=n) ?_;show zfT id (ev P cfg n (.code f N a E H))=_;rw[h];simp[zfT]
theorem M0(h:zek P cfg (.code f N a E H) (.done .normal E1 H1)):zek P cfg (.code f N (.block id a) E H) (.done .normal E1 H1):=by
 obtain⟨hr,n,h⟩:=h;refine iF aB (n:=n) ?_;show zfT id (ev P cfg n (.code f N a E H))=_;rw[h];rfl
theorem M1(h:zek P cfg (.code f N a E H) (.done .ret E1 H1)):zek P cfg (.code f N (.block id a) E H) (.done .ret E1 H1):=by
 obtain⟨hr,n,h⟩:=h;refine iF aB (n:=n) ?_;show zfT id (ev P cfg n (.code f N a E H))=_;rw[h];rfl
theorem M2{K:Nat}(M:Nat.beq K id=false)(h:zek P cfg (.code f N a E H) (.done (.exit K) E1 H1)):zek P cfg (.code f N (.block id a) E H) (.done (.exit K) E1 H1):=by
 obtain⟨hr,n,h⟩:=h;refine iF aB (n:=n) ?_;show zfT id (ev P cfg n (.code f N a E H))=_;rw[h];simp only[zfT,M]
theorem zek.skip:zek P cfg (.code f N .skip E H) (.done .normal E H):=iF aB (n:=0) rfl
theorem zek.exit:zek P cfg (.code f N (.exit id) E H) (.done (.exit id) E H):=iF aB (n:=0) rfl
theorem zek.ret:zek P cfg (.code f N .ret E H) (.done .ret E H):=iF aB (n:=0) rfl
theorem zek.region{ops:Array Oper}{n:Nat}(h:zfy P cfg (ev P cfg n) f N ops.toList ops.toList E H=r)(hr:r≠.fail):zek P cfg (.code f N (.region id ops false) E H) r:=iF hr (n:=n) h
theorem zek.draw{ops:Array Oper}{n:Nat}(h:zfx P cfg (ev P cfg n) f N E H (cfg.plan f id) ops.toList=r)(hr:r≠.fail):zek P cfg (.code f N (.region id ops true) E H) r:=iF hr (n:=n) h
theorem zek.call{args:List AV}{fn:Func}{c:Code}{v:AV}(j:cfg.call f args=none)(A:cfg.ice f=false)(z:cfg.froz f=false)(m:P.funcs[f]?=some fn)(Z:fn.body=some c)
 (h:zek P cfg (.code f (max fn.ntmps args.length) c (zds 0 args (pW (max fn.ntmps args.length))) H) (.done ex E1 H1)) (I:ex=.normal\/ex=.ret) (U:rL P fn.results.toList E1 H1=.val v H1):zek P cfg (.call f args H) (.val v H1):=by
 obtain⟨_,n,h⟩:=h;refine iF aB (n:=n) ?_;simp only[Ab.step,j,A,z,lk,rM];unfold zfX;simp only[m,Z,h];rcases I with rfl|rfl<;>exact U
end
end
noncomputable section
open Go
def ov(L:List (Nat×AV))(d:Nat->AV):Nat->AV:=
 List.rec (motive:=fun _=>Nat->AV) d (fun p _ j k=>iy (Nat.beq p.1 k) p.2 (j k)) L
end
structure SOp where
 d:Option Nat
 op:Op
 g:Option (Nat×Bool)
inductive SC where
 |skip|ret|bad
 |ops (l:List SOp)
 |draw (id:Nat) (l:List Oper)
 |seq (a b:SC)
 |cond (x:Operand) (a b:SC)
 |block (id:Nat) (a:SC)
 |loop (a:SC)
 |exit (id:Nat)
def zdH(N:Nat):Option Tmp->Option (Option Nat)
 |none=>some none
 |some d=>match Nat.blt d N with
  |true=>some (some d)
  |false=>none
def zdI(J:List Oper):Option (Nat×Bool)->Option (Option (Nat×Bool))
 |none=>some none
 |some (j,b)=>match (J[j]?).bind (·.dst)with
  |some d=>some (some (d,b))
  |none=>none
def zdD(N:Nat)(J:List Oper):List Oper->Option (List SOp)
 |[]=>some []
 |o::l=>match zdH N o.dst,zdI J o.guard,zdD N J l with
  |some d,some g,some r=>some (⟨d,o.op,g⟩::r)
  |_,_,_=>none
def zdG(l:Option (List SOp)):SC:=match l with
 |some l=>.ops l
 |none=>.bad
def aC(N:Nat):Code->SC
 | .skip=>.skip
 | .region id ops draw=>match draw with
   |false=>zdG (zdD N ops.toList ops.toList)
   |true=>.draw id ops.toList
 | .seq a b=>.seq (aC N a) (aC N b)
 | .cond x a b=>.cond x (aC N a) (aC N b)
 | .block id a=>.block id (aC N a)
 | .loop a=>.loop (aC N a)
 | .exit id=>.exit id
 | .ret=>.ret
 |_=>.bad
section
variable (P:Program) (cfg:Cfg) (f N:Nat)
def zdw(g:FuncId)(args:List AV)(H:Hp)(Q:AV->Hp->Prop):Prop:=∃v H',zek P cfg (.call g args H) (.val v H')/\Q v H'
def fS(op:Op)(E:ax)(H:Hp)(K:AV->Hp->Prop):Prop:=∃n v H',zez P cfg (ev P cfg n) f E H op=.val v H'/\K v H'
noncomputable def zdE(E:ax):Option Nat->AV->ax
 |some d,v=>T.set E d (some v)
 |none,_=>E
def aE:List SOp->ax->Hp->(ax->Hp->Prop)->Prop
 |[],E,H,Q=>Q E H
 |o::l,E,H,Q=>match o.g with
  |none=>fS P cfg f o.op E H fun v H'=>aE l (zdE E o.d v) H' Q
  |some (s,b)=>(E.at s=.bool b/\fS P cfg f o.op E H fun v H'=>aE l (zdE E o.d v) H' Q)\/((E.at s=.bool (!b)\/E.at s=zev)/\aE l (zdE E o.d zev) H Q)
def zdX(c:SC)(E:ax)(H:Hp)(Q:AX->ax->Hp->Prop):Prop:=∀code,aC N code=c->∃x E' H',zek P cfg (.code f N code E H) (.done x E' H')/\Q x E' H'
end
section
variable {P:Program} {cfg:Cfg} {f N:Nat}
theorem fS.mono{op:Op}{E:ax}{H:Hp}{K I:AV->Hp->Prop}(h:∀v H',K v H'->I v H')(j:fS P cfg f op E H K):fS P cfg f op E H I:=by
 obtain⟨n,v,H',i,g⟩:=j;exact⟨n,v,H',i,h v H' g⟩
theorem zdX.mono{c:SC}{E:ax}{H:Hp}{Q i:AX->ax->Hp->Prop}(h:∀x E H,Q x E H->i x E H)(J:zdX P cfg f N c E H Q):zdX P cfg f N c E H i:=fun code hc=>by
 obtain⟨x,E',H',Z,g⟩:=J code hc;exact⟨x,E',H',Z,h _ _ _ g⟩
theorem zdX.skip{E:ax}{H:Hp}{Q:AX->ax->Hp->Prop}(h:Q .normal E H):zdX P cfg f N .skip E H Q:=fun code hc=>by
 cases code with
 |skip=>exact⟨_,_,_,zek.skip,h⟩
 |region id ops draw=>cases draw<;>simp only[aC,zdG,reduceCtorEq]at hc;split at hc<;>simp at hc
 |_=>simp[aC]at hc
theorem zdX.ret{E:ax}{H:Hp}{Q:AX->ax->Hp->Prop}(h:Q .ret E H):zdX P cfg f N .ret E H Q:=fun code hc=>by
 cases code with
 |ret=>exact⟨_,_,_,zek.ret,h⟩
 |region id ops draw=>cases draw<;>simp only[aC,zdG,reduceCtorEq]at hc;split at hc<;>simp at hc
 |_=>simp[aC]at hc
theorem zdX.exit{id:Nat}{E:ax}{H:Hp}{Q:AX->ax->Hp->Prop}(h:Q (.exit id) E H):zdX P cfg f N (.exit id) E H Q:=fun code hc=>by
 cases code with
 |exit K=>simp only[aC,SC.exit.injEq]at hc;subst hc;exact⟨_,_,_,zek.exit,h⟩
 |region id ops draw=>cases draw<;>simp only[aC,zdG,reduceCtorEq]at hc;split at hc<;>simp at hc
 |_=>simp[aC]at hc
def jt(Q:AX->ax->Hp->Prop)(K:ax->Hp->Prop):AX->ax->Hp->Prop
 | .normal,E,H=>K E H
 | .exit id,E,H=>Q (.exit id) E H
 | .ret,E,H=>Q .ret E H
theorem zdX.seq{a b:SC}{E:ax}{H:Hp}{Q:AX->ax->Hp->Prop}(h:zdX P cfg f N a E H (jt Q fun E H=>zdX P cfg f N b E H Q)):zdX P cfg f N (.seq a b) E H Q:=fun code hc=>by
 cases code with
 |seq p q=>
  simp only[aC,SC.seq.injEq]at hc;obtain⟨x,E1,H1,i,g⟩:=h p hc.1;cases x with
  |normal=>
   obtain⟨x,Z,Y,o,U⟩:=g q hc.2;exact⟨x,Z,Y,zek.seq i o,U⟩
  |exit id=>exact⟨_,_,_,Ee i aB,g⟩
  |ret=>exact⟨_,_,_,Ee i aB,g⟩
 |region id ops draw=>cases draw<;>simp only[aC,zdG,reduceCtorEq]at hc;split at hc<;>simp at hc
 |_=>simp[aC]at hc
def ak:=@zdX.seq
theorem zdX.cond{x:Operand}{a b:SC}{E:ax}{H:Hp}{Q:AX->ax->Hp->Prop}{t:Bool}(I:zdo E x=some (.bool t))(h1:t=true->zdX P cfg f N a E H Q)(h2:t=false->zdX P cfg f N b E H Q):
 zdX P cfg f N (.cond x a b) E H Q:=fun code hc=>by
 cases code with
 |cond y p q=>
  simp only[aC,SC.cond.injEq]at hc;obtain⟨rfl,o,U⟩:=hc;cases t with
  |true=>
   obtain⟨x,E1,H1,V,g⟩:=h1 rfl p o;exact⟨x,E1,H1,MY I V,g⟩
  |false=>
   obtain⟨x,E1,H1,V,g⟩:=h2 rfl q U;exact⟨x,E1,H1,MZ I V,g⟩
 |region id ops draw=>cases draw<;>simp only[aC,zdG,reduceCtorEq]at hc;split at hc<;>simp at hc
 |_=>simp[aC]at hc
def qi(id:Nat)(Q:AX->ax->Hp->Prop):AX->ax->Hp->Prop
 | .normal,E,H=>Q .normal E H
 | .exit K,E,H=>if K=id then Q .normal E H else Q (.exit K) E H
 | .ret,E,H=>Q .ret E H
theorem zdX.block{id:Nat}{a:SC}{E:ax}{H:Hp}{Q:AX->ax->Hp->Prop}(h:zdX P cfg f N a E H (qi id Q)):zdX P cfg f N (.block id a) E H Q:=fun code hc=>by
 cases code with
 |block K p=>
  simp only[aC,SC.block.injEq]at hc;obtain⟨rfl,o⟩:=hc;obtain⟨x,E1,H1,V,g⟩:=h p o;cases x with
  |normal=>exact⟨_,_,_,M0 V,g⟩
  |ret=>exact⟨_,_,_,M1 V,g⟩
  |exit k=>
   simp only[qi]at g;split at g
   .rename_i e;subst e;exact⟨_,_,_,zek.block V,g⟩
   .rename_i e;exact⟨_,_,_,M2 (by cases z:Nat.beq k K with|true=>exact(e (gP z)).elim|false=>rfl) V,g⟩
 |region id ops draw=>cases draw<;>simp only[aC,zdG,reduceCtorEq]at hc;split at hc<;>simp at hc
 |_=>simp[aC]at hc
def au:=@zdX.block
theorem zdX.loop{a:SC}{Q:AX->ax->Hp->Prop}(I:Nat->ax->Hp->Prop)(h:∀n E H,I n E H->zdX P cfg f N a E H (jt Q fun E H=>∃m,m<n/\I m E H)){n:Nat}{E:ax}{H:Hp}(A:I n E H):zdX P cfg f N (.loop a) E H Q:=by
 induction n using Nat.strongRecOn generalizing E H with
 |_ n ih=>
  intro code hc;cases code with
  |loop p=>
   simp only[aC,SC.loop.injEq]at hc;obtain⟨x,E1,H1,V,g⟩:=h n E H A p hc;cases x with
   |normal=>
    obtain⟨m,M,i⟩:=g;obtain⟨x,Z,Y,O,U⟩:=ih m M i (.loop p) (by simp[aC,hc]);exact⟨x,Z,Y,zek.loop V O,U⟩
   |exit id=>exact⟨_,_,_,Eg V aB,g⟩
   |ret=>exact⟨_,_,_,Eg V aB,g⟩
  |region id ops draw=>cases draw<;>simp only[aC,zdG,reduceCtorEq]at hc;split at hc<;>simp at hc
  |_=>simp[aC]at hc
def qj:=@zdX.loop
theorem mh{a:SC}{Q:AX->ax->Hp->Prop}(I:Nat->ax->Hp->Prop)(J:Nat)(h:∀i E H,i<=J->I i E H->zdX P cfg f N a E H (jt Q fun E H=>i<J/\I (i+1) E H)){E:ax}{H:Hp}(A:I 0 E H):zdX P cfg f N (.loop a) E H Q:=
 qj (fun n E H=>n<=J/\I (J-n) E H) (fun n E H Z=>zdX.mono (fun x E' H' F=>by
  cases x with
  |normal=>
   obtain⟨Y,g⟩:=F;have:=Z.1;refine⟨n-1,ac,ac,?_⟩;rw[show J-(n-1)=J-n+1 by omega];exact g
  |exit id=>exact F
  |ret=>exact F) (h (J-n) E H (Nat.sub_le _ _) Z.2)) (n:=J) ⟨aM _,by rw[gT];exact A⟩
theorem wY{N:Nat}{U:Option Tmp}{d:Option Nat}(h:zdH N U=some d)(E:ax)(v:AV):d9 N E U v=some (zdE E d v):=by
 cases U with
 |none=>simp only[zdH,aA]at h;subst h;rfl
 |some t=>
  simp only[zdH]at h;split at h
  .rename_i z;simp only[aA]at h;subst h;simp only[d9,z,zdE]
  .simp at h
theorem Eh{J:List Oper}{E:ax}{o:Oper}{g:Option (Nat×Bool)}(h:zdI J o.guard=some g):
 (g=none->zfr J E o=true)/\∀s b,g=some (s,b)->(E.at s=.bool b->zfr J E o=true)/\(E.at s=.bool (!b)\/E.at s=zev->zfr J E o=false):=by
 unfold zfr;cases C:o.guard with
 |none=>
  rw[C]at h;simp only[zdI,aA]at h;subst h;exact⟨fun _=>rfl,fun s b e=>by simp at e⟩
 |some I=>
  obtain⟨j,b⟩:=I;rw[C]at h;simp only[zdI]at h;split at h
  .rename_i d hd;simp only[aA]at h;subst h;refine⟨fun e=>by simp at e,fun s m e=>?_⟩;simp only[cr]at e;obtain⟨rfl,rfl⟩:=e;simp only[wg,hd];refine⟨fun e=>by rw[e];simp,fun e=>by rcases e with e|e<;>rw[e]<;>simp[zev]⟩
  .simp at h
theorem aE.run{J:List Oper}{Q:ax->Hp->Prop}:∀{l:List Oper}{r:List SOp}{E:ax}{H:Hp},zdD N J l=some r->aE P cfg f r E H Q ->
 ∃n E' H',zfy P cfg (ev P cfg n) f N J l E H=.done .normal E' H'/\Q E' H'
 |[],r,E,H,hs,F=>by
  simp only[zdD,aA]at hs;subst hs;exact⟨0,E,H,rfl,F⟩
 |o::l,r,E,H,hs,F=>by
  simp only[zdD]at hs;split at hs
  .rename_i d g r' i h2 I;simp only[aA]at hs;subst hs;obtain⟨zft,A⟩:=Eh (E:=E) h2;have Y:∀{K:Prop},fS P cfg f o.op E H (fun v H'=>aE P cfg f r' (zdE E d v) H' Q)->zfr J E o=true->∃n E' H',zfy P cfg (ev P cfg n) f N J (o::l) E H=.done .normal E' H'/\Q E' H':=fun{K} j Z=>by
    obtain⟨n,v,H1,z,g2⟩:=j;obtain⟨m,U,M,O,L⟩:=aE.run I g2;refine⟨max n m,U,M,?_,L⟩;have V:∀k k',k<=k'->zfm (ev P cfg k) (ev P cfg k'):=fun k k' hk t ht=>Au hk ht;rw[uq,Z];simp only[];rw[wU (V n (max n m) (wS _ _)) (by rw[z];simp),z];simp only[wY i,zfC];rw[wV (V m (max n m) (wT _ _)) (by rw[O];simp),O]
   unfold aE at F;cases C:g with
   |none=>
    rw[C]at F;exact Y (K:=True) F (zft C)
   |some sb=>
    obtain⟨s,b⟩:=sb;rw[C]at F;simp only[]at F;rcases F with⟨e,F⟩|⟨e,F⟩
    .exact Y (K:=True) F ((A s b C).1 e)
    .obtain⟨m,U,M,O,L⟩:=aE.run I F;refine⟨m,U,M,?_,L⟩;rw[uq,(A s b C).2 e];simp only[wY i,zfC];exact O
  .simp at hs
theorem zdX.ops{l:List SOp}{E:ax}{H:Hp}{Q:AX->ax->Hp->Prop}(h:aE P cfg f l E H (Q .normal)):zdX P cfg f N (.ops l) E H Q:=fun code hc=>by
 cases code with
 |region id ops draw=>
  cases draw with
  |true=>simp[aC]at hc
  |false=>
   simp only[aC,zdG]at hc;split at hc
   .rename_i r hr;simp only[SC.ops.injEq]at hc;subst hc;obtain⟨n,E',H',i,g⟩:=aE.run hr h;exact⟨_,_,_,zek.region i aB,g⟩
   .simp at hc
 |_=>simp[aC]at hc
theorem zdl{l:List SOp}{E:ax}{H:Hp}{Q:AX->ax->Hp->Prop}(h:∀K:ax->Hp->Prop,(∀E' H',Q .normal E' H'->K E' H')->aE P cfg f l E H K):zdX P cfg f N (.ops l) E H Q:=
 zdX.ops (h _ fun _ _ h=>h)
theorem aE.nil{E:ax}{H:Hp}{Q:ax->Hp->Prop}(h:Q E H):aE P cfg f [] E H Q:=h
theorem fS.plain{op:Op}{E:ax}{H H':Hp}{v:AV}{K:AV->Hp->Prop}(h:cB P cfg.dec E H op=some (v,H'))(m:∀c,op≠.call c)(j:K v H'):fS P cfg f op E H K:=
 ⟨0,v,H',(qe m).2 h,j⟩
def wZ:Op->Bool
 | .call _=>false
 |_=>true
theorem Ei{op:Op}(h:wZ op=true):∀c,op≠.call c:=fun c e=>by subst e;simp[wZ]at h
theorem aE.op{d:Nat}{op:Op}{l:List SOp}{E:ax}{H H':Hp}{v:AV}{Q:ax->Hp->Prop}(m:wZ op=true)(h:cB P cfg.dec E H op=some (v,H'))(j:aE P cfg f l (T.set E d (some v)) H' Q):aE P cfg f (⟨some d,op,none⟩::l) E H Q:=
 fS.plain h (Ei m) j
def f7:=@aE.op
theorem Ej{op:Op}{l:List SOp}{E:ax}{H H':Hp}{v:AV}{Q:ax->Hp->Prop}(m:wZ op=true)(h:cB P cfg.dec E H op=some (v,H'))(j:aE P cfg f l E H' Q):aE P cfg f (⟨none,op,none⟩::l) E H Q:=
 fS.plain h (Ei m) j
theorem aE.guard{d:Option Nat}{op:Op}{s:Nat}{b t:Bool}{l:List SOp}{E:ax}{H:Hp}{Q:ax->Hp->Prop}(h:E.at s=.bool t)(h1:t=b->aE P cfg f (⟨d,op,none⟩::l) E H Q)(h2:t=!b->aE P cfg f l (zdE E d zev) H Q):
 aE P cfg f (⟨d,op,some (s,b)⟩::l) E H Q:=by
 unfold aE;by_cases e:t=b
 .exact .inl ⟨by rw[h,e],h1 e⟩
 .have:t=!b:=by cases t<;>cases b<;>simp_all
  exact .inr ⟨.inl (by rw[h,this]),h2 this⟩
theorem Ek{d:Option Nat}{op:Op}{s:Nat}{b:Bool}{l:List SOp}{E:ax}{H:Hp}{Q:ax->Hp->Prop}{v:AV}(h:some (E.at s)=some v)(L:v=zev)(h2:aE P cfg f l (zdE E d zev) H Q):
 aE P cfg f (⟨d,op,some (s,b)⟩::l) E H Q:=by
 subst L;unfold aE;exact .inr ⟨.inr ja,h2⟩
theorem aE.call{d:Option Nat}{c:Call}{g:Operand}{k:FuncId}{cap vs:List AV}{l:List SOp}{E:ax}{H:Hp}{Q:ax->Hp->Prop}(O:c.callee=.value g)(C:zdo E g=some (.clo k cap))(L:zfj E c.args.toList=some vs)
 (h:zdw P cfg k (vs++cap) H fun v H'=>aE P cfg f l (zdE E d v) H' Q):aE P cfg f (⟨d,.call c,none⟩::l) E H Q:=by
 obtain⟨v,H',⟨_,n,i⟩,Z⟩:=h;refine⟨n,v,H',?_,Z⟩;simp only[zez,oU,O,C,L];exact i
def bh:=@aE.call
theorem aE.builtin{d:Option Nat}{c:Call}{b:Builtin}{vs:List AV}{v:AV}{l:List SOp}{E:ax}{H H':Hp}{Q:ax->Hp->Prop}(O:c.callee=.builtin b)(L:zfj E c.args.toList=some vs)
 (h:mN P (cfg.keep f) H b c.argTypes.toList vs=some (v,H')) (j:aE P cfg f l (zdE E d v) H' Q):aE P cfg f (⟨d,.call c,none⟩::l) E H Q:=by
 refine⟨0,v,H',?_,j⟩;simp only[zez,oU,O,L,h]
def w1:=@aE.builtin
theorem zdw.known{g:FuncId}{args:List AV}{r:AV}{H:Hp}{Q:AV->Hp->Prop}(h:cfg.call g args=some r)(F:Q r H):zdw P cfg g args H Q:=
 ⟨r,H,iF aB (n:=0) (by simp only[step,h]),F⟩
theorem El{g:FuncId}{args L:List AV}{r:AV}{H H':Hp}{Q:AV->Hp->Prop}(A:cfg.call g args=none)(Z:cfg.ice g=true)(z:cfg.froz g=false)(J:iC (fG 100) args H=some (L,H'))(h:cfg.call g L=some r)(F:Q r H'):zdw P cfg g args H Q:=
 ⟨r,H',iF aB (n:=0) (by simp only[step,A,lk,Z,z,rM,tP,J,h]),F⟩
theorem zdw.mono{g:FuncId}{args:List AV}{H:Hp}{Q i:AV->Hp->Prop}(h:∀v H',Q v H'->i v H')(J:zdw P cfg g args H Q):zdw P cfg g args H i:=by
 obtain⟨v,H',Z,Y⟩:=J;exact⟨v,H',Z,h _ _ Y⟩
def a9:=@zdw.mono
theorem zdw.body{g:FuncId}{args:List AV}{H:Hp}{fn:Func}{c:Code}{Q:AV->Hp->Prop}(j:cfg.call g args=none)(A:cfg.ice g=false)(z:cfg.froz g=false)(m:P.funcs[g]?=some fn)(Z:fn.body=some c)
 (h:zdX P cfg g (max fn.ntmps args.length) (aC (max fn.ntmps args.length) c) (zds 0 args (pW (max fn.ntmps args.length))) H (fun x E' H'=>(x=.normal\/x=.ret)/\∃vs,ze0 P E' H' fn.results.toList=some vs/\Q (zdn vs) H')):zdw P cfg g args H Q:=by
 obtain⟨x,E',H',i,I,vs,Y,o⟩:=h c rfl;exact⟨zdn vs,H',zek.call j A z m Z i I (by unfold rL;rw[Y]),o⟩
theorem zdv{g:FuncId}{args:List AV}{H:Hp}{fn:Func}{c:Code}{s:SC}{M:Nat}{rs:List ResultVar}{Q:AV->Hp->Prop}(j:cfg.call g args=none)(A:cfg.ice g=false)(z:cfg.froz g=false)(m:P.funcs[g]?=some fn)(Z:fn.body=some c)(V:max fn.ntmps args.length=M)
 (K:aC M c=s) (hr:fn.results.toList=rs) (h:zdX P cfg g M s (zds 0 args (pW M)) H (fun x E' H'=>(x=.normal\/x=.ret)/\∃vs,ze0 P E' H' rs=some vs/\Q (zdn vs) H')):zdw P cfg g args H Q:=by
 subst V K hr;exact zdw.body j A z m Z h
theorem Em(fit:Fit P){ρ:Nat->Int}(i:kJ cfg.dec ρ)(O:∀f args r,cfg.call f args=some r->bc P ρ f args r){g:FuncId}{args:List AV}{r:AV}{k m:Nat}
 (Y:nU k args=true) (h:zdw P cfg g args zd3 fun v H'=>iceV H' m v=some r):bc P ρ g args r:=by
 obtain⟨v,H',⟨_,n,Z⟩,V⟩:=h;exact Am fit i O (n:=n) (m:=m) Y (by unfold tQ;rw[Z];exact V)
section
variable {l:List SOp} {E:ax} {H H':Hp} {Q:ax -> Hp -> Prop} {d:Nat} {v a b:AV} {x y:Operand} {t u:TypeId}
theorem aE.move(h:zdo E x=some v)(j:aE P cfg f l (T.set E d (some v)) H Q):aE P cfg f (⟨some d,.move x,none⟩::l) E H Q:=f7 rfl (by simp only[cB,Go.Ab.ret,h]) j
theorem aE.assign(h:zdo E x=some v)(j:aE P cfg f l (T.set E d (some v)) H Q):aE P cfg f (⟨some d,.assign x,none⟩::l) E H Q:=f7 rfl (by simp only[cB,Go.Ab.ret,h]) j
theorem aE.pick{z:Operand}{t:Bool}(h:zdo E x=some (.bool t))(h1:zdo E y=some a)(h2:zdo E z=some b)(j:aE P cfg f l (T.set E d (some (iy t a b))) H Q):aE P cfg f (⟨some d,.pick x y z,none⟩::l) E H Q:=
 f7 rfl (by cases t<;>simp only[cB,vW,Go.Ab.ret,h,h1,h2]<;>rfl) j
theorem aE.load(h:zdo E x=some a)(h1:zeX P H t a=some v)(j:aE P cfg f l (T.set E d (some v)) H Q):aE P cfg f (⟨some d,.load t x,none⟩::l) E H Q:=f7 rfl (by simp only[cB,tG,Go.Ab.ret,h,h1]) j
theorem aE.store(h:zdo E x=some a)(h1:zdo E y=some b)(h2:jA P H t a b=some H')(j:aE P cfg f l E H' Q):aE P cfg f (⟨none,.store t x y,none⟩::l) E H Q:=Ej rfl (by simp only[cB,vY,h,h1,h2];rfl) j
def mY:=@aE.store
theorem aE.nilCheck{r o:Nat}(h:zdo E x=some (.ptr r o))(j:aE P cfg f l (T.set E d (some (.ptr r o))) H Q):aE P cfg f (⟨some d,.nilCheck x,none⟩::l) E H Q:=f7 rfl (by simp only[cB,vZ,h]) j
theorem aE.bin{op:BinOp}(h:zdo E x=some a)(h1:zdo E y=some b)(h2:zep P cfg.dec op t a b=some v)(j:aE P cfg f l (T.set E d (some v)) H Q):aE P cfg f (⟨some d,.binOp op t x y u,none⟩::l) E H Q:=
 f7 rfl (by simp only[cB,v4,Go.Ab.ret,h,h1,h2]) j
theorem aE.un{op:UnOp}(h:zdo E x=some a)(h2:nT op a=some v)(j:aE P cfg f l (T.set E d (some v)) H Q):aE P cfg f (⟨some d,.unOp op t x,none⟩::l) E H Q:=f7 rfl (by simp only[cB,v6,Go.Ab.ret,h,h2]) j
theorem aE.convert(h:zdo E x=some a)(h2:zfA P H t u a=some v)(j:aE P cfg f l (T.set E d (some v)) H Q):aE P cfg f (⟨some d,.convert t u x,none⟩::l) E H Q:=f7 rfl (by simp only[cB,tH,Go.Ab.ret,h,h2]) j
theorem aE.fieldAddr{i:Nat}(h:zdo E x=some a)(h2:zdt P t a i=some v)(j:aE P cfg f l (T.set E d (some v)) H Q):aE P cfg f (⟨some d,.fieldAddr t x i,none⟩::l) E H Q:=f7 rfl (by simp only[cB,v8,Go.Ab.ret,h,h2]) j
def Eo:=@aE.fieldAddr
theorem aE.field{i:Nat}(h:zdo E x=some a)(h2:zdN P t a i=some v)(j:aE P cfg f l (T.set E d (some v)) H Q):aE P cfg f (⟨some d,.field t x i,none⟩::l) E H Q:=f7 rfl (by simp only[cB,v9,Go.Ab.ret,h,h2]) j
theorem aE.indexAddr(h:zdo E x=some a)(h1:zdo E y=some b)(h2:zdV P t a b=some v)(j:aE P cfg f l (T.set E d (some v)) H Q):aE P cfg f (⟨some d,.indexAddr t x y,none⟩::l) E H Q:=f7 rfl (by simp only[cB,wa,Go.Ab.ret,h,h1,h2]) j
def Ep:=@aE.indexAddr
theorem aE.index(h:zdo E x=some a)(h1:zdo E y=some b)(h2:lW P t a b=some v)(j:aE P cfg f l (T.set E d (some v)) H Q):aE P cfg f (⟨some d,.index t x y,none⟩::l) E H Q:=f7 rfl (by simp only[cB,wb,Go.Ab.ret,h,h1,h2]) j
theorem aE.extract{i:Nat}(h:zdo E x=some a)(h2:Ab.extract a i=some v)(j:aE P cfg f l (T.set E d (some v)) H Q):aE P cfg f (⟨some d,.extract x i,none⟩::l) E H Q:=f7 rfl (by simp only[cB,wd,Go.Ab.ret,h,h2]) j
theorem aE.alloc{z:List AV}{n:Nat}(h:zdZ P t=some z)(m:some H.next=some n)(j:aE P cfg f l (T.set E d (some (.ptr n 0))) (H.alloc (.cells z 0 true)) Q):aE P cfg f (⟨some d,.alloc t,none⟩::l) E H Q:=by
 simp only[aA]at m;subst m;exact f7 rfl (by simp only[cB,tD,h]) j
theorem aE.box{cs:List AV}{n:Nat}(h:zdo E x=some a)(O:some a.cells=some cs)(m:some H.next=some n)(j:aE P cfg f l (T.set E d (some (.ptr n 0))) (H.alloc (.cells cs 0 true)) Q):aE P cfg f (⟨some d,.box t x,none⟩::l) E H Q:=by
 simp only[aA]at O m;subst O m;exact f7 rfl (by simp only[cB,tE,h]) j
theorem aE.build{O:Array (Nat×Operand)}{ps:List (Nat×AV)}(h:zfH E O.toList=some ps)(h2:zeI P t ps=some v)(j:aE P cfg f l (T.set E d (some v)) H Q):aE P cfg f (⟨some d,.build t O,none⟩::l) E H Q:=f7 rfl (by simp only[cB,vX,Go.Ab.ret,h,h2]) j
theorem aE.buildSlice{n:Nat}{O:Array (Nat×Operand)}{ps:List (Nat×AV)}(h:zfH E O.toList=some ps)(h2:zeP P H t n ps=some (v,H'))(j:aE P cfg f l (T.set E d (some v)) H' Q):aE P cfg f (⟨some d,.buildSlice t n O,none⟩::l) E H Q:=
 f7 rfl (by simp only[cB,tF,h,h2]) j
def Er:=@aE.buildSlice
theorem aE.makeMap{n:Nat}(m:some H.next=some n)(j:aE P cfg f l (T.set E d (some (.map n))) (H.alloc (.map [])) Q):aE P cfg f (⟨some d,.makeMap t none,none⟩::l) E H Q:=by
 simp only[aA]at m;subst m;exact f7 rfl (by simp only[cB,tI]) j
theorem aE.lookup{ok:Bool}(h:zdo E x=some a)(h1:zdo E y=some b)(h2:zfv P H t a b ok=some v)(j:aE P cfg f l (T.set E d (some v)) H Q):aE P cfg f (⟨some d,.lookup t x y ok,none⟩::l) E H Q:=f7 rfl (by simp only[cB,tL,Go.Ab.ret,h,h1,h2]) j
theorem aE.mapUpdate{z:Operand}{c:AV}(h:zdo E x=some a)(h1:zdo E y=some b)(h2:zdo E z=some c)(o:zfS P H t a b c=some H')(j:aE P cfg f l E H' Q):aE P cfg f (⟨none,.mapUpdate t x y z,none⟩::l) E H Q:=
 Ej rfl (by simp only[cB,wc,h,h1,h2,o];rfl) j
def Es:=@aE.mapUpdate
theorem aE.makeFunc{g:FuncId}{cap:Array Operand}{vs:List AV}(h:zfj E cap.toList=some vs)(j:aE P cfg f l (T.set E d (some (.clo g vs))) H Q):aE P cfg f (⟨some d,.makeFunc (.func g) #[] cap,none⟩::l) E H Q:=f7 rfl (by simp only[cB,v7,h]) j
theorem aE.slice{lo A:Option Operand}{j L:Option AV}(h:zdo E x=some a)(h1:zfB E lo=some j)(h2:zfB E A=some L)(o:k8 P H t a j L=some v)(Z:aE P cfg f l (T.set E d (some v)) H Q):aE P cfg f (⟨some d,.slice t x lo A none,none⟩::l) E H Q:=
 f7 rfl (by simp only[cB,tK,Go.Ab.ret,h,h1,h2,o]) Z
theorem aE.makeSlice(h:zdo E x=some a)(h1:zdo E y=some b)(h2:ze7 P H t a b=some (v,H'))(j:aE P cfg f l (T.set E d (some v)) H' Q):aE P cfg f (⟨some d,.makeSlice t x y,none⟩::l) E H Q:=f7 rfl (by simp only[cB,tJ,h,h1,h2]) j
def Et:=@aE.makeSlice
theorem aE.len{c:AV}(h:zdo E x=some a)(h1:zdY P H t a=some c)(j:aE P cfg f l (T.set E d (some c)) H Q):aE P cfg f (⟨some d,.call ⟨.builtin .len,#[x],#[t]⟩,none⟩::l) E H Q:=
 w1 (c:=⟨.builtin .len,#[x],#[t]⟩) rfl (vs:=[a]) (by simp only[zfj,h]) (by simp only[mN,h1]) j
theorem aE.append(h:zdo E x=some a)(h1:zdo E y=some b)(h2:zeV P (cfg.keep f) H t u a b=some (v,H'))(j:aE P cfg f l (T.set E d (some v)) H' Q):aE P cfg f (⟨some d,.call ⟨.builtin .append,#[x,y],#[t,u]⟩,none⟩::l) E H Q:=
 w1 (c:=⟨.builtin .append,#[x,y],#[t,u]⟩) rfl (vs:=[a,b]) Ap (by simp only[mN,h2]) j
def od:=@aE.append
end
theorem gU(E:ax)(d t:Nat)(v:AV):ax.at (T.set E d (some v)) t=bif t == d then v else E.at t:=by
 rw[rR];by_cases h:t=d
 .simp[h]
 .have:(t == d)=false:=by simpa using h
  rw[ai h,this,pd]
theorem get_set(H:Hp)(d t:Nat)(b:HB):(H.set d b).get t=bif t == d then some b else H.get t:=by
 rw[aW];by_cases h:t=d
 .simp[h]
 .have:(t == d)=false:=by simpa using h
  rw[ai h,this,pd]
theorem M3(E:ax)(t:Nat):zdo E (.tmp t)=some (E.at t):=rfl
theorem M4(E:ax)(k:IntKind)(n:Int):zdo E (.const (.int k n))=some (.int k n):=rfl
theorem M5(E:ax)(b:Bool):zdo E (.const (.bool b))=some (.bool b):=rfl
theorem M6(E:ax)(g:FuncId):zdo E (.func g)=some (.clo g []):=rfl
theorem M7(E:ax)(s:ByteArray):zdo E (.const (.string s))=some (.str s.data.toList):=rfl
section
variable {D:BinOp -> Sx -> Sx -> Option Bool} {t:TypeId} {k:IntKind} {a b:Int} {s u:List UInt8}
theorem M8:zep P D .add t (.int k a) (.int k b)=some (.int k (k.wrap (a+b))):=md
theorem M9:zep P D .sub t (.int k a) (.int k b)=some (.int k (k.wrap (a-b))):=md
theorem Na:zep P D .mul t (.int k a) (.int k b)=some (.int k (k.wrap (a*b))):=md
theorem mZ(h:b≠0):zep P D .quo t (.int k a) (.int k b)=some (.int k (k.wrap (a.tdiv b))):=by simp[zep,nS,zfw,h]
theorem qk(h:b≠0):zep P D .rem t (.int k a) (.int k b)=some (.int k (a.tmod b)):=by simp[zep,nS,zfw,h]
theorem Nb:zep P D .and t (.int k a) (.int k b)=some (.int k (k.wrap (BitVec.ofInt k.bits a &&& BitVec.ofInt k.bits b).toNat)):=md
theorem Nc:zep P D .or t (.int k a) (.int k b)=some (.int k (k.wrap (BitVec.ofInt k.bits a |||BitVec.ofInt k.bits b).toNat)):=md
theorem Nf:zep P D .xor t (.int k a) (.int k b)=some (.int k (k.wrap (BitVec.ofInt k.bits a^^^ BitVec.ofInt k.bits b).toNat)):=md
theorem Ng:zep P D .eql t (.int k a) (.int k b)=some (.bool (decide (a=b))):=by simp[zep,nS,zfw];rfl
theorem Nh:zep P D .neq t (.int k a) (.int k b)=some (.bool (!decide (a=b))):=by simp[zep,nS,zfw];rfl
theorem Ni:zep P D .lss t (.int k a) (.int k b)=some (.bool (decide (a<b))):=md
theorem Nj:zep P D .leq t (.int k a) (.int k b)=some (.bool (decide (a<=b))):=md
theorem Nk:zep P D .gtr t (.int k a) (.int k b)=some (.bool (decide (b<a))):=md
theorem Nl:zep P D .geq t (.int k a) (.int k b)=some (.bool (decide (b<=a))):=md
theorem Nm:zep P D .eql t (.str s) (.str u)=some (.bool (decide (s=u))):=by
 simp only[zep,tC];by_cases h:s=u<;>simp[h]
theorem Nn:zep P D .neq t (.str s) (.str u)=some (.bool (!decide (s=u))):=by
 simp only[zep,tC];by_cases h:s=u<;>simp[h]
theorem No{x:Bool}:nT .not (.bool x)=some (.bool !x):=rfl
theorem Np:nT .neg (.int k a)=some (.int k (k.wrap (0-a))):=rfl
end
theorem zfD{i:Nat}(h:i<2^62):IntKind.wrap .i64 ((i:Int)+1)=((i+1:Nat):Int):=by
 rw[qa _ ac];rfl
theorem zfE{H:Hp}{t e:TypeId}(h:P.underlying t=some (.slice e))(xs:List (List AV)):zdY P H t (.lst xs)=some (.int .i64 xs.length):=wN
theorem zfn{H:Hp}{t e:TypeId}(h:P.underlying t=some (.slice e))(r o n z:Nat):zdY P H t (.sl r o n z)=some (.int .i64 n):=wN
theorem zfs{H:Hp}{t e:TypeId}(h:P.underlying t=some (.slice e)):zdY P H t .nilS=some (.int .i64 0):=wN
theorem Nq{H:Hp}{t:TypeId}(h:P.underlying t=some .string)(s:List UInt8):zdY P H t (.str s)=some (.int .i64 s.length):=wN
theorem mj{t e:TypeId}{s:Nat}(h:P.underlying t=some (.slice e))(K:zdB P e=some s){r o n z i:Nat}(A:i<n):zdV P t (.sl r o n z) (.int .i64 (i:Int))=some (.ptr r (o+i*s)):=by
 show zdV P t (.sl r o n z) (.int .i64 (Int.ofNat i))=_;simp only[zdV,h,K,A,bT]
def ur:TypeDesc->Bool
 | .struct _|.array _ _=>false
 |_=>true
theorem zeQ{t:TypeId}{d:TypeDesc}(h:P.underlying t=some d)(hd:ur d=true)(cs:List AV)(o:Nat):zdx P t cs o=cs[o]?:=by
 unfold zdx;rw[h];cases d<;>simp_all[ur]
theorem ql{H:Hp}{t:TypeId}{d:TypeDesc}(h:P.underlying t=some d)(hd:ur d=true){r o:Nat}{cs:List AV}{imm:Nat}{tip:Bool}(C:H.get r=some (.cells cs imm tip)):zeX P H t (.ptr r o)=cs[o]?:=by
 simp only[zeX,C,zeQ h hd]
def gE(z:Nat):Option (List AV)->Option AV
 |some Z=>if Z.length=z then some (.iptr Z)else none
 |none=>none
theorem Nr(z:Nat)(row:List AV):gE z (some row)=if row.length=z then some (.iptr row)else none:=rfl
def w4:Option UInt8->Option AV
 |some b=>some (.int .u8 b.toNat)
 |none=>none
theorem Ns(b:UInt8):w4 (some b)=some (.int .u8 b.toNat):=rfl
def zd7(s:Nat)(cs:List AV):Option AV:=if (cs.take s).length=s then some (.agg (cs.take s))else none
theorem zfo{t:TypeId}{d:TypeDesc}{s:Nat}(h:P.underlying t=some d)(hd:ur d=false)(K:zdB P t=some s)(cs:List AV)(o:Nat):zdx P t cs o=zd7 s (cs.drop o):=by
 unfold zdx zd7;rw[h];cases d<;>simp_all[ur]
theorem zfF{t e:TypeId}{s:Nat}(h:P.underlying t=some (.slice e))(K:zdB P e=some s)(xs:List (List AV)){n:Int}(Z:0<=n)(k:IntKind):zdV P t (.lst xs) (.int k n)=gE s (xs[n.toNat]?):=by
 obtain⟨m,rfl⟩:=eL Z;show zdV P t (.lst xs) (.int k (Int.ofNat m))=gE s (xs[m]?);simp only[zdV,h,K];cases xs[m]? <;>rfl
theorem zfG{t e:TypeId}{s:Nat}(h:P.underlying t=some (.slice e))(K:zdB P e=some s)(r o l z:Nat){n:Int}(Z:0<=n)(k:IntKind):zdV P t (.sl r o l z) (.int k n)=bif decide (n.toNat<l)then some (.ptr r (o+n.toNat*s))else none:=by
 obtain⟨m,rfl⟩:=eL Z;show zdV P t (.sl r o l z) (.int k (Int.ofNat m))=bif decide (m<l)then some (.ptr r (o+m*s))else none
 simp only[zdV,h,K];by_cases M:m<l<;>simp[M]
theorem Nt{t:TypeId}(h:P.underlying t=some .string)(s:List UInt8){n:Int}(Z:0<=n)(k:IntKind):lW P t (.str s) (.int k n)=w4 (s[n.toNat]?):=by
 obtain⟨m,rfl⟩:=eL Z;show lW P t (.str s) (.int k (Int.ofNat m))=w4 (s[m]?);simp only[lW,h];cases s[m]? <;>rfl
def r3(P:Program)(t:TypeId)(o:Nat):Option HB->Option AV
 |some (.cells Y _ _)=>zdx P t Y o
 |_=>none
theorem Nu(t:TypeId)(o:Nat)(cs:List AV)(imm:Nat)(tip:Bool):r3 P t o (some (.cells cs imm tip))=zdx P t cs o:=rfl
theorem r4(H:Hp)(t:TypeId)(r o:Nat):zeX P H t (.ptr r o)=r3 P t o (H.get r):=rfl
theorem Nv(H:Hp)(t:TypeId)(cs:List AV):zeX P H t (.iptr cs)=zdx P t cs 0:=rfl
theorem r7(H:Hp)(b:HB)(t:Nat):(H.alloc b).get t=bif t == H.next then some b else H.get t:=by
 rw[zdq];by_cases h:t=H.next
 .simp[h]
 .have:(t == H.next)=false:=by simpa using h
  rw[ai h,this,pd]
noncomputable def Eu(H:Hp)(r o:Nat)(Y:List AV):Option Nat->Option HB->Option Hp
 |some s,some (.cells Z j K)=>if Y.length=s/\j<=o/\o+s<=Z.length/\Y.all AV.one=true then some (H.set r (.cells (splice Z o Y) j K))else none
 |_,_=>none
theorem w5(H:Hp)(r o:Nat)(Y:List AV)(s:Nat)(cs:List AV)(imm:Nat)(tip:Bool):Eu H r o Y (some s) (some (.cells cs imm tip))=if Y.length=s/\imm<=o/\o+s<=cs.length/\Y.all AV.one=true then some (H.set r (.cells (splice cs o Y) imm tip))else none:=rfl
theorem r8(H:Hp)(t:TypeId)(r o:Nat)(v:AV):jA P H t (.ptr r o) v=Eu H r o v.cells (zdB P t) (H.get r):=by
 unfold jA;simp only[];cases i:H.get r with
 |none=>cases zdB P t<;>rfl
 |some b=>cases b with
  |map C=>cases zdB P t<;>rfl
  |cells Y j K=>cases zdB P t with
   |none=>rfl
   |some s=>rfl
theorem Ev(cs:List AV)(o:Nat)(Z:List AV):splice cs o Z=cs.take o++Z++cs.drop (o+Z.length):=rfl
theorem Nw(cs:List AV):AV.cells (.agg cs)=cs:=rfl
theorem cells_int(k:IntKind)(n:Int):AV.cells (.int k n)=[.int k n]:=rfl
theorem Ew(b:Bool):AV.cells (.bool b)=[.bool b]:=rfl
theorem Nx(b:List UInt8):AV.cells (.str b)=[.str b]:=rfl
theorem Ny(b:List (List AV)):AV.cells (.lst b)=[.lst b]:=rfl
theorem Nz(r o l z:Nat):AV.cells (.sl r o l z)=[.sl r o l z]:=rfl
theorem NA:AV.cells .nilS=[.nilS]:=rfl
theorem NB(r o:Nat):AV.cells (.ptr r o)=[.ptr r o]:=rfl
theorem NC(r:Nat):AV.cells (.map r)=[.map r]:=rfl
theorem ND(g:Nat)(cap:List AV):AV.cells (.clo g cap)=[.clo g cap]:=rfl
theorem Ey(k:IntKind)(n:Int):AV.one (.int k n)=true:=rfl
theorem NE(b:Bool):AV.one (.bool b)=true:=rfl
theorem NF(b:List UInt8):AV.one (.str b)=true:=rfl
theorem NG(b:List (List AV)):AV.one (.lst b)=true:=rfl
theorem NH(r o l z:Nat):AV.one (.sl r o l z)=true:=rfl
theorem NI:AV.one .nilS=true:=rfl
theorem NJ(r o:Nat):AV.one (.ptr r o)=true:=rfl
theorem NK(r:Nat):AV.one (.map r)=true:=rfl
theorem NL(g:Nat)(cap:List AV):AV.one (.clo g cap)=true:=rfl
theorem zec:zd3.next=0:=rfl
theorem NM(H:Hp)(t:TypeId)(s:List UInt8)(lo A:Option AV):k8 P H t (.str s) lo A=jk P t (.str s) lo A:=rfl
theorem NN(H:Hp)(t:TypeId)(s:List (List AV))(lo A:Option AV):k8 P H t (.lst s) lo A=jk P t (.lst s) lo A:=rfl
theorem NO(H:Hp)(t:TypeId)(r o n z:Nat)(lo A:Option AV):k8 P H t (.sl r o n z) lo A=jk P t (.sl r o n z) lo A:=rfl
theorem NP(H:Hp)(t:TypeId)(lo A:Option AV):k8 P H t .nilS lo A=jk P t .nilS lo A:=rfl
theorem Av(n k:Nat):(n == n+(k+1))=false:=aB
theorem Aw(n k:Nat):(n+(k+1) == n)=false:=aB
theorem Ez(n a b:Nat):(n+a == n+b)=(a == b):=by
 by_cases h:a=b
 .simp[h]
 .have i:(a == b)=false:=by simpa using h
  rw[i];simp;omega
end
attribute [irreducible] aE zdX zdw fS
abbrev zeE(l:List (List UInt8)):AV:=.lst (l.map fun s=>[.str s])
abbrev zel(l:List Int):AV:=.lst (l.map fun n=>[.int .i64 n])
def str(s:String):List UInt8:=s.toUTF8.data.toList
inductive Ex where
 |mk (kind:Int) (n:Int) (name:List UInt8) (op:Int) (kids:List Ex)
def Ex.kind:Ex->Int|.mk x _ _ _ _=>x
def Ex.n:Ex->Int|.mk _ x _ _ _=>x
def Ex.name:Ex->List UInt8|.mk _ _ x _ _=>x
def Ex.op:Ex->Int|.mk _ _ _ x _=>x
def Ex.kids:Ex->List Ex|.mk _ _ _ _ x=>x
mutual
def Ex.cells:Ex->List AV
 | .mk a0 a1 zeU a3 a4=>[.int .i64 a0,.int .i64 a1,.str zeU,.int .i64 a3,.lst (w6 a4)]
def w6:List Ex->List (List AV)
 |[]=>[]
 |x::xs=>Ex.cells x::w6 xs
end
theorem EC:∀l:List Ex,w6 l=l.map Ex.cells
 |[]=>rfl
 |x::xs=>by rw[w6,EC xs];rfl
theorem Ex.cells_eq(x:Ex):x.cells=[.int .i64 x.kind,.int .i64 x.n,.str x.name,.int .i64 x.op,.lst (x.kids.map Ex.cells)]:=by
 cases x;simp only[Ex.cells,EC,Ex.kind,Ex.n,Ex.name,Ex.op,Ex.kids]
def qm:=@Ex.cells_eq
theorem Ex.clen(x:Ex):x.cells.length=5:=qg
theorem Ex.c0(x:Ex):x.cells[0]?=some (.int .i64 x.kind):=qg
theorem Ex.c1(x:Ex):x.cells[1]?=some (.int .i64 x.n):=qg
theorem Ex.c2(x:Ex):x.cells[2]?=some (.str x.name):=qg
theorem Ex.c3(x:Ex):x.cells[3]?=some (.int .i64 x.op):=qg
theorem Ex.c4(x:Ex):x.cells[4]?=some (.lst (x.kids.map Ex.cells)):=qg
theorem Ex.whole(x:Ex):zd7 5 x.cells=some (.agg x.cells):=by unfold zd7;rw[qm];rfl
theorem Ex.one(x:Ex):x.cells.all AV.one=true:=qg
inductive St where
 |mk (kind:Int) (name:List UInt8) (to:List UInt8) (n:Int) (at_:Ex) (value:Ex) (args:List Ex) (thn:List St) (els:List St)
def St.kind:St->Int|.mk x _ _ _ _ _ _ _ _=>x
def St.name:St->List UInt8|.mk _ x _ _ _ _ _ _ _=>x
def St.to:St->List UInt8|.mk _ _ x _ _ _ _ _ _=>x
def St.n:St->Int|.mk _ _ _ x _ _ _ _ _=>x
def St.at_:St->Ex|.mk _ _ _ _ x _ _ _ _=>x
def St.value:St->Ex|.mk _ _ _ _ _ x _ _ _=>x
def St.args:St->List Ex|.mk _ _ _ _ _ _ x _ _=>x
def St.thn:St->List St|.mk _ _ _ _ _ _ _ x _=>x
def St.els:St->List St|.mk _ _ _ _ _ _ _ _ x=>x
mutual
def St.cells:St->List AV
 | .mk a0 a1 zeU a3 a4 zeD a6 a7 zgf=>[.int .i64 a0,.str a1,.str zeU,.int .i64 a3,.int .i64 a4.kind,.int .i64 a4.n,.str a4.name,.int .i64 a4.op,.lst (a4.kids.map Ex.cells),.int .i64 zeD.kind,.int .i64 zeD.n,.str zeD.name,.int .i64 zeD.op,.lst (zeD.kids.map Ex.cells),.lst (a6.map Ex.cells),.lst (ut a7),.lst (ut zgf)]
def ut:List St->List (List AV)
 |[]=>[]
 |x::xs=>St.cells x::ut xs
end
theorem ED:∀l:List St,ut l=l.map St.cells
 |[]=>rfl
 |x::xs=>by rw[ut,ED xs];rfl
theorem St.cells_eq(x:St):x.cells=[.int .i64 x.kind,.str x.name,.str x.to,.int .i64 x.n,.int .i64 x.at_.kind,.int .i64 x.at_.n,.str x.at_.name,.int .i64 x.at_.op,.lst (x.at_.kids.map Ex.cells),.int .i64 x.value.kind,.int .i64 x.value.n,.str x.value.name,.int .i64 x.value.op,.lst (x.value.kids.map Ex.cells),.lst (x.args.map Ex.cells),.lst (x.thn.map St.cells),.lst (x.els.map St.cells)]:=by
 cases x;simp only[St.cells,ED,St.kind,St.name,St.to,St.n,St.at_,St.value,St.args,St.thn,St.els]
def sa:=@St.cells_eq
theorem St.clen(x:St):x.cells.length=17:=ip
theorem St.c0(x:St):x.cells[0]?=some (.int .i64 x.kind):=ip
theorem St.c1(x:St):x.cells[1]?=some (.str x.name):=ip
theorem St.c2(x:St):x.cells[2]?=some (.str x.to):=ip
theorem St.c3(x:St):x.cells[3]?=some (.int .i64 x.n):=ip
theorem St.c4(x:St):x.cells[4]?=some (.int .i64 x.at_.kind):=ip
theorem St.c5(x:St):x.cells[5]?=some (.int .i64 x.at_.n):=ip
theorem St.c6(x:St):x.cells[6]?=some (.str x.at_.name):=ip
theorem St.c7(x:St):x.cells[7]?=some (.int .i64 x.at_.op):=ip
theorem St.c8(x:St):x.cells[8]?=some (.lst (x.at_.kids.map Ex.cells)):=ip
theorem St.c9(x:St):x.cells[9]?=some (.int .i64 x.value.kind):=ip
theorem St.c10(x:St):x.cells[10]?=some (.int .i64 x.value.n):=ip
theorem St.c11(x:St):x.cells[11]?=some (.str x.value.name):=ip
theorem St.c12(x:St):x.cells[12]?=some (.int .i64 x.value.op):=ip
theorem St.c13(x:St):x.cells[13]?=some (.lst (x.value.kids.map Ex.cells)):=ip
theorem St.c14(x:St):x.cells[14]?=some (.lst (x.args.map Ex.cells)):=ip
theorem St.c15(x:St):x.cells[15]?=some (.lst (x.thn.map St.cells)):=ip
theorem St.c16(x:St):x.cells[16]?=some (.lst (x.els.map St.cells)):=ip
theorem St.whole(x:St):zd7 17 x.cells=some (.agg x.cells):=by unfold zd7;rw[sa];rfl
theorem St.one(x:St):x.cells.all AV.one=true:=ip
theorem NQ(x:St):zd7 5 (x.cells.drop 4)=some (.agg x.at_.cells):=by unfold zd7;rw[sa,qm];rfl
theorem St.part_value(x:St):zd7 5 (x.cells.drop 9)=some (.agg x.value.cells):=by unfold zd7;rw[sa,qm];rfl
structure Fu where
 name:List UInt8
 params:List (List UInt8)
 locals:List (List UInt8)
 body:List St
 value:Ex
def Fu.cells(x:Fu):List AV:=[.str x.name,zeE x.params,zeE x.locals,.lst (x.body.map St.cells),.int .i64 x.value.kind,.int .i64 x.value.n,.str x.value.name,.int .i64 x.value.op,.lst (x.value.kids.map Ex.cells)]
theorem Fu.cells_eq(x:Fu):x.cells=[.str x.name,zeE x.params,zeE x.locals,.lst (x.body.map St.cells),.int .i64 x.value.kind,.int .i64 x.value.n,.str x.value.name,.int .i64 x.value.op,.lst (x.value.kids.map Ex.cells)]:=rfl
def uu:=@Fu.cells_eq
theorem Fu.clen(x:Fu):x.cells.length=9:=me
theorem Fu.c0(x:Fu):x.cells[0]?=some (.str x.name):=me
theorem Fu.c1(x:Fu):x.cells[1]?=some (zeE x.params):=me
theorem Fu.c2(x:Fu):x.cells[2]?=some (zeE x.locals):=me
theorem Fu.c3(x:Fu):x.cells[3]?=some (.lst (x.body.map St.cells)):=me
theorem Fu.c4(x:Fu):x.cells[4]?=some (.int .i64 x.value.kind):=me
theorem Fu.c5(x:Fu):x.cells[5]?=some (.int .i64 x.value.n):=me
theorem Fu.c6(x:Fu):x.cells[6]?=some (.str x.value.name):=me
theorem Fu.c7(x:Fu):x.cells[7]?=some (.int .i64 x.value.op):=me
theorem Fu.c8(x:Fu):x.cells[8]?=some (.lst (x.value.kids.map Ex.cells)):=me
theorem Fu.whole(x:Fu):zd7 9 x.cells=some (.agg x.cells):=by unfold zd7;rw[uu];rfl
theorem Fu.one(x:Fu):x.cells.all AV.one=true:=me
theorem Fu.part_value(x:Fu):zd7 5 (x.cells.drop 4)=some (.agg x.value.cells):=by unfold zd7;rw[uu,qm];rfl
structure Ar where
 name:List UInt8
 len:Int
def Ar.cells(x:Ar):List AV:=[.str x.name,.int .i64 x.len]
theorem Ar.cells_eq(x:Ar):x.cells=[.str x.name,.int .i64 x.len]:=rfl
theorem Ar.clen(x:Ar):x.cells.length=2:=wO
theorem Ar.c0(x:Ar):x.cells[0]?=some (.str x.name):=wO
theorem Ar.c1(x:Ar):x.cells[1]?=some (.int .i64 x.len):=wO
theorem Ar.whole(x:Ar):zd7 2 x.cells=some (.agg x.cells):=by unfold zd7;rw[Ar.cells_eq];rfl
theorem Ar.one(x:Ar):x.cells.all AV.one=true:=wO
structure Pr where
 arrays:List Ar
 funcs:List Fu
def Pr.cells(x:Pr):List AV:=[.lst (x.arrays.map Ar.cells),.lst (x.funcs.map Fu.cells)]
theorem Pr.cells_eq(x:Pr):x.cells=[.lst (x.arrays.map Ar.cells),.lst (x.funcs.map Fu.cells)]:=rfl
theorem Pr.clen(x:Pr):x.cells.length=2:=wP
theorem Pr.c0(x:Pr):x.cells[0]?=some (.lst (x.arrays.map Ar.cells)):=wP
theorem Pr.c1(x:Pr):x.cells[1]?=some (.lst (x.funcs.map Fu.cells)):=wP
theorem Pr.whole(x:Pr):zd7 2 x.cells=some (.agg x.cells):=by unfold zd7;rw[Pr.cells_eq];rfl
theorem Pr.one(x:Pr):x.cells.all AV.one=true:=wP
structure Tk where
 kind:Int
 text:List UInt8
 at_:Int
def Tk.cells(x:Tk):List AV:=[.int .i64 x.kind,.str x.text,.int .i64 x.at_]
theorem Tk.cells_eq(x:Tk):x.cells=[.int .i64 x.kind,.str x.text,.int .i64 x.at_]:=rfl
theorem Tk.clen(x:Tk):x.cells.length=3:=um
theorem Tk.c0(x:Tk):x.cells[0]?=some (.int .i64 x.kind):=um
theorem Tk.c1(x:Tk):x.cells[1]?=some (.str x.text):=um
theorem Tk.c2(x:Tk):x.cells[2]?=some (.int .i64 x.at_):=um
theorem Tk.whole(x:Tk):zd7 3 x.cells=some (.agg x.cells):=by unfold zd7;rw[Tk.cells_eq];rfl
theorem Tk.one(x:Tk):x.cells.all AV.one=true:=um
structure Nd where
 op:Int
 imm:Int
 kids:List Int
def Nd.cells(x:Nd):List AV:=[.int .i64 x.op,.int .i64 x.imm,zel x.kids]
theorem Nd.cells_eq(x:Nd):x.cells=[.int .i64 x.op,.int .i64 x.imm,zel x.kids]:=rfl
theorem Nd.clen(x:Nd):x.cells.length=3:=uo
theorem Nd.c0(x:Nd):x.cells[0]?=some (.int .i64 x.op):=uo
theorem Nd.c1(x:Nd):x.cells[1]?=some (.int .i64 x.imm):=uo
theorem Nd.c2(x:Nd):x.cells[2]?=some (zel x.kids):=uo
theorem Nd.whole(x:Nd):zd7 3 x.cells=some (.agg x.cells):=by unfold zd7;rw[Nd.cells_eq];rfl
def w7:=@Nd.whole
theorem Nd.one(x:Nd):x.cells.all AV.one=true:=uo
structure Gr where
 name:List UInt8
 params:Int
 nodes:List Nd
 value:Int
 state:Int
def Gr.cells(x:Gr):List AV:=[.str x.name,.int .i64 x.params,.lst (x.nodes.map Nd.cells),.int .i64 x.value,.int .i64 x.state]
theorem Gr.cells_eq(x:Gr):x.cells=[.str x.name,.int .i64 x.params,.lst (x.nodes.map Nd.cells),.int .i64 x.value,.int .i64 x.state]:=rfl
theorem Gr.clen(x:Gr):x.cells.length=5:=qh
theorem Gr.c0(x:Gr):x.cells[0]?=some (.str x.name):=qh
theorem Gr.c1(x:Gr):x.cells[1]?=some (.int .i64 x.params):=qh
theorem Gr.c2(x:Gr):x.cells[2]?=some (.lst (x.nodes.map Nd.cells)):=qh
theorem Gr.c3(x:Gr):x.cells[3]?=some (.int .i64 x.value):=qh
theorem Gr.c4(x:Gr):x.cells[4]?=some (.int .i64 x.state):=qh
theorem Gr.whole(x:Gr):zd7 5 x.cells=some (.agg x.cells):=by unfold zd7;rw[Gr.cells_eq];rfl
theorem Gr.one(x:Gr):x.cells.all AV.one=true:=qh
structure Un where
 arrays:List Ar
 funcs:List Gr
def Un.cells(x:Un):List AV:=[.lst (x.arrays.map Ar.cells),.lst (x.funcs.map Gr.cells)]
theorem Un.cells_eq(x:Un):x.cells=[.lst (x.arrays.map Ar.cells),.lst (x.funcs.map Gr.cells)]:=rfl
theorem Un.clen(x:Un):x.cells.length=2:=wQ
theorem Un.c0(x:Un):x.cells[0]?=some (.lst (x.arrays.map Ar.cells)):=wQ
theorem Un.c1(x:Un):x.cells[1]?=some (.lst (x.funcs.map Gr.cells)):=wQ
theorem Un.whole(x:Un):zd7 2 x.cells=some (.agg x.cells):=by unfold zd7;rw[Un.cells_eq];rfl
theorem Un.one(x:Un):x.cells.all AV.one=true:=wQ
abbrev eM(n:Int):Int:=IntKind.wrap .i64 n
section
variable (q:Ex -> Int -> Bool)
mutual
def jK:Ex->Int->Bool
 | .mk k n s o U,d=>q (.mk k n s o U) d&&zfp U (eM (d+1))
def zfp:List Ex->Int->Bool
 |[],_=>true
 |e::es,d=>jK e d&&zfp es d
end
theorem Ax(e:Ex)(d:Int):jK q e d=(q e d&&zfp q e.kids (eM (d+1))):=by
 cases e;simp only[jK,Ex.kids]
theorem w8{l:List Ex}{i:Nat}(h:i<l.length)(d:Int):zfp q (l.drop i) d=(jK q l[i] d&&zfp q (l.drop (i+1)) d):=by
 rw[fq h,zfp]
end
section
variable {σ:Type} (q:St -> Int -> σ -> Bool × σ)
mutual
def iK:St->Int->σ->Bool×σ
 | .mk k m I n a v args A C,d,s=>match q (.mk k m I n a v args A C) d s with
   |(false,s)=>(false,s)
   |(true,s)=>match zeH A (eM (d+1)) s with
    |(false,s)=>(false,s)
    |(true,s)=>zeH C (eM (d+1)) s
def zeH:List St->Int->σ->Bool×σ
 |[],_,s=>(true,s)
 |x::l,d,s=>match iK x d s with
  |(false,s)=>(false,s)
  |(true,s)=>zeH l d s
end
theorem NR(x:St)(d:Int)(s:σ):iK q x d s=match q x d s with
 |(false,s)=>(false,s)
 |(true,s)=>match zeH q x.thn (eM (d+1)) s with
  |(false,s)=>(false,s)
  |(true,s)=>zeH q x.els (eM (d+1)) s:=by
 cases x;simp only[iK,St.thn,St.els]
theorem NS{l:List St}{i:Nat}(h:i<l.length)(d:Int)(s:σ):zeH q (l.drop i) d s=match iK q l[i] d s with
 |(false,s)=>(false,s)
 |(true,s)=>zeH q (l.drop (i+1)) d s:=by
 rw[fq h,zeH]
end
mutual
def Ex.sz:Ex->Nat
 | .mk _ _ s _ U=>1+s.length+m1 U
def m1:List Ex->Nat
 |[]=>0
 |e::es=>1+e.sz+m1 es
end
mutual
def St.sz:St->Nat
 | .mk _ m I _ a v args A C=>1+m.length+I.length+a.sz+v.sz+m1 args+zfl A+zfl C
def zfl:List St->Nat
 |[]=>0
 |x::l=>1+x.sz+zfl l
end
def zfg:List (List UInt8)->Nat
 |[]=>0
 |s::l=>1+s.length+zfg l
def Fu.sz(f:Fu):Nat:=1+f.name.length+zfg f.params+zfg f.locals+zfl f.body+f.value.sz
def kN:List Fu->Nat
 |[]=>0
 |f::l=>1+f.sz+kN l
def kO:List Ar->Nat
 |[]=>0
 |a::l=>1+a.name.length+kO l
def Pr.sz(p:Pr):Nat:=1+kO p.arrays+kN p.funcs
theorem uv:∀l:List Ex,l.length<=m1 l
 |[]=>aM _
 |e::es=>by have:=uv es;simp only[dq,m1];omega
theorem EE:∀l:List St,l.length<=zfl l
 |[]=>aM _
 |e::es=>by have:=EE es;simp only[dq,zfl];omega
theorem sc:∀l:List (List UInt8),l.length<=zfg l
 |[]=>aM _
 |e::es=>by have:=sc es;simp only[dq,zfg];omega
theorem sd:∀l:List Fu,l.length<=kN l
 |[]=>aM _
 |e::es=>by have:=sd es;simp only[dq,kN];omega
theorem se:∀l:List Ar,l.length<=kO l
 |[]=>aM _
 |e::es=>by have:=se es;simp only[dq,kO];omega
theorem sf:∀{l:List Ex}{x:Ex},x∈l->x.sz<m1 l
 |[],_,h=>by simp at h
 |e::es,x,h=>by
  rcases ff.1 h with rfl|h
  .simp only[m1];omega
  .have:=sf h;simp only[m1];omega
theorem sg:∀{l:List St}{x:St},x∈l->x.sz<zfl l
 |[],_,h=>by simp at h
 |e::es,x,h=>by
  rcases ff.1 h with rfl|h
  .simp only[zfl];omega
  .have:=sg h;simp only[zfl];omega
theorem EF:∀{l:List (List UInt8)}{x:List UInt8},x∈l->x.length<zfg l
 |[],_,h=>by simp at h
 |e::es,x,h=>by
  rcases ff.1 h with rfl|h
  .simp only[zfg];omega
  .have:=EF h;simp only[zfg];omega
theorem sh:∀{l:List Fu}{x:Fu},x∈l->x.sz<kN l
 |[],_,h=>by simp at h
 |e::es,x,h=>by
  rcases ff.1 h with rfl|h
  .simp only[kN];omega
  .have:=sh h;simp only[kN];omega
theorem Ex.sz_eq(e:Ex):e.sz=1+e.name.length+m1 e.kids:=by cases e;simp only[Ex.sz,Ex.name,Ex.kids]
theorem St.sz_eq(x:St):x.sz=1+x.name.length+x.to.length+x.at_.sz+x.value.sz+m1 x.args+zfl x.thn+zfl x.els:=by cases x;simp only[St.sz,St.name,St.to,St.at_,St.value,St.args,St.thn,St.els]
structure FrB (base:Nat) (H H':Hp):Prop where
 next:H.next<=H'.next
 get:∀r,base<=r->r<H.next->H'.get r=H.get r
theorem FrB.refl(base:Nat)(H:Hp):FrB base H H:=⟨aM _,fun _ _ _=>rfl⟩
def gg:=@FrB.refl
theorem FrB.trans{base:Nat}{a b c:Hp}(h:FrB base a b)(k:FrB base b c):FrB base a c:=⟨eT h.next k.next,fun r i g=>(k.get r i (gz g h.next)).trans (h.get r i g)⟩
theorem FrB.alloc{base:Nat}{a b:Hp}(h:FrB base a b)(x:HB):FrB base a (b.alloc x):=⟨eT h.next (fQ _),fun r i g=>by
 have:=h.next
 rw[zdq,ai ac];exact h.get r i g⟩
theorem FrB.set{base r:Nat}{a b:Hp}(h:FrB base a b)(hr:a.next<=r\/r<base)(x:HB):FrB base a (b.set r x):=⟨h.next,fun k i g=>by
 rw[aW,ai ac];exact h.get k i g⟩
def fJ(base:Nat)(H H':Hp):Prop:=∀r,r<base->H'.get r=H.get r
theorem fJ.refl(base:Nat)(H:Hp):fJ base H H:=fun _ _=>rfl
def ml:=@fJ.refl
theorem fJ.trans{base:Nat}{a b c:Hp}(h:fJ base a b)(k:fJ base b c):fJ base a c:=fun r hr=>(k r hr).trans (h r hr)
theorem fJ.alloc{base:Nat}{a b:Hp}(h:fJ base a b)(z:base<=b.next)(x:HB):fJ base a (b.alloc x):=fun r hr=>by rw[zdq,ai ac];exact h r hr
theorem fJ.set{base r:Nat}{a b:Hp}(h:fJ base a b)(hr:base<=r)(x:HB):fJ base a (b.set r x):=fun k j=>by rw[aW,ai ac];exact h k j
theorem FrB.weak{base F:Nat}(h:base<=F){a b:Hp}(k:FrB base a b):FrB F a b:=⟨k.next,fun r i g=>k.get r (eT h i) g⟩
theorem fJ.weak{base F:Nat}(h:base<=F){a b:Hp}(k:fJ F a b):fJ base a b:=fun r hr=>k r (gz hr h)
def kP(x:St)(d:Int)(s:Int×Int):Bool×(Int×Int):=
 let n:=eM (s.1+1)
 let l:=if x.kind=4 then eM (s.2+1)else s.2
 (decide (d<=20)&&decide (n<=200)&&decide (l<=16),(n,l))
def og(_:Ex)(d:Int):Bool:=decide (d<=20)
def lF(q:Ex->Int->Bool)(x:St)(_:Int)(s:Unit):Bool×Unit:=(jK q x.at_ 0&&jK q x.value 0&&zfp q x.args 0,s)
def lG(q:Ex->Int->Bool)(f:Fu):Bool:=jK q f.value 0&&(zeH (lF q) f.body 0 ()).1
def gW(f:Fu):Bool:=decide ((f.params.length:Int)<=6)&&decide ((f.locals.length:Int)<=8)&&(zeH kP f.body 0 (0,0)).1&&lG og f
def jc(p:Pr):Bool:=!decide (4<(p.arrays.length:Int)) && !decide (8<(p.funcs.length:Int))&&p.arrays.all (fun a=>!decide (a.len<1) && !decide (16<a.len))&&p.funcs.all gW
def oh(b:Int):Int:=IntKind.wrap .u64 (IntKind.wrap .i64 (BitVec.ofInt (IntKind.bits .i64) b &&& BitVec.ofInt (IntKind.bits .i64) 63).toNat)
def Ay(k:IntKind)(a b:Int):Int:=k.wrap (a*2^ min b.toNat k.bits)
def w9(k:IntKind)(a b:Int):Int:=a.fdiv (2^ min b.toNat k.bits)
def si(a b:Int):Int:=if b=0 then 0 else if b=-1 then eM (0-a)else eM (a.tdiv b)
def qn(b:Bool):Int:=if b=true then 1 else 0
def Az(op a b:Int):Int:=
 if op=12 then Ay .i64 a (oh b)else if op=13 then IntKind.wrap .i64 (w9 .u64 (IntKind.wrap .u64 a) (oh b))else if op=14 then w9 .i64 a (oh b)
 else if op=15 then qn (decide (a=b))else if op=16 then qn (!decide (a=b))else if op=17 then qn (decide (a<b))else if op=18 then qn (decide (a<=b))
 else if op=19 then qn (decide (IntKind.wrap .u64 a<IntKind.wrap .u64 b))else 0
def qo(op a b:Int):Int:=
 if op=4 then eM (a+b)else if op=5 then eM (a-b)else if op=6 then eM (a*b)else if op=7 then si a b else if op=8 then (if b=0 then 0 else eM (a-eM (si a b*b)))
 else if op=9 then IntKind.wrap .i64 (BitVec.ofInt (IntKind.bits .i64) a &&& BitVec.ofInt (IntKind.bits .i64) b).toNat
 else if op=10 then IntKind.wrap .i64 (BitVec.ofInt (IntKind.bits .i64) a |||BitVec.ofInt (IntKind.bits .i64) b).toNat
 else if op=11 then IntKind.wrap .i64 (BitVec.ofInt (IntKind.bits .i64) a^^^ BitVec.ofInt (IntKind.bits .i64) b).toNat
 else Az op a b
def qp(op a:Int):Int:=if op=20 then eM (0-a)else if op=21 then IntKind.wrap .i64 (BitVec.ofInt (IntKind.bits .i64) (-1)^^^ BitVec.ofInt (IntKind.bits .i64) a).toNat else 0
theorem NT{a:Int}:nT .xor (.int .i64 a)=some (.int .i64 (IntKind.wrap .i64 (BitVec.ofInt (IntKind.bits .i64) (-1)^^^ BitVec.ofInt (IntKind.bits .i64) a).toNat)):=rfl
theorem NU(n:Int):0<=IntKind.wrap .u64 n:=by
 unfold IntKind.wrap;simp only[IntKind.signed,dZ,cC,cn];exact Int.emod_nonneg _ (by simp[IntKind.bits])
theorem NV(b:Int):0<=oh b:=NU _
theorem NW{P:Program}{D:BinOp->Sx->Sx->Option Bool}{t:TypeId}{k J:IntKind}{a b:Int}(z:0<=b):zep P D .shl t (.int k a) (.int J b)=some (.int k (Ay k a b)):=by
 obtain⟨m,rfl⟩:=eL z;simp only[zep,nS];show oS .shl k a (Int.ofNat m)=_;simp[oS,Ay]
theorem bin_shr{P:Program}{D:BinOp->Sx->Sx->Option Bool}{t:TypeId}{k J:IntKind}{a b:Int}(z:0<=b):zep P D .shr t (.int k a) (.int J b)=some (.int k (w9 k a b)):=by
 obtain⟨m,rfl⟩:=eL z;simp only[zep,nS];show oS .shr k a (Int.ofNat m)=_;simp[oS,w9]
abbrev zea:=List UInt8
structure MS where
 fuel:Int
 fin:Int
 code:Int
 cells:List (zea×List Int)
 out:List Int
def er:List (zea×Int)->zea->Int
 |[],_=>0
 |p::l,nm=>if nm=p.1 then p.2 else er l nm
def setV:List (zea×Int)->zea->Int->List (zea×Int)
 |[],nm,x=>[(nm,x)]
 |p::l,nm,x=>if nm=p.1 then (nm,x)::l else p::setV l nm x
section
variable (p:Pr) (fi:List (zea × Int))
end
def cV(vs:List (zea×Int)):List (AV×AV):=vs.map fun p=>(.str p.1,.int .i64 p.2)
def zew(l:List Int):List AV:=l.map fun n=>.int .i64 n
theorem uw(l:List Int):(zew l).length=l.length:=by simp[zew]
theorem AA(nm:zea):∀(vs:List (zea×Int)) (i:Nat),(jn .string (.str nm) (cV vs) i=some none/\er vs nm=0/\∀x,cV (setV vs nm x)=cV vs++[(.str nm,.int .i64 x)]) \/
 ∃j,j<vs.length/\jn .string (.str nm) (cV vs) i=some (some (i+j,.int .i64 (er vs nm)))/\∀x,cV (setV vs nm x)=(cV vs).set j (.str nm,.int .i64 x)
 |[],i=>.inl ⟨rfl,rfl,fun _=>rfl⟩
 |p::l,i=>by
  by_cases h:nm=p.1
  .refine .inr ⟨0,aB,?_,fun x=>?_⟩
   .simp[cV,jn,lb,er,h]
   .simp[cV,setV,h]
  .have m:jn .string (.str nm) (cV (p::l)) i=jn .string (.str nm) (cV l) (i+1):=by
    show jn .string (.str nm) ((.str p.1,.int .i64 p.2)::cV l) i=_;have:(nm == p.1)=false:=ja;simp[jn,lb,this]
   have F:er (p::l) nm=er l nm:=by simp[er,h]
   have K:∀x,cV (setV (p::l) nm x)=(.str p.1,.int .i64 p.2)::cV (setV l nm x):=fun x=>by simp[setV,h,cV]
   rw[m,F];rcases AA nm l (i+1)with⟨Z,g,o⟩|⟨j,O,Z,o⟩
   .refine .inl ⟨Z,g,fun x=>?_⟩;rw[K,o];simp[cV]
   .refine .inr ⟨j+1,cf,?_,fun x=>?_⟩
    .rw[Z,show i+1+j=i+(j+1) by omega]
    .rw[K,o];simp[cV]
structure Mx where
 p:Pr
 rm:Nat
 rc:Nat
 rf:Nat
 rs:List Nat
 fi:List (zea×Int)
theorem EG{P:Program}{H:Hp}{t Z e r:Nat}{es:List (AV×AV)}{nm:zea}{z:AV}(I:P.underlying t=some (.map Z e))(j:zfQ P Z=some .string)(Y:nR P e=some z)(C:H.get r=some (.map es)):
 (jn .string (.str nm) es 0=some none->zfv P H t (.map r) (.str nm) false=some z)/\∀i v,jn .string (.str nm) es 0=some (some (i,v))->zfv P H t (.map r) (.str nm) false=some v:=by
 refine⟨fun h=>?_,fun i v h=>?_⟩<;>simp only[zfv,I,j,Y,pQ,C,h,tB]
theorem AB{P:Program}{H:Hp}{t z e r:Nat}{es:List (AV×AV)}{nm:zea}{x:AV}(I:P.underlying t=some (.map z e))(j:zfQ P z=some .string)(C:H.get r=some (.map es)):
 (jn .string (.str nm) es 0=some none->zfS P H t (.map r) (.str nm) x=some (H.set r (.map (es++[(.str nm,x)]))))/\∀i v,jn .string (.str nm) es 0=some (some (i,v))->zfS P H t (.map r) (.str nm) x=some (H.set r (.map (es.set i (.str nm,x)))):=by
 refine⟨fun h=>?_,fun i v h=>?_⟩<;>simp only[zfS,I,j,C,h]
theorem EH{P:Program}{H:Hp}{t z e r:Nat}(I:P.underlying t=some (.map z e))(Z:zfQ P z=some .string)(Y:nR P e=some (.int .i64 0)){vs:List (zea×Int)}(C:H.get r=some (.map (cV vs)))(nm:zea):
 zfv P H t (.map r) (.str nm) false=some (.int .i64 (er vs nm)):=by
 obtain⟨l1,l2⟩:=EG (nm:=nm) I Z Y C;rcases AA nm vs 0 with⟨i,g,o⟩|⟨j,O,i,o⟩
 .rw[l1 i,g]
 .rw[l2 _ _ i]
theorem NX{P:Program}{H:Hp}{t z e r:Nat}(I:P.underlying t=some (.map z e))(Z:zfQ P z=some .string){vs:List (zea×Int)}(C:H.get r=some (.map (cV vs)))(nm:zea)(x:Int):
 zfS P H t (.map r) (.str nm) (.int .i64 x)=some (H.set r (.map (cV (setV vs nm x)))):=by
 obtain⟨l1,l2⟩:=AB (nm:=nm) (x:=.int .i64 x) I Z C;rcases AA nm vs 0 with⟨i,g,o⟩|⟨j,O,i,o⟩
 .rw[l1 i,o]
 .rw[l2 _ _ i,o,bC]
theorem Sx.beq_refl:∀a:Sx,Sx.beq a a=true
 | .var i=>by simp[Sx.beq]
 | .lit n=>by simp[Sx.beq]
 | .bin o k a b=>by simp[Sx.beq,Sx.beq_refl a,Sx.beq_refl b]
 | .conv k a=>by simp[Sx.beq,Sx.beq_refl a]
mutual
theorem AV.beq_refl:∀a:AV,AV.beq a a=true
 | .int k n=>by simp[AV.beq]
 | .sx k e=>by simp[AV.beq,Sx.beq_refl]
 | .bool b=>by simp[AV.beq]
 | .str s=>by simp[AV.beq]
 | .nilP=>rfl
 | .nilM=>rfl
 | .nilF=>rfl
 | .nilS=>rfl
 | .ptr r o=>by simp[AV.beq]
 | .iptr Y=>by simp only[AV.beq];exact zga Y
 | .sl r o l z=>by simp[AV.beq]
 | .lst Z=>by simp only[AV.beq];exact EI Z
 | .map r=>by simp[AV.beq]
 | .clo f Y=>by simp only[AV.beq,zga Y,j6];simp
 | .agg Y=>by simp only[AV.beq];exact zga Y
 | .tup Y=>by simp only[AV.beq];exact zga Y
theorem zga:∀a:List AV,zfK a a=true
 |[]=>rfl
 |a::l=>by simp only[zfK,AV.beq_refl a,zga l,j6]
theorem EI:∀a:List (List AV),pT a a=true
 |[]=>rfl
 |a::l=>by simp only[pT,zga a,EI l,j6]
end
def qq(o:Oper):Bool:=n9 o.op||mU o.op
def xa(o:Oper):Bool:=qq o||(match o.op with|.store ..|.mapUpdate ..=>true |_=>false)
def xb(ops:List Oper):Bool:=
 mO ops&&(List.range ops.length).all (fun i=>match ops[i]? with|some o=>if Nat.blt (i+1) ops.length then qq o else xa o|none=>true)&&(lh ops).all (fun p=>Nat.blt p.2 ops.length)
section
variable {P:Program} {cfg:Cfg} {f N:Nat}
theorem AC{ih:Task->Res}{J:List Oper}:∀{l:List Oper}{E E':ax}{H H':Hp},zfy P cfg ih f N J l E H=.done .normal E' H'->∃rs,gL P cfg ih f N J l E H=.done E' H' rs
 |[],E,E',H,H',h=>by
  simp only[zfy,Res.done.injEq,fR]at h;obtain⟨rfl,rfl⟩:=h;exact⟨[],rfl⟩
 |o::l,E,E',H,H',h=>by
  rw[uq]at h;simp only[gL];cases Z:zfr J E o with
  |true=>
   rw[Z]at h;simp only[]at h⊢;cases g:zez P cfg ih f E H o.op with
   |val v H1=>
    rw[g]at h;simp only[]at h⊢;cases hp:d9 N E o.dst v with
    |none=>rw[hp]at h;simp[zfC]at h
    |some E1=>
     rw[hp]at h;simp only[zfC]at h;obtain⟨rs,hr⟩:=AC h;exact⟨_,by simp only[zfW,hr,lc];rfl⟩
   |done _ _ _=>rw[g]at h;simp at h
   |fail=>rw[g]at h;simp at h
  |false=>
   rw[Z]at h;simp only[]at h⊢;cases hp:d9 N E o.dst zev with
   |none=>rw[hp]at h;simp[zfC]at h
   |some E1=>
    rw[hp]at h;simp only[zfC]at h;obtain⟨rs,hr⟩:=AC h;exact⟨_,by simp only[zfW,hr,lc];rfl⟩
theorem AD{ih:Task->Res}{E:ax}{o:Oper}{v:AV}{H H':Hp}(j:qq o=true)(h:zez P cfg ih f E H o.op=.val v H'):H'=H:=by
 unfold qq at j;rw[oc]at j;rcases j with j|j
 .have m:∀c,o.op≠.call c:=fun c e=>by
   rw[e]at j;simp only[n9,ze9]at j;split at j
   .rename_i i;split at i<;>simp at i
   .simp at j
  exact(zV j ((qe m).1 h)).1
 .exact zW j h
theorem NY{ih:Task->Res}{E:ax}{o:Oper}{v:AV}{H H':Hp}(j:xa o=true)(h:zez P cfg ih f E H o.op=.val v H'):H.next<=H'.next:=by
 unfold xa at j;rw[oc]at j;rcases j with j|j
 .rw[AD j h];exact aM _
 .obtain⟨U,Z,Y,z,A,guard⟩:=o;simp only[]at j h;cases Z<;>simp only[cC]at j
  case store t a x=>
   simp only[zez,cB,vY]at h;split at h
   .split at h
    .rename_i K;simp only[ze8,Res.val.injEq]at h;obtain⟨rfl,rfl⟩:=h;unfold jA at K;split at K
     .split at K
      .split at K
       .simp only[aA]at K;rw[<-K];exact aM _
       .simp at K
      .simp at K
     .simp at K
    .simp[ze8]at h
   .simp[ze8]at h
  case mapUpdate t m k x=>
   simp only[zez,cB,wc]at h;split at h
   .split at h
    .rename_i K;simp only[ze8,Res.val.injEq]at h;obtain⟨rfl,rfl⟩:=h;unfold zfS at K;split at K
     .split at K
      .split at K
       .split at K
        .simp only[aA]at K;rw[<-K];exact aM _
        .simp only[aA]at K;rw[<-K];exact aM _
        .simp at K
       .simp at K
      .simp at K
     .simp at K
    .simp[ze8]at h
   .simp[ze8]at h
theorem NZ{ih ih':Task->Res}{f':FuncId}{E:ax}{op:Op}{H:Hp}(j:mU op=true):zez P cfg ih f E H op=zez P cfg ih' f' E H op:=by
 cases op<;>simp only[mU,ze9,cC]at j<;>try rfl
 rename_i c;simp only[zez,oU];cases hc:c.callee with
 |value g=>rw[hc]at j;simp at j
 |invoke g m=>rfl
 |builtin b=>
  rw[hc]at j;simp only[];cases b<;>simp only[cC]at j<;>rfl
theorem N0{ih:Task->Res}{ops:List Oper}{E E':ax}{H H':Hp}(M:xb ops=true)(h:zfy P cfg ih f N ops ops E H=.done .normal E' H'):j0 P cfg ih f N ops E H=.done .normal E' H':=by
 unfold xb at M;simp only[dC,gS,jq]at M;obtain⟨⟨F,A⟩,Z⟩:=M;obtain⟨rs,hr⟩:=AC h;have L:=ua hr;have hlen:=zT L;obtain⟨_,z2⟩:=zU L;have z:∀(i:Nat) o,ops[i]?=some o->i+1<ops.length->qq o=true:=fun i o K U=>by
  have:=A i ac;rw[K]at this;simp only[show Nat.blt (i+1) ops.length=true by simpa [gQ]using U,bT]at this;exact this
 have m:∀i,i+1<=ops.length->zd5 rs H' i=H:=fun i=>by
  induction i with
  |zero=>intro _;exact z2
  |succ i ih=>
   intro U;have hri:=aR (show i<rs.length by omega);obtain⟨o,K,J⟩:=qd L hri;have h1:=ih ac;have h2:zd5 rs H' (i+1)=zd5 rs H' i:=by
    cases hd:(rs[i]' ac).did with
    |true=>exact AD (z i o K ac) (J.yes hd)
    |false=>exact(J.no hd).2
   rw[h2,h1]
 unfold j0;rw[F];simp only[hr];have Y:pU P cfg (lh ops) rs H'=true:=by
  unfold pU;simp only[dC,gS];refine⟨fun r hm=>?_,fun p I=>?_⟩
  .obtain⟨i,U⟩:=z0.1 hm;obtain⟨o,K,J⟩:=qd L U;have C:i<ops.length:=(de.1 K).1;rw[J.eH,J.eH'];refine Nat.ble_eq_true_of_le ?_;cases hd:r.did with
   |false=>rw[(J.no hd).2];exact aM _
   |true=>
    by_cases V:i+1<ops.length
    .rw[AD (z i o K V) (J.yes hd)];exact aM _
    .have:=A i C;rw[K]at this;have hb:Nat.blt (i+1) ops.length=false:=by
      cases hx:Nat.blt (i+1) ops.length with
      |false=>rfl
      |true=>exact(V (by simpa [gQ]using hx)).elim
     simp only[hb,cC,cn]at this;exact NY this (J.yes hd)
  .have hm:p.2<ops.length:=by simpa [gQ]using Z p I
   cases hrp:rs[p.1]? with
   |none=>rfl
   |some r=>
    obtain⟨o,K,J⟩:=qd L hrp;have C:p.1<ops.length:=(de.1 K).1;simp only[];cases hd:r.did with
    |false=>rfl
    |true=>
     simp only[lC,jb];have hH:r.H=zd5 rs H' p.2:=by rw[J.eH,m _ ac,m _ ac]
     unfold zcL;cases j:ze9 r.o.op with
     |calm=>rfl
     |act=>rfl
     |read=>
      simp only[];have g:=J.yes hd;rw[<-J.eE,<-J.eo,<-J.eH,hH]at g;rw[NZ (P:=P) (cfg:=cfg) (f:=f) (ih:=ih) (ih':=fun _=>.fail) (f':=0) (by simp[mU,j])]at g;rw[g];simp only[AV.beq_refl]
     |make=>
      exfalso;rw[J.eo]at j;by_cases V:p.1+1<ops.length
      .have:=z _ o K V;unfold qq n9 mU at this;rw[j]at this;simp at this
      .have O:=A p.1 C;rw[K]at O;have hb:Nat.blt (p.1+1) ops.length=false:=by
        cases hx:Nat.blt (p.1+1) ops.length with
        |false=>rfl
        |true=>exact(V (by simpa [gQ]using hx)).elim
       simp only[hb,cC,cn,xa,qq,n9,mU,j,Bool.or_self,jb]at O;split at O
       .rename_i g;rw[g]at j;simp[ze9]at j
       .rename_i g;rw[g]at j;simp[ze9]at j
       .simp at O
 rw[Y]
theorem zdX.draw{id:Nat}{ops:List Oper}{l:List SOp}{E:ax}{H:Hp}{Q:AX->ax->Hp->Prop}(F:cfg.plan f id=.text)(Y:xb ops=true)(Z:zdD N ops ops=some l)
 (h:∀K:ax->Hp->Prop,(∀E' H',Q .normal E' H'->K E' H')->aE P cfg f l E H K):zdX P cfg f N (.draw id ops) E H Q:=by
 unfold zdX;intro code hc;cases code with
 |region U g draw=>
  cases draw with
  |false=>simp only[aC,zdG]at hc;split at hc<;>simp at hc
  |true=>
   simp only[aC,SC.draw.injEq]at hc;obtain⟨rfl,rfl⟩:=hc;obtain⟨n,E',H',i,V⟩:=aE.run Z (h (Q .normal) fun _ _ h=>h);refine⟨_,_,_,zek.draw (n:=n) (r:=.done .normal E' H') ?_ aB,V⟩;rw[F];simp only[zfx];exact N0 Y i
 |_=>simp[aC]at hc
end
section
variable {P:Program} {H:Hp} {t u e:TypeId} {keep:Bool}
theorem N1{D:BinOp->Sx->Sx->Option Bool}{t:TypeId}{s u:List UInt8}:zep P D .leq t (.str s) (.str u)=some (.bool (oR s u||s == u)):=rfl
theorem mn{r o n z s:Nat}{cs:List AV}{imm:Nat}{tip:Bool}(C:H.get r=some (.cells cs imm tip))(F:((cs.drop o).take (n*s)).length=n*s):zfk H s (.sl r o n z)=some (n,(cs.drop o).take (n*s)):=by
 unfold zfk;simp only[C,F,bT]
theorem AE{k:IntKind}{s:List UInt8}{m:Nat}(I:P.underlying t=some .string)(M:m<=s.length):jk P t (.str s) none (some (.int k (m:Int)))=some (.str (s.take m)):=by
 show jk P t (.str s) none (some (.int k (Int.ofNat m)))=_;simp[jk,I,ze1,M]
theorem EJ{k:IntKind}{s:List UInt8}{m:Nat}(I:P.underlying t=some .string)(M:m<=s.length):jk P t (.str s) (some (.int k (m:Int))) none=some (.str (s.drop m)):=by
 show jk P t (.str s) (some (.int k (Int.ofNat m))) none=_;simp only[jk,I,ze1];rw[az ⟨M,aM _⟩];rw[eJ aB]
theorem append_nil{s b n:Nat}{z o:List AV}{x:AV}(I:P.underlying t=some (.slice e))(K:zdB P e=some s)(Z:zd6 P e=some b)(Y:zdZ P e=some z)(V:kG P u=true)
 (O:zfk H s x=some (n+1,o)) (U:o.all AV.one=true) (J:z.length=s) (h1:(n+1)*b<=zeL) (h2:n+1<=zeL) :
 zeV P keep H t u .nilS x=some (.sl H.next 0 (n+1) s,H.alloc (.cells o 0 true)):=by
 simp only[zeV,I,K,Z,Y,V,O,U,J,mX,bT,gw,zf5,h1,h2]
theorem AF{s b n r len:Nat}{z o cs:List AV}{x:AV}(I:P.underlying t=some (.slice e))(K:zdB P e=some s)(Z:zd6 P e=some b)(V:zdZ P e=some z)(O:kG P u=true)
 (M:zfk H s x=some (n+1,o)) (U:o.all AV.one=true) (J:z.length=s) (C:H.get r=some (.cells cs 0 true)) (F:cs.length=len*s) (h1:(len+(n+1))*b<=zeL) (h2:len+(n+1)<=zeL) :
 zeV P false H t u (.sl r 0 len s) x=some (.sl H.next 0 (len+(n+1)) s,(H.kill r).alloc (.cells (cs++o) 0 true)):=by
 have Y:gw false H s (.sl r 0 len s)=H:=by
  unfold gw;simp only[C,bC];have:Nat.blt (len*s) cs.length=false:=by
   cases Z:Nat.blt (len*s) cs.length with
   |false=>rfl
   |true=>rw[gQ]at Z;omega
  simp[this]
 simp only[zeV,I,K,Z,V,O,M,U,J,mX,bT,Y,zf5,C,h1,h2,bC,F,cG,gT,dY,cC,cn]
end
theorem N2(E:ax):zdo E (.const (.slice none 0 0))=some .nilS:=rfl
theorem EK(E:ax):zdo E (.const (.map none))=some .nilM:=rfl
def fB:List (zea×Int)->zea->Bool
 |[],_=>false
 |p::l,nm=>if nm=p.1 then true else fB l nm
structure Oc where
 kind:Int
 code:Int
 out:List Int
 value:Int
theorem AG(nm:zea):∀(vs:List (zea×Int)) (i:Nat),(fB vs nm=false->jn .string (.str nm) (cV vs) i=some none/\er vs nm=0)/\(fB vs nm=true->∃j,jn .string (.str nm) (cV vs) i=some (some (j,.int .i64 (er vs nm))))
 |[],i=>⟨fun _=>⟨rfl,rfl⟩,fun h=>by simp[fB]at h⟩
 |p::l,i=>by
  by_cases h:nm=p.1
  .refine⟨fun g=>by simp[fB,h]at g,fun _=>⟨i,?_⟩⟩;simp[cV,jn,lb,er,h]
  .have m:jn .string (.str nm) (cV (p::l)) i=jn .string (.str nm) (cV l) (i+1):=by
    show jn .string (.str nm) ((.str p.1,.int .i64 p.2)::cV l) i=_;have:(nm == p.1)=false:=ja;simp[jn,lb,this]
   have F:er (p::l) nm=er l nm:=by simp[er,h]
   have o:fB (p::l) nm=fB l nm:=by simp[fB,h]
   rw[m,F,o];exact AG nm l (i+1)
theorem EL{P:Program}{H:Hp}{t z e r:Nat}(I:P.underlying t=some (.map z e))(Z:zfQ P z=some .string)(Y:nR P e=some (.int .i64 0)){vs:List (zea×Int)}(C:H.get r=some (.map (cV vs)))(nm:zea):
 zfv P H t (.map r) (.str nm) true=some (.tup [.int .i64 (er vs nm),.bool (fB vs nm)]):=by
 obtain⟨i,g⟩:=AG nm vs 0;cases o:fB vs nm with
 |false=>
  obtain⟨V,U⟩:=i o;simp only[zfv,I,Z,Y,pQ,C,V,tB,U]
 |true=>
  obtain⟨j,V⟩:=g o;simp only[zfv,I,Z,pQ,C,V,tB]
end Go.Ab
namespace Go.Proofs.YtljebeflbbgibaaGreat
set_option maxRecDepth 20000
open Go Go.Ab
structure S9 where
 cells:List (List Int)
 out:List Int
 fuel:Int
 ed:Int
 code:Int
 last:Int
structure R9 where
 k:Bool
 v:Int
 s:Option S9
def zgh:R9:=⟨false,0,none⟩
def R9.known(r:R9):R9:={r with k:=true}
def zeg(res:List R9)(k:Int):Option R9:=if 0<=k then res[k.toNat]? else none
def et(res:List R9)(n:Nd)(j:Nat):Option R9:=n.kids[j]?.bind (zeg res)
def mo(res:List R9):List Int->Option Int
 |[]=>some (-1)
 |k::l=>(zeg res k).bind fun r=>if r.k=true then mo res l else some k
def j8(res:List R9)(n:Nd):Option Int:=(et res n 0).bind fun r=>if r.v≠0 then n.kids[1]? else n.kids[2]?
def ux(res:List R9)(n:Nd):Option Int:=
 if n.op=31 then none
 else if n.op=22 then n.kids[0]?.bind fun c=>(zeg res c).bind fun r=>if r.k=true then (j8 res n).bind fun k=>(zeg res k).bind fun t=>some (if t.k=true then -1 else k)else some c
 else if n.op=27\/n.op=29\/n.op=30 then (et res n 0).bind fun r=>if r.k=true then r.s.bind fun s=>if s.ed≠0 then some (-1)else mo res n.kids else mo res n.kids
 else mo res n.kids
def AH(s:S9)(a i:Int):Option Int:=if 0<=a then s.cells[a.toNat]?.bind fun l=>some (if i<0\/(l.length:Int)<=i then 0 else l.getD i.toNat 0)else none
def xd(s:S9)(a i v:Int):Option S9:=if 0<=a then s.cells[a.toNat]?.bind fun l=>some (if i<0\/(l.length:Int)<=i then s else {s with cells:=s.cells.set a.toNat (l.set i.toNat v) })else none
def oo(start:S9)(res:List R9)(n:Nd):Option S9:=
 if n.op=26 then some start else
 (et res n 0).bind fun r=>r.s.bind fun s=>
   if n.op=28 then (et res n 1).bind fun a=>(et res n 2).bind fun b=>xd s n.imm a.v b.v
   else if s.ed≠0 then some s
   else if n.op=27 then (et res n 1).bind fun a=>some (if a.v≠0 then s else {s with ed:=2,code:=n.imm})
   else if n.op=29 then (et res n 1).bind fun a=>some {s with out:=a.v::s.out}
   else none
def jY(start:S9)(args:List Int)(res:List R9)(n:Nd):Option R9:=
 if n.op=1 then some ⟨false,n.imm,none⟩
 else if n.op=2 then (if 0<=n.imm then args[n.imm.toNat]?.bind fun v=>some ⟨false,v,none⟩else none)
 else if n.op=3\/n.op=25\/n.op=30\/n.op=31 then none
 else if n.op=22 then (j8 res n).bind (zeg res)
 else if n.op=23 then (et res n 0).bind fun r=>r.s.bind fun s=>(et res n 1).bind fun a=>(AH s n.imm a.v).bind fun v=>some ⟨false,v,none⟩
 else if n.op=24 then (et res n 0).bind fun r=>r.s.bind fun s=>some ⟨false,s.last,none⟩
 else if n.op=20\/n.op=21 then (et res n 0).bind fun r=>some ⟨false,qp n.op r.v,none⟩
 else if n.op=26\/n.op=27\/n.op=28\/n.op=29 then (oo start res n).bind fun s=>some ⟨false,0,some s⟩
 else (et res n 0).bind fun a=>(et res n 1).bind fun b=>some ⟨false,qo n.op a.v b.v,none⟩
def zfc(l:List Nd)(start:S9)(args:List Int):Nat->List R9->List Int->Option (List R9)
 |0,_,_=>none
 |_+1,res,[]=>some res
 |n+1,res,i::st=>(zeg res i).bind fun r=>
  if r.k=true then zfc l start args n res st
  else l[i.toNat]?.bind fun J=>(ux res J).bind fun k=>
   if 0<=k then (if st.length<2^20 then zfc l start args n res (k::i::st)else none)
   else (jY start args res J).bind fun t=>zfc l start args n (res.set i.toNat t.known) (i::st)
def sj(Z:List UInt8)(k:Nat):List Gr->Nat->Int->Int
 |[],_,f=>f
 |g::l,i,f=>sj Z k l (i+1) (if g.name=Z/\g.params=k then (i:Int)else f)
def EM(C:List Ar)(L:Int):S9:=⟨C.map fun a=>List.replicate a.len.toNat 0,[],L,0,0,0⟩
def lH(s:S9)(v:Int):Oc:=if s.ed=2 then ⟨2,s.code,s.out.reverse,0⟩else if s.ed=0 then ⟨1,0,s.out.reverse,v⟩else ⟨s.ed,0,s.out.reverse,0⟩
def xe(n m:Nat)(g:Gr)(start:S9)(args:List Int):Option Oc:=
 (zfc g.nodes start args n (List.replicate g.nodes.length zgh) [g.state]).bind fun res=>(zeg res g.state).bind fun r=>r.s.bind fun s=>
   if s.ed=0 then (zfc g.nodes start args m res [g.value]).bind fun I=>(zeg I g.value).bind fun t=>some (lH s t.v)
   else some (lH s 0)
structure Den9 (l:List Nd) (start:S9) (args:List Int) (D:List R9):Prop where
 len:D.length=l.length
 kids:∀(i:Nat) nd,l[i]?=some nd->∀k∈nd.kids,0<=k/\k<i
 ok:∀(i:Nat) nd,l[i]?=some nd->∃r,jY start args D nd=some r/\D[i]?=some r.known
structure Agr9 (res D:List R9):Prop where
 len:res.length=D.length
 ok:∀(j:Nat) r,res[j]?=some r->r.k=true->D[j]?=some r
theorem mp(res:List R9)(i:Nat):zeg res (i:Int)=res[i]?:=by rw[zeg,az ac,dQ]
theorem uy{res:List R9}{k:Int}(A:0<=k)(h:k<res.length):∃r,zeg res k=some r:=by
 rw[zeg,az A];exact⟨_,aR ac⟩
theorem Agr9.get{res D:List R9}(h:Agr9 res D){k:Int}{r:R9}(C:zeg res k=some r)(j:r.k=true):zeg D k=some r:=by
 unfold zeg at C⊢;split at C
 .rename_i A;rw[az A];exact h.ok _ _ C j
 .cases C
theorem EN{res:List R9}:∀{ks:List Int},(∀k∈ks,0<=k/\k<res.length)->∃k,mo res ks=some k/\((k=-1/\∀j∈ks,∃r,zeg res j=some r/\r.k=true)\/(k∈ks/\∃r,zeg res k=some r/\r.k=false))
 |[],_=>⟨-1,rfl,.inl ⟨rfl,fun j O=>by cases O⟩⟩
 |c::ks,h=>by
  obtain⟨A,i⟩:=h c fh;obtain⟨r,hr⟩:=uy A i;rw[mo,hr,da];by_cases Z:r.k=true
  .rw[az Z];obtain⟨k,e,g⟩:=EN (ks:=ks) fun k Z=>h k (fp _ Z)
   refine⟨k,e,?_⟩;rcases g with⟨e,g⟩|⟨g,o⟩
   .exact .inl ⟨e,fun j O=>by
     rcases ff.1 O with rfl|O
     .exact⟨r,hr,Z⟩
     .exact g j O⟩
   .exact .inr ⟨fp _ g,o⟩
  .rw[ai Z];exact⟨c,rfl,.inr ⟨fh,r,hr,rN⟩⟩
theorem AI{res:List R9}{n:Nd}{j:Nat}{r:R9}(h:et res n j=some r):∃c,n.kids[j]?=some c/\zeg res c=some r:=by
 unfold et at h;rw[cm]at h;exact h
theorem N3{res D:List R9}(h:Agr9 res D){n:Nd}(Z:∀j∈n.kids,∃r,zeg res j=some r/\r.k=true)(j:Nat):et res n j=et D n j:=by
 unfold et;cases O:n.kids[j]? with
 |none=>rfl
 |some c=>
  obtain⟨r,i,g⟩:=Z c (i5 O);rw[da,da,i,h.get i g]
theorem EO{res D:List R9}{start:S9}{args:List Int}{n:Nd}(F:n.op≠22)(h:∀j,et res n j=et D n j):jY start args res n=jY start args D n:=by
 have m:oo start res n=oo start D n:=by unfold oo;simp only[h]
 unfold jY;rw[ai (c:=n.op=22) F,ai (c:=n.op=22) F];simp only[h,m]
theorem EP{l:List Nd}{start:S9}{args:List Int}{D res:List R9}(hD:Den9 l start args D)(g:Agr9 res D){i:Nat}{nd:Nd}(A:l[i]?=some nd):∃k,ux res nd=some k/\((k=-1/\jY start args res nd=jY start args D nd)\/(k∈nd.kids/\∃r,zeg res k=some r/\r.k=false)):=by
 obtain⟨r,hr,_⟩:=hD.ok i nd A;have hlt:i<l.length:=by
  by_cases c:i<l.length
  .exact c
  .rw[fg ac]at A;cases A
 have O:∀k∈nd.kids,0<=k/\k<res.length:=fun k Z=>by
  have:=hD.kids i nd A k Z;have:=g.len;have:=hD.len;omega
 have U:nd.op≠22->∃k,mo res nd.kids=some k/\((k=-1/\jY start args res nd=jY start args D nd)\/(k∈nd.kids/\∃r,zeg res k=some r/\r.k=false)):=fun F=>by
  obtain⟨k,e,h|h⟩:=EN O
  .exact⟨k,e,.inl ⟨h.1,EO F (N3 g h.2)⟩⟩
  .exact⟨k,e,.inr h⟩
 unfold ux;by_cases h31:nd.op=31
 .unfold jY at hr;rw[ai ac,ai ac,az ac]at hr;cases hr
 rw[ai h31];by_cases F:nd.op=22
 .rw[az F];have hc:∀R,jY start args R nd=(j8 R nd).bind (zeg R):=fun R=>by
   unfold jY;rw[ai ac,ai ac,ai ac,az F]
  rw[hc]at hr;obtain⟨k',Y,h2⟩:=cm.1 hr;have h1':=Y;unfold j8 at Y;obtain⟨zdP,z,L⟩:=cm.1 Y;obtain⟨c,K,h6⟩:=AI z;have j:=i5 K;obtain⟨zdu,V⟩:=uy (O c j).1 (O c j).2;rw[K,da,V,da];by_cases Z:zdu.k=true
  .have e:=g.get V Z;rw[h6]at e;cases e;have hs:j8 res nd=some k':=by
    unfold j8 et;rw[K,da,V,da];exact L
   have M:k'∈nd.kids:=by
    split at L
    .exact i5 L
    .exact i5 L
   obtain⟨t,m⟩:=uy (O k' M).1 (O k' M).2;rw[az Z,hs,da,m,da];by_cases I:t.k=true
   .rw[az I];refine⟨-1,rfl,.inl ⟨rfl,?_⟩⟩;rw[hc,hc,hs,h1',da,da,m,g.get m I]
   .rw[ai I];exact⟨k',rfl,.inr ⟨M,t,m,o7⟩⟩
  .rw[ai Z];exact⟨c,rfl,.inr ⟨j,zdu,V,rN⟩⟩
 rw[ai F];by_cases hg:nd.op=27\/nd.op=29\/nd.op=30
 .rw[az hg];have hc:∀R,jY start args R nd=if nd.op=30 then none else (oo start R nd).bind fun s=>some ⟨false,0,some s⟩:=fun R=>by
   unfold jY;rw[ai ac,ai ac];by_cases o:nd.op=30
   .rw[az ac,az o]
   .rw[ai ac,ai F,ai ac,ai ac,ai ac,az ac,ai o]
  have o:nd.op≠30:=fun e=>by rw[hc,az e]at hr;cases hr
  rw[hc,ai o]at hr;obtain⟨s0,Y,h2⟩:=cm.1 hr;have hn:∀R,oo start R nd=(et R nd 0).bind fun r=>r.s.bind fun s=>if s.ed≠0 then some s else if nd.op=27 then (et R nd 1).bind fun a=>some (if a.v≠0 then s else {s with ed:=2,code:=nd.imm})else (et R nd 1).bind fun a=>some {s with out:=a.v::s.out}:=fun R=>by
   unfold oo;rw[ai ac];by_cases J:nd.op=27
   .simp only[ai (show ¬nd.op=28 by omega),az J]
   .simp only[ai (show ¬nd.op=28 by omega),ai J,az (show nd.op=29 by omega)]
  have h1n:=Y;rw[hn]at Y;obtain⟨zdP,z,L⟩:=cm.1 Y;obtain⟨s,K,h6⟩:=cm.1 L;obtain⟨c,V,h8⟩:=AI z;have j:=i5 V;obtain⟨zdu,h9⟩:=uy (O c j).1 (O c j).2;have C:et res nd 0=some zdu:=by unfold et;rw[V,da,h9]
  rw[C,da];by_cases Z:zdu.k=true
  .have e:=g.get h9 Z;rw[h8]at e;cases e;rw[az Z,K,da];by_cases he:s.ed≠0
   .rw[az he];refine⟨-1,rfl,.inl ⟨rfl,?_⟩⟩;rw[hc,hc,ai o,hn,hn,z,C];simp only[da,K,az he];rw[ai o]
   .rw[ai he];exact U F
  .rw[ai Z];exact U F
 rw[ai hg];exact U F
def j9(res:List R9):List Int->Nat
 |[]=>0
 |k::l=>(match zeg res k with
  |some r=>if r.k=true then 0 else 1
  |none=>0)+j9 res l
structure Le9 (a b:List R9):Prop where
 len:b.length=a.length
 ok:∀(j:Nat) r,a[j]?=some r->r.k=true->b[j]?=some r
theorem Le9.get{a b:List R9}(h:Le9 a b){k:Int}{r:R9}(C:zeg a k=some r)(j:r.k=true):zeg b k=some r:=by
 unfold zeg at C⊢;split at C
 .rename_i A;rw[az A];exact h.ok _ _ C j
 .cases C
theorem Le9.refl(a:List R9):Le9 a a:=⟨rfl,fun _ _ h _=>h⟩
theorem Le9.trans{a b c:List R9}(h:Le9 a b)(h2:Le9 b c):Le9 a c:=⟨h2.len.trans h.len,fun j r e k=>h2.ok j r (h.ok j r e k) k⟩
theorem xf{a b:List R9}(h:Le9 a b):∀l,j9 b l<=j9 a l
 |[]=>aM _
 |k::l=>by
  have:=xf h l;rw[j9,j9];cases J:zeg a k with
  |none=>
   have:zeg b k=none:=by
    unfold zeg at J⊢;split at J
    .rename_i A;rw[az A];rw[DN]at J⊢;have:=h.len;omega
    .rename_i A;rw[ai A]
   rw[this];simpa using xf h l
  |some r=>
   by_cases j:r.k=true
   .rw[h.get J j];simp only[j,bT];omega
   .simp only[ai j];split
    .split<;>omega
    .omega
theorem AJ{a b:List R9}(h:Le9 a b){k:Int}{r r2:R9}(h1:zeg a k=some r)(h2:r.k=false)(o:zeg b k=some r2)(U:r2.k=true):∀{l:List Int},k∈l->j9 b l<j9 a l
 |c::l,M=>by
  rw[j9,j9];rcases ff.1 M with rfl|M
  .have:=xf h l;rw[h1,o];simp only[h2,U,bT,cC,cn];omega
  .have:=AJ h h1 h2 o U M;have:=xf h [c];rw[j9,j9,j9,j9]at this;simp only[mT]at this;omega
section
variable {l:List Nd} {start:S9} {args:List Int} {D:List R9}
def EQ(l:List Nd)(start:S9)(args:List Int)(D:List R9)(i:Nat):Prop:=∀res,Agr9 res D->∃Z,Agr9 Z D/\(∃r,D[i]?=some r/\r.k=true/\Z[i]?=some r)/\Le9 res Z/\∀m (st:List Int) G,st.length+i<2^20->zfc l start args m Z st=some G->∃Y,zfc l start args Y res ((i:Int)::st)=some G
theorem xg{res:List R9}{i:Int}{r:R9}(h:zeg res i=some r)(j:r.k=true)(m:Nat)(st:List Int):zfc l start args (m+1) res (i::st)=zfc l start args m res st:=by
 rw[zfc,h,da,az j]
theorem N4(hD:Den9 l start args D){i:Nat}{nd:Nd}(A:l[i]?=some nd)(ih:∀j,j<i->EQ l start args D j):∀u res,j9 res nd.kids<=u->Agr9 res D->(∃r,res[i]?=some r/\r.k=false)->∃U,Agr9 U D/\(∃r,D[i]?=some r/\r.k=true/\U[i]?=some r)/\Le9 res U/\∀m (st:List Int) G,st.length+i<2^20->zfc l start args m U st=some G->∃m',zfc l start args m' res ((i:Int)::st)=some G:=by
 intro u;induction u with
 |zero=>
  intro res hu F ⟨r,hr,V⟩;obtain⟨k,e,h|⟨hm,r2,z,h3⟩⟩:=EP hD F A
  .obtain⟨M,h4,h5⟩:=hD.ok i nd A;have g:=F.len;have C:i<res.length:=by
    by_cases c:i<res.length
    .exact c
    .rw[fg ac]at hr;cases hr
   have Z:(res.set i M.known)[i]?=some M.known:=by rw[o8,az rfl,az C]
   have Y:∀j,j≠i->(res.set i M.known)[j]?=res[j]?:=fun j O=>by rw[o8,ai (Ne.symm O)]
   refine⟨res.set i M.known,⟨by rw[mg];exact g,fun j r' O L=>?_⟩,⟨M.known,h5,rfl,Z⟩,⟨wR,fun j r' O L=>?_⟩,fun m st G hs hG=>⟨m+2,?_⟩⟩
   .by_cases c:j=i
    .subst c;rw[Z]at O;cases O;exact h5
    .rw[Y j c]at O;exact F.ok j r' O L
   .by_cases c:j=i
    .subst c;rw[hr]at O;cases O;rw[V]at L;cases L
    .rw[Y j c];exact O
   .rw[zfc,mp,hr,da,ai (by rw[V];simp),dQ,A,da,e,da,ai ac,h.2,h4,da];rw[xg (r:=M.known) (by rw[mp];exact Z) rfl];exact hG
  .have:=AJ (l:=nd.kids) (b:=res.map fun r=>{r with k:=true}) (a:=res) ⟨aB,fun j r O L=>by rw[dK,O];cases r;cases L;rfl⟩ z h3 (r2:={r2 with k:=true}) (by
    unfold zeg at z⊢;split at z
    .rename_i h0;rw[az h0,dK,z];rfl
    .cases z) rfl hm
   omega
 |succ u ihu=>
  intro res hu F hr;obtain⟨k,e,h|⟨hm,r2,z,h3⟩⟩:=EP hD F A
  .obtain⟨r,hr,V⟩:=hr;obtain⟨M,h4,h5⟩:=hD.ok i nd A;have g:=F.len;have C:i<res.length:=by
    by_cases c:i<res.length
    .exact c
    .rw[fg ac]at hr;cases hr
   have Z:(res.set i M.known)[i]?=some M.known:=by rw[o8,az rfl,az C]
   have Y:∀j,j≠i->(res.set i M.known)[j]?=res[j]?:=fun j O=>by rw[o8,ai (Ne.symm O)]
   refine⟨res.set i M.known,⟨by rw[mg];exact g,fun j r' O L=>?_⟩,⟨M.known,h5,rfl,Z⟩,⟨wR,fun j r' O L=>?_⟩,fun m st G hs hG=>⟨m+2,?_⟩⟩
   .by_cases c:j=i
    .subst c;rw[Z]at O;cases O;exact h5
    .rw[Y j c]at O;exact F.ok j r' O L
   .by_cases c:j=i
    .subst c;rw[hr]at O;cases O;rw[V]at L;cases L
    .rw[Y j c];exact O
   .rw[zfc,mp,hr,da,ai (by rw[V];simp),dQ,A,da,e,da,ai ac,h.2,h4,da];rw[xg (r:=M.known) (by rw[mp];exact Z) rfl];exact hG
  .obtain⟨zex,zeb⟩:=hD.kids i nd A k hm;obtain⟨j,rfl⟩:∃j:Nat,k=j:=⟨k.toNat,ac⟩;obtain⟨o,hA1,⟨q,q1,q2,q3⟩,K,hst⟩:=ih j ac res F;have hlt:=AJ K z h3 (by rw[mp];exact q3) q2 hm;obtain⟨r,hr,V⟩:=hr;have J:∀m' (st:List Int) G,st.length<2^20->zfc l start args m' res ((j:Int)::(i:Int)::st)=some G->∃m,zfc l start args m res ((i:Int)::st)=some G:=fun m' st G hs hG=>⟨m'+1,by
    rw[zfc,mp,hr,da,ai (by rw[V];simp),dQ,A,da,e,da,az ac,az hs];exact hG⟩
   have hex:∃zdu,o[i]?=some zdu:=by
    have:=K.len;have C:i<res.length:=by
     by_cases c:i<res.length
     .exact c
     .rw[fg ac]at hr;cases hr
    exact⟨_,aR ac⟩
   obtain⟨zdu,I⟩:=hex;by_cases c1:zdu.k=true
   .refine⟨o,hA1,⟨zdu,hA1.ok i zdu I c1,c1,I⟩,K,fun m st G hs hG=>?_⟩;obtain⟨zeW,e1⟩:=hst (m+1) ((i:Int)::st) G Aq (by rw[xg (r:=zdu) (by rw[mp];exact I) c1];exact hG);exact J zeW st G ac e1
   .obtain⟨res2,hA2,hq,hle2,hst2⟩:=ihu o ac hA1 ⟨zdu,I,by simpa using c1⟩;refine⟨res2,hA2,hq,K.trans hle2,fun m st G hs hG=>?_⟩;obtain⟨zeW,e1⟩:=hst2 m st G hs hG;obtain⟨m2,e2⟩:=hst zeW ((i:Int)::st) G Aq e1;exact J m2 st G ac e2
theorem ER(Y:Den9 l start args D):∀i,i<l.length->EQ l start args D i:=by
 intro i;induction i using Nat.strongRecOn with
 |ind i ih=>
  intro A res g;have Z:∃zdu,res[i]?=some zdu:=⟨_,aR (by have:=g.len;have:=Y.len;omega)⟩;obtain⟨zdu,K⟩:=Z;by_cases c1:zdu.k=true
  .exact⟨res,g,⟨zdu,g.ok i zdu K c1,c1,K⟩,Le9.refl _,fun m st G V hG=>⟨m+1,by rw[xg (r:=zdu) (by rw[mp];exact K) c1];exact hG⟩⟩
  .exact N4 Y (aR A) (fun j O=>ih j O ac) _ res (aM _) g ⟨zdu,K,by simpa using c1⟩
theorem N5(i:Den9 l start args D):Agr9 (List.replicate l.length zgh) D:=⟨by rw[j7,i.len],fun j r O Z=>by
 rw[pe]at O;split at O
 .cases O;cases Z
 .cases O⟩
theorem N6{g:Gr}(Y:g.nodes.length<=2000)(Z:Den9 g.nodes start args D){i j:Nat}(J:g.state=i)(C:i<g.nodes.length)(F:g.value=j)(L:j<g.nodes.length){ri V:R9}{s:S9}(h1:D[i]?=some ri)(h2:ri.s=some s)(z:D[j]?=some V):∃n m,xe n m g start args=some (lH s (if s.ed=0 then V.v else 0)):=by
 obtain⟨res,hA,⟨r,o,q2,q3⟩,hle,A⟩:=ER Z i C _ (N5 Z);rw[h1]at o;cases o;obtain⟨n,hn⟩:=A 1 [] res (by rw[jF];omega) (by rw[zfc]);obtain⟨I,hA2,⟨r',U,p2,p3⟩,K,O⟩:=ER Z j L _ hA;rw[z]at U;cases U;obtain⟨m,hm⟩:=O 1 [] I (by rw[jF];omega) (by rw[zfc]);refine⟨n,m,?_⟩;rw[xe,J,hn,da,mp,q3,da,h2,da];by_cases M:s.ed=0
 .rw[az M,az M,F,hm,da,mp,p3,da]
 .rw[ai M,ai M]
end
end Go.Proofs.YtljebeflbbgibaaGreat
