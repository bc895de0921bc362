/- Parts: AbFuel, AbEnv, AbWp, AbWd, AbWt, Tree, Pls. -/
import Derived.IntWalk
import Derived.KernelRfl
import Derived.Test.YtpbcimfiofmoeaaGreatMCD
import Derived.Test.YtpbcimfiofmoeaaGreatRows
set_option linter.unusedSimpArgs false
set_option linter.unusedVariables false
set_option linter.unusedSectionVars false
set_option linter.defProp false
set_option maxHeartbeats 32000000
namespace Go.Ab
set_option maxRecDepth 20000
open Go
theorem zm{P:Prop}(h:P:=by rw[hr];simp):P:=h
theorem Gt{P:Prop}(h:P:=by simp only[znk,h,h1]):P:=h
theorem qH{P:Prop}(h:P:=by simp[zmt,tO,znx]):P:=h
theorem B7{P:Prop}(h:P:=by unfold zlS;rw[h]):P:=h
theorem La{P:Prop}(h:P:=by simp only[zk6,kh,beq_self_eq_true,cond_true]):P:=h
theorem sK{P:Prop}(h:P:=by rw[Ex.cells_eq];rfl):P:=h
theorem kg{P:Prop}(h:P:=by rw[St.cells_eq];rfl):P:=h
theorem qI{P:Prop}(h:P:=by rw[Fu.cells_eq];rfl):P:=h
theorem B8{P:Prop}(h:P:=by rw[Ar.cells_eq];rfl):P:=h
theorem B9{P:Prop}(h:P:=by rw[Pr.cells_eq];rfl):P:=h
theorem zn{P:Prop}(h:P:=by rw[Tk.cells_eq];rfl):P:=h
theorem zo{P:Prop}(h:P:=by rw[Nd.cells_eq];rfl):P:=h
theorem vu{P:Prop}(h:P:=by rw[Gr.cells_eq];rfl):P:=h
theorem Ca{P:Prop}(h:P:=by rw[Un.cells_eq];rfl):P:=h
theorem aj{P:Prop}(h:P:=by kernel_rfl):P:=h
def Cb:=@Nat.le_max_left
def Cc:=@Nat.le_max_right
def pQ:=@cond_false
def l7:=@Int.eq_ofNat_of_zero_le
def fR:=@Bool.and_true
def oM:=@and_self
end Go.Ab
namespace Go.Ab
set_option maxRecDepth 20000
open Go
def zmu(ih ih':Task->Res):Prop:=∀t,ih t≠.fail->ih' t=ih t
section
variable {P:Program} {cfg:Cfg} {ih ih':Task -> Res}
theorem Cd(h:zmu ih ih'){f:FuncId}{E:aw}{H:Hp}{op:Op}(J:zmz P cfg ih f E H op≠.fail):zmz P cfg ih' f E H op=zmz P cfg ih f E H op:=by
 unfold zmz at *;split
 .rename_i c;unfold tS at *;split
  .rename_i g K;simp only[K]at J;split
   .rename_i k z vs m j;simp only[m,j]at J;exact h _ J
   .rfl
  .rfl
  .rfl
 .rfl
theorem zp{f N:Nat}{I:List Oper}{o:Oper}{l:List Oper}{E:aw}{H:Hp}:kU P cfg ih f N I (o::l) E H=match znp I E o with
 |true=>match zmz P cfg ih f E H o.op with
  | .val v H=>znA (kU P cfg ih f N I l) H (fQ N E o.dst v)
  |_=>.fail
 |false=>znA (kU P cfg ih f N I l) H (fQ N E o.dst zmx):=rfl
theorem Ce(h:zmu ih ih'){f N:Nat}{I:List Oper}:∀{l:List Oper}{E:aw}{H:Hp},kU P cfg ih f N I l E H≠.fail->kU P cfg ih' f N I l E H=kU P cfg ih f N I l E H
 |[],_,_,_=>rfl
 |o::l,E,H,hn=>by
  rw[zp]at hn⊢;rw[zp];cases O:znp I E o with
  |true=>
   simp only[O]at hn⊢;cases J:zmz P cfg ih f E H o.op with
   |fail=>simp[J]at hn
   |done x E1 H1=>simp[J]at hn
   |val v H1=>
    rw[Cd h (by rw[J];simp),J];simp only[J]at hn⊢;cases hp:fQ N E o.dst v with
    |none=>rfl
    |some E1=>
     rw[hp]at hn;exact Ce h hn
  |false=>
   simp only[O]at hn⊢;cases hp:fQ N E o.dst zmx with
   |none=>rfl
   |some E1=>
    rw[hp]at hn;exact Ce h hn
theorem Cf(h:zmu ih ih'){f N:Nat}{I:List Oper}:∀{l:List Oper}{E:aw}{H:Hp},jW P cfg ih f N I l E H≠.fail->jW P cfg ih' f N I l E H=jW P cfg ih f N I l E H
 |[],_,_,_=>rfl
 |o::l,E,H,hn=>by
  have V:∀{r:Rec}{x:ResD},pE r x≠.fail->x≠.fail:=fun{r x} hx e=>hx (by rw[e];rfl);simp only[jW]at hn⊢;cases O:znp I E o with
  |true=>
   simp only[O]at hn⊢;cases J:zmz P cfg ih f E H o.op with
   |fail=>simp[J]at hn
   |done x E1 H1=>simp[J]at hn
   |val v H1=>
    rw[Cd h (by rw[J];simp),J];simp only[J]at hn⊢;cases hp:fQ N E o.dst v with
    |none=>rfl
    |some E1=>
     rw[hp]at hn;have:=Cf h (V hn);simp only[pF,this]
  |false=>
   simp only[O]at hn⊢;cases hp:fQ N E o.dst zmx with
   |none=>rfl
   |some E1=>
    rw[hp]at hn;have:=Cf h (V hn);simp only[pF,this]
theorem Cg(h:zmu ih ih'){f N:Nat}{ops:List Oper}{E:aw}{H:Hp}(J:zns P cfg ih f N ops E H≠.fail):zns P cfg ih' f N ops E H=zns P cfg ih f N ops E H:=by
 unfold zns at *;split
 .rename_i hc;simp only[hc]at J;cases hr:jW P cfg ih f N ops ops E H with
  |fail=>simp[hr]at J
  |done E1 H1 rs=>rw[Cf h zm,hr]
 .rfl
theorem VC{ops:List Oper}{M j Y Z:Res}(h1:M≠.fail->Y=M)(h2:j≠.fail->Z=j)(J:tV ops M j≠.fail):tV ops Y Z=tV ops M j:=by
 have V:M≠.fail:=fun e=>J (by rw[e];rfl);have I:j≠.fail:=fun e=>J (by rw[e];unfold tV;split<;>simp_all);rw[h1 V,h2 I]
theorem Gu(h:zmu ih ih'){f N:Nat}{E:aw}{H:Hp}:∀{o:Plan}{ops:List Oper},znt P cfg ih f N E H o ops≠.fail->znt P cfg ih' f N E H o ops=znt P cfg ih f N E H o ops
 | .text,ops,hn=>Cg h hn
 | .perm ord,ops,hn=>by
   simp only[znt]at *;split
   .rename_i hp;simp only[hp]at hn;exact Cg h hn
   .rfl
 | .split p q a b,ops,hn=>by
   simp only[znt]at *;split
   .rfl
   .rename_i hp;simp only[hp]at hn;exact VC (fun m=>Gu h m) (fun j=>Gu h j) hn
theorem Gv(h:zmu ih ih'){f:FuncId}{M:List AV}{H:Hp}(J:pG P ih f M H≠.fail):pG P ih' f M H=pG P ih f M H:=by
 unfold pG at *;split
 .rename_i V K;simp only[K]at J;split
  .rename_i c C;simp only[C]at J;cases hr:ih (.code f (max V.ntmps M.length) c (zD 0 M (vd (max V.ntmps M.length))) H)with
   |fail=>simp[hr]at J
   |val v H1=>rw[h _ zm,hr]
   |done x E1 H1=>rw[h _ zm,hr]
  .rfl
 .rfl
theorem VD(h:zmu ih ih'){f:FuncId}{M:List AV}{H:Hp}(J:pI P cfg ih f M H≠.fail):pI P cfg ih' f M H=pI P cfg ih f M H:=by
 unfold pI at *;split
 .rename_i I;simp only[I]at J;unfold yH at *;split
  .rename_i Z H' U;simp only[U]at J;split
   .rfl
   .rename_i m;simp only[m]at J;exact Gv h J
  .rename_i U;simp only[U]at J;exact Gv h J
 .rename_i I;simp only[I]at J;exact Gv h J
theorem Lb(h:zmu ih ih'){f N:Nat}{b:Code}{r C:Res}(hr:r≠.fail->C=r)(J:pH ih f N b r≠.fail):pH ih' f N b C=pH ih f N b r:=by
 cases r with
 |fail=>simp[pH]at J
 |val v H1=>rw[hr ax];rfl
 |done x E1 H1=>
  rw[hr ax];cases x with
  |normal=>exact h _ J
  |exit id=>rfl
  |ret=>rfl
theorem VE(h:zmu ih ih'){t:Task}(J:step P cfg ih t≠.fail):step P cfg ih' t=step P cfg ih t:=by
 cases t with
 |call f M H=>
  simp only[step]at *;split
  .rfl
  .rename_i hc;simp only[hc]at J;have K:pI P cfg ih f M H≠.fail:=fun e=>J (by rw[e];unfold wL;split<;>simp_all);rw[VD h K]
 |code f N c E H=>
  cases c with
  |region id ops draw=>cases draw with
   |false=>exact Ce h J
   |true=>exact Gu h J
  |seq a b=>exact Lb h (h _) J
  |loop a=>exact Lb h (h _) J
  |cond x a b=>
   simp only[step]at *;unfold ve at *;split
   .rename_i hc;simp only[hc]at J;exact h _ J
   .rename_i hc;simp only[hc]at J;exact h _ J
   .rfl
  |block id a=>
   simp only[step]at *;cases hr:ih (.code f N a E H)with
   |fail=>simp[hr,znO]at J
   |val v H1=>rw[h _ zm,hr]
   |done x E1 H1=>rw[h _ zm,hr]
  |_=>rfl
theorem Lc:∀n,zmu (zmi P cfg n) (zmi P cfg (n+1))
 |0=>fun _ J=>(J rfl).elim
 |n+1=>fun _ J=>VE (Lc n) J
theorem zq{n m:Nat}(V:n<=m){t:Task}(J:zmi P cfg n t≠.fail):zmi P cfg m t=zmi P cfg n t:=by
 induction m with
 |zero=>rw[show n=0 by omega]
 |succ m ih=>
  by_cases h:n=m+1
  .rw[h]
  .have:=ih ac;rw[Lc m t (by rw[this];exact J),this]
theorem Ch{n m:Nat}(V:n<=m){t:Task}{r:Res}(h:zmi P cfg n t=r)(hr:r≠.fail):zmi P cfg m t=r:=by
 rw[zq V (by rw[h];exact hr),h]
def zmj(P:Program)(cfg:Cfg)(t:Task)(r:Res):Prop:=r≠.fail/\∃n,zmi P cfg n t=r
theorem zmj.step{t:Task}{r:Res}(hr:r≠.fail){n:Nat}(h:Ab.step P cfg (zmi P cfg n) t=r):zmj P cfg t r:=⟨hr,n+1,h⟩
def lE:=@zmj.step
section
variable {f N id:Nat} {a b:Code} {x:Operand} {E E1:aw} {H H1:Hp} {r:Res} {ex:AX}
theorem zmj.seq(h1:zmj P cfg (.code f N a E H) (.done .normal E1 H1))(h2:zmj P cfg (.code f N b E1 H1) r):zmj P cfg (.code f N (.seq a b) E H) r:=by
 obtain⟨_,n,h1⟩:=h1;obtain⟨hr,m,h2⟩:=h2;refine lE hr (n:=max n m) ?_;show pH (zmi P cfg (max n m)) f N b (zmi P cfg (max n m) (.code f N a E H))=r;rw[Ch (Cb n m) h1 ax];exact Ch (Cc n m) h2 hr
theorem Ld(h1:zmj P cfg (.code f N a E H) (.done ex E1 H1))(o:ex≠.normal):zmj P cfg (.code f N (.seq a b) E H) (.done ex E1 H1):=by
 obtain⟨hr,n,h1⟩:=h1;refine lE hr (n:=n) ?_;show pH (zmi P cfg n) f N b (zmi P cfg n (.code f N a E H))=_;rw[h1];cases ex with
 |normal=>exact(o rfl).elim
 |exit id=>rfl
 |ret=>rfl
theorem zmj.loop(h1:zmj P cfg (.code f N a E H) (.done .normal E1 H1))(h2:zmj P cfg (.code f N (.loop a) E1 H1) r):zmj P cfg (.code f N (.loop a) E H) r:=by
 obtain⟨_,n,h1⟩:=h1;obtain⟨hr,m,h2⟩:=h2;refine lE hr (n:=max n m) ?_;show pH (zmi P cfg (max n m)) f N (.loop a) (zmi P cfg (max n m) (.code f N a E H))=r;rw[Ch (Cb n m) h1 ax];exact Ch (Cc n m) h2 hr
theorem Le(h1:zmj P cfg (.code f N a E H) (.done ex E1 H1))(o:ex≠.normal):zmj P cfg (.code f N (.loop a) E H) (.done ex E1 H1):=by
 obtain⟨hr,n,h1⟩:=h1;refine lE hr (n:=n) ?_;show pH (zmi P cfg n) f N (.loop a) (zmi P cfg n (.code f N a E H))=_;rw[h1];cases ex with
 |normal=>exact(o rfl).elim
 |exit id=>rfl
 |ret=>rfl
theorem VF(o:zk4 E x=some (.bool true))(h:zmj P cfg (.code f N a E H) r):zmj P cfg (.code f N (.cond x a b) E H) r:=by
 obtain⟨hr,n,h⟩:=h;refine lE hr (n:=n) ?_;show ve (zmi P cfg n) f N x a b E H=r;unfold ve;rw[o];exact h
theorem VG(o:zk4 E x=some (.bool false))(h:zmj P cfg (.code f N b E H) r):zmj P cfg (.code f N (.cond x a b) E H) r:=by
 obtain⟨hr,n,h⟩:=h;refine lE hr (n:=n) ?_;show ve (zmi P cfg n) f N x a b E H=r;unfold ve;rw[o];exact h
theorem zmj.block(h:zmj P cfg (.code f N a E H) (.done (.exit id) E1 H1)):zmj P cfg (.code f N (.block id a) E H) (.done .normal E1 H1):=by
 obtain⟨hr,n,h⟩:=h;refine lE ax (n:=n) ?_;show znO id (zmi P cfg n (.code f N a E H))=_;rw[h];simp[znO]
theorem VH(h:zmj P cfg (.code f N a E H) (.done .normal E1 H1)):zmj P cfg (.code f N (.block id a) E H) (.done .normal E1 H1):=by
 obtain⟨hr,n,h⟩:=h;refine lE ax (n:=n) ?_;show znO id (zmi P cfg n (.code f N a E H))=_;rw[h];rfl
theorem VI(h:zmj P cfg (.code f N a E H) (.done .ret E1 H1)):zmj P cfg (.code f N (.block id a) E H) (.done .ret E1 H1):=by
 obtain⟨hr,n,h⟩:=h;refine lE ax (n:=n) ?_;show znO id (zmi P cfg n (.code f N a E H))=_;rw[h];rfl
theorem VJ{C:Nat}(z:Nat.beq C id=false)(h:zmj P cfg (.code f N a E H) (.done (.exit C) E1 H1)):zmj P cfg (.code f N (.block id a) E H) (.done (.exit C) E1 H1):=by
 obtain⟨hr,n,h⟩:=h;refine lE ax (n:=n) ?_;show znO id (zmi P cfg n (.code f N a E H))=_;rw[h];simp only[znO,z]
theorem zmj.skip:zmj P cfg (.code f N .skip E H) (.done .normal E H):=lE ax (n:=0) rfl
theorem zmj.exit:zmj P cfg (.code f N (.exit id) E H) (.done (.exit id) E H):=lE ax (n:=0) rfl
theorem zmj.ret:zmj P cfg (.code f N .ret E H) (.done .ret E H):=lE ax (n:=0) rfl
theorem zmj.region{ops:Array Oper}{n:Nat}(h:kU P cfg (zmi P cfg n) f N ops.toList ops.toList E H=r)(hr:r≠.fail):zmj P cfg (.code f N (.region id ops false) E H) r:=lE hr (n:=n) h
theorem zmj.draw{ops:Array Oper}{n:Nat}(h:znt P cfg (zmi P cfg n) f N E H (cfg.plan f id) ops.toList=r)(hr:r≠.fail):zmj P cfg (.code f N (.region id ops true) E H) r:=lE hr (n:=n) h
theorem zmj.call{M:List AV}{V:Func}{c:Code}{v:AV}(o:cfg.call f M=none)(I:cfg.ice f=false)(J:cfg.froz f=false)(K:P.funcs[f]?=some V)(Z:V.body=some c)
 (h:zmj P cfg (.code f (max V.ntmps M.length) c (zD 0 M (vd (max V.ntmps M.length))) H) (.done ex E1 H1)) (Y:ex=.normal\/ex=.ret) (C:wK P V.results.toList E1 H1=.val v H1):zmj P cfg (.call f M H) (.val v H1):=by
 obtain⟨_,n,h⟩:=h;refine lE ax (n:=n) ?_;simp only[Ab.step,o,I,J,pI,wL];unfold pG;simp only[K,Z,h];rcases Y with rfl|rfl<;>exact C
end
end
noncomputable section
open Go
def ov(L:List (Nat×AV))(d:Nat->AV):Nat->AV:=
 List.rec (motive:=fun _=>Nat->AV) d (fun p _ M k=>jR (Nat.beq p.1 k) p.2 (M k)) L
end
structure SOp where
 d:Option Nat
 op:Op
 g:Option (Nat×Bool)
inductive SC where
 |skip|ret|bad
 |ops (l:List SOp)
 |draw (id:Nat) (l:List Oper)
 |seq (a b:SC)
 |cond (x:Operand) (a b:SC)
 |block (id:Nat) (a:SC)
 |loop (a:SC)
 |exit (id:Nat)
def zlp(N:Nat):Option Tmp->Option (Option Nat)
 |none=>some none
 |some d=>match Nat.blt d N with
  |true=>some (some d)
  |false=>none
def zln(I:List Oper):Option (Nat×Bool)->Option (Option (Nat×Bool))
 |none=>some none
 |some (j,b)=>match (I[j]?).bind (·.dst)with
  |some d=>some (some (d,b))
  |none=>none
def zle(N:Nat)(I:List Oper):List Oper->Option (List SOp)
 |[]=>some []
 |o::l=>match zlp N o.dst,zln I o.guard,zle N I l with
  |some d,some g,some r=>some (⟨d,o.op,g⟩::r)
  |_,_,_=>none
def zll(l:Option (List SOp)):SC:=match l with
 |some l=>.ops l
 |none=>.bad
def aC(N:Nat):Code->SC
 | .skip=>.skip
 | .region id ops draw=>match draw with
   |false=>zll (zle N ops.toList ops.toList)
   |true=>.draw id ops.toList
 | .seq a b=>.seq (aC N a) (aC N b)
 | .cond x a b=>.cond x (aC N a) (aC N b)
 | .block id a=>.block id (aC N a)
 | .loop a=>.loop (aC N a)
 | .exit id=>.exit id
 | .ret=>.ret
 |_=>.bad
section
variable (P:Program) (cfg:Cfg) (f N:Nat)
def zk5(g:FuncId)(M:List AV)(H:Hp)(Q:AV->Hp->Prop):Prop:=∃v H',zmj P cfg (.call g M H) (.val v H')/\Q v H'
def jn(op:Op)(E:aw)(H:Hp)(K:AV->Hp->Prop):Prop:=∃n v H',zmz P cfg (zmi P cfg n) f E H op=.val v H'/\K v H'
noncomputable def zk6(E:aw):Option Nat->AV->aw
 |some d,v=>T.set E d (some v)
 |none,_=>E
def aH:List SOp->aw->Hp->(aw->Hp->Prop)->Prop
 |[],E,H,Q=>Q E H
 |o::l,E,H,Q=>match o.g with
  |none=>jn P cfg f o.op E H fun v H'=>aH l (zk6 E o.d v) H' Q
  |some (s,b)=>(E.at s=.bool b/\jn P cfg f o.op E H fun v H'=>aH l (zk6 E o.d v) H' Q)\/((E.at s=.bool (!b)\/E.at s=zmx)/\aH l (zk6 E o.d zmx) H Q)
def zlt(c:SC)(E:aw)(H:Hp)(Q:AX->aw->Hp->Prop):Prop:=∀code,aC N code=c->∃x E' H',zmj P cfg (.code f N code E H) (.done x E' H')/\Q x E' H'
end
section
variable {P:Program} {cfg:Cfg} {f N:Nat}
theorem jn.mono{op:Op}{E:aw}{H:Hp}{K I:AV->Hp->Prop}(h:∀v H',K v H'->I v H')(o:jn P cfg f op E H K):jn P cfg f op E H I:=by
 obtain⟨n,v,H',m,j⟩:=o;exact⟨n,v,H',m,h v H' j⟩
theorem zlt.mono{c:SC}{E:aw}{H:Hp}{Q z:AX->aw->Hp->Prop}(h:∀x E H,Q x E H->z x E H)(O:zlt P cfg f N c E H Q):zlt P cfg f N c E H z:=fun code hc=>by
 obtain⟨x,E',H',m,j⟩:=O code hc;exact⟨x,E',H',m,h _ _ _ j⟩
def w6:=@zlt.mono
theorem zlt.skip{E:aw}{H:Hp}{Q:AX->aw->Hp->Prop}(h:Q .normal E H):zlt P cfg f N .skip E H Q:=fun code hc=>by
 cases code with
 |skip=>exact⟨_,_,_,zmj.skip,h⟩
 |region id ops draw=>cases draw<;>simp only[aC,zll,reduceCtorEq]at hc;split at hc<;>simp at hc
 |_=>simp[aC]at hc
theorem zlt.ret{E:aw}{H:Hp}{Q:AX->aw->Hp->Prop}(h:Q .ret E H):zlt P cfg f N .ret E H Q:=fun code hc=>by
 cases code with
 |ret=>exact⟨_,_,_,zmj.ret,h⟩
 |region id ops draw=>cases draw<;>simp only[aC,zll,reduceCtorEq]at hc;split at hc<;>simp at hc
 |_=>simp[aC]at hc
theorem zlt.exit{id:Nat}{E:aw}{H:Hp}{Q:AX->aw->Hp->Prop}(h:Q (.exit id) E H):zlt P cfg f N (.exit id) E H Q:=fun code hc=>by
 cases code with
 |exit C=>simp only[aC,SC.exit.injEq]at hc;subst hc;exact⟨_,_,_,zmj.exit,h⟩
 |region id ops draw=>cases draw<;>simp only[aC,zll,reduceCtorEq]at hc;split at hc<;>simp at hc
 |_=>simp[aC]at hc
def lF(Q:AX->aw->Hp->Prop)(K:aw->Hp->Prop):AX->aw->Hp->Prop
 | .normal,E,H=>K E H
 | .exit id,E,H=>Q (.exit id) E H
 | .ret,E,H=>Q .ret E H
theorem zlt.seq{a b:SC}{E:aw}{H:Hp}{Q:AX->aw->Hp->Prop}(h:zlt P cfg f N a E H (lF Q fun E H=>zlt P cfg f N b E H Q)):zlt P cfg f N (.seq a b) E H Q:=fun code hc=>by
 cases code with
 |seq p q=>
  simp only[aC,SC.seq.injEq]at hc;obtain⟨x,E1,H1,m,j⟩:=h p hc.1;cases x with
  |normal=>
   obtain⟨x,U,I,z,Y⟩:=j q hc.2;exact⟨x,U,I,zmj.seq m z,Y⟩
  |exit id=>exact⟨_,_,_,Ld m ax,j⟩
  |ret=>exact⟨_,_,_,Ld m ax,j⟩
 |region id ops draw=>cases draw<;>simp only[aC,zll,reduceCtorEq]at hc;split at hc<;>simp at hc
 |_=>simp[aC]at hc
def ak:=@zlt.seq
theorem zlt.cond{x:Operand}{a b:SC}{E:aw}{H:Hp}{Q:AX->aw->Hp->Prop}{t:Bool}(o:zk4 E x=some (.bool t))(h1:t=true->zlt P cfg f N a E H Q)(h2:t=false->zlt P cfg f N b E H Q):
 zlt P cfg f N (.cond x a b) E H Q:=fun code hc=>by
 cases code with
 |cond y p q=>
  simp only[aC,SC.cond.injEq]at hc;obtain⟨rfl,z,Y⟩:=hc;cases t with
  |true=>
   obtain⟨x,E1,H1,j,I⟩:=h1 rfl p z;exact⟨x,E1,H1,VF o j,I⟩
  |false=>
   obtain⟨x,E1,H1,j,I⟩:=h2 rfl q Y;exact⟨x,E1,H1,VG o j,I⟩
 |region id ops draw=>cases draw<;>simp only[aC,zll,reduceCtorEq]at hc;split at hc<;>simp at hc
 |_=>simp[aC]at hc
def pR(id:Nat)(Q:AX->aw->Hp->Prop):AX->aw->Hp->Prop
 | .normal,E,H=>Q .normal E H
 | .exit C,E,H=>if C=id then Q .normal E H else Q (.exit C) E H
 | .ret,E,H=>Q .ret E H
theorem zlt.block{id:Nat}{a:SC}{E:aw}{H:Hp}{Q:AX->aw->Hp->Prop}(h:zlt P cfg f N a E H (pR id Q)):zlt P cfg f N (.block id a) E H Q:=fun code hc=>by
 cases code with
 |block C p=>
  simp only[aC,SC.block.injEq]at hc;obtain⟨rfl,z⟩:=hc;obtain⟨x,E1,H1,j,I⟩:=h p z;cases x with
  |normal=>exact⟨_,_,_,VH j,I⟩
  |ret=>exact⟨_,_,_,VI j,I⟩
  |exit k=>
   simp only[pR]at I;split at I
   .rename_i e;subst e;exact⟨_,_,_,zmj.block j,I⟩
   .rename_i e;exact⟨_,_,_,VJ (by cases Z:Nat.beq k C with|true=>exact(e (jk Z)).elim|false=>rfl) j,I⟩
 |region id ops draw=>cases draw<;>simp only[aC,zll,reduceCtorEq]at hc;split at hc<;>simp at hc
 |_=>simp[aC]at hc
def aG:=@zlt.block
theorem zlt.loop{a:SC}{Q:AX->aw->Hp->Prop}(I:Nat->aw->Hp->Prop)(h:∀n E H,I n E H->zlt P cfg f N a E H (lF Q fun E H=>∃m,m<n/\I m E H)){n:Nat}{E:aw}{H:Hp}(Y:I n E H):zlt P cfg f N (.loop a) E H Q:=by
 induction n using Nat.strongRecOn generalizing E H with
 |_ n ih=>
  intro code hc;cases code with
  |loop p=>
   simp only[aC,SC.loop.injEq]at hc;obtain⟨x,E1,H1,j,Z⟩:=h n E H Y p hc;cases x with
   |normal=>
    obtain⟨m,V,o⟩:=Z;obtain⟨x,U,O,M,K⟩:=ih m V o (.loop p) (by simp[aC,hc]);exact⟨x,U,O,zmj.loop j M,K⟩
   |exit id=>exact⟨_,_,_,Le j ax,Z⟩
   |ret=>exact⟨_,_,_,Le j ax,Z⟩
  |region id ops draw=>cases draw<;>simp only[aC,zll,reduceCtorEq]at hc;split at hc<;>simp at hc
  |_=>simp[aC]at hc
def zr:=@zlt.loop
theorem qJ{a:SC}{Q:AX->aw->Hp->Prop}(I:Nat->aw->Hp->Prop)(z:Nat)(h:∀i E H,i<=z->I i E H->zlt P cfg f N a E H (lF Q fun E H=>i<z/\I (i+1) E H)){E:aw}{H:Hp}(Z:I 0 E H):zlt P cfg f N (.loop a) E H Q:=
 zr (fun n E H=>n<=z/\I (z-n) E H) (fun n E H o=>w6 (fun x E' H' V=>by
  cases x with
  |normal=>
   obtain⟨m,j⟩:=V;have:=o.1;refine⟨n-1,ac,ac,?_⟩;rw[show z-(n-1)=z-n+1 by omega];exact j
  |exit id=>exact V
  |ret=>exact V) (h (z-n) E H (Nat.sub_le _ _) o.2)) (n:=z) ⟨aB _,by rw[oG];exact Z⟩
theorem Ci{N:Nat}{J:Option Tmp}{d:Option Nat}(h:zlp N J=some d)(E:aw)(v:AV):fQ N E J v=some (zk6 E d v):=by
 cases J with
 |none=>simp only[zlp,aL]at h;subst h;rfl
 |some t=>
  simp only[zlp]at h;split at h
  .rename_i C;simp only[aL]at h;subst h;simp only[fQ,C,zk6]
  .simp at h
theorem Lf{I:List Oper}{E:aw}{o:Oper}{g:Option (Nat×Bool)}(h:zln I o.guard=some g):
 (g=none->znp I E o=true)/\∀s b,g=some (s,b)->(E.at s=.bool b->znp I E o=true)/\(E.at s=.bool (!b)\/E.at s=zmx->znp I E o=false):=by
 unfold znp;cases K:o.guard with
 |none=>
  rw[K]at h;simp only[zln,aL]at h;subst h;exact⟨fun _=>rfl,fun s b e=>by simp at e⟩
 |some M=>
  obtain⟨j,b⟩:=M;rw[K]at h;simp only[zln]at h;split at h
  .rename_i d hd;simp only[aL]at h;subst h;refine⟨fun e=>by simp at e,fun s b' e=>?_⟩;simp only[cZ]at e;obtain⟨rfl,rfl⟩:=e;simp only[BB,hd];refine⟨fun e=>by rw[e];simp,fun e=>by rcases e with e|e<;>rw[e]<;>simp[zmx]⟩
  .simp at h
theorem aH.run{I:List Oper}{Q:aw->Hp->Prop}:∀{l:List Oper}{r:List SOp}{E:aw}{H:Hp},zle N I l=some r->aH P cfg f r E H Q ->
 ∃n E' H',kU P cfg (zmi P cfg n) f N I l E H=.done .normal E' H'/\Q E' H'
 |[],r,E,H,hs,V=>by
  simp only[zle,aL]at hs;subst hs;exact⟨0,E,H,rfl,V⟩
 |o::l,r,E,H,hs,V=>by
  simp only[zle]at hs;split at hs
  .rename_i d g r' j h2 h3;simp only[aL]at hs;subst hs;obtain⟨zlG,w2⟩:=Lf (E:=E) h2;have C:∀{K:Prop},jn P cfg f o.op E H (fun v H'=>aH P cfg f r' (zk6 E d v) H' Q)->znp I E o=true->∃n E' H',kU P cfg (zmi P cfg n) f N I (o::l) E H=.done .normal E' H'/\Q E' H':=fun{K} hw Z=>by
    obtain⟨n,v,H1,g1,g2⟩:=hw;obtain⟨m,M,J,O,z⟩:=aH.run h3 g2;refine⟨max n m,M,J,?_,z⟩;have Y:∀k k',k<=k'->zmu (zmi P cfg k) (zmi P cfg k'):=fun k k' hk t ht=>zq hk ht;rw[zp,Z];simp only[];rw[Cd (Y n (max n m) (Cb _ _)) (by rw[g1];simp),g1];simp only[Ci j,znA];rw[Ce (Y m (max n m) (Cc _ _)) (by rw[O];simp),O]
   unfold aH at V;cases U:g with
   |none=>
    rw[U]at V;exact C (K:=True) V (zlG U)
   |some sb=>
    obtain⟨s,b⟩:=sb;rw[U]at V;simp only[]at V;rcases V with⟨e,V⟩|⟨e,V⟩
    .exact C (K:=True) V ((w2 s b U).1 e)
    .obtain⟨m,M,J,O,z⟩:=aH.run h3 V;refine⟨m,M,J,?_,z⟩;rw[zp,(w2 s b U).2 e];simp only[Ci j,znA];exact O
  .simp at hs
theorem zlt.ops{l:List SOp}{E:aw}{H:Hp}{Q:AX->aw->Hp->Prop}(h:aH P cfg f l E H (Q .normal)):zlt P cfg f N (.ops l) E H Q:=fun code hc=>by
 cases code with
 |region id ops draw=>
  cases draw with
  |true=>simp[aC]at hc
  |false=>
   simp only[aC,zll]at hc;split at hc
   .rename_i r hr;simp only[SC.ops.injEq]at hc;subst hc;obtain⟨n,E',H',m,j⟩:=aH.run hr h;exact⟨_,_,_,zmj.region m ax,j⟩
   .simp at hc
 |_=>simp[aC]at hc
theorem zkU{l:List SOp}{E:aw}{H:Hp}{Q:AX->aw->Hp->Prop}(h:∀K:aw->Hp->Prop,(∀E' H',Q .normal E' H'->K E' H')->aH P cfg f l E H K):zlt P cfg f N (.ops l) E H Q:=
 zlt.ops (h _ fun _ _ h=>h)
theorem aH.nil{E:aw}{H:Hp}{Q:aw->Hp->Prop}(h:Q E H):aH P cfg f [] E H Q:=h
def w7:=@aH.nil
theorem jn.plain{op:Op}{E:aw}{H H':Hp}{v:AV}{K:AV->Hp->Prop}(h:dH P cfg.dec E H op=some (v,H'))(J:∀c,op≠.call c)(o:K v H'):jn P cfg f op E H K:=
 ⟨0,v,H',(vr J).2 h,o⟩
def Cj:Op->Bool
 | .call _=>false
 |_=>true
theorem Lg{op:Op}(h:Cj op=true):∀c,op≠.call c:=fun c e=>by subst e;simp[Cj]at h
theorem aH.op{d:Nat}{op:Op}{l:List SOp}{E:aw}{H H':Hp}{v:AV}{Q:aw->Hp->Prop}(J:Cj op=true)(h:dH P cfg.dec E H op=some (v,H'))(o:aH P cfg f l (T.set E d (some v)) H' Q):aH P cfg f (⟨some d,op,none⟩::l) E H Q:=
 jn.plain h (Lg J) o
def ju:=@aH.op
theorem Lh{op:Op}{l:List SOp}{E:aw}{H H':Hp}{v:AV}{Q:aw->Hp->Prop}(J:Cj op=true)(h:dH P cfg.dec E H op=some (v,H'))(o:aH P cfg f l E H' Q):aH P cfg f (⟨none,op,none⟩::l) E H Q:=
 jn.plain h (Lg J) o
theorem aH.guard{d:Option Nat}{op:Op}{s:Nat}{b t:Bool}{l:List SOp}{E:aw}{H:Hp}{Q:aw->Hp->Prop}(h:E.at s=.bool t)(h1:t=b->aH P cfg f (⟨d,op,none⟩::l) E H Q)(h2:t=!b->aH P cfg f l (zk6 E d zmx) H Q):
 aH P cfg f (⟨d,op,some (s,b)⟩::l) E H Q:=by
 unfold aH;by_cases e:t=b
 .exact .inl ⟨by rw[h,e],h1 e⟩
 .have:t=!b:=by cases t<;>cases b<;>simp_all
  exact .inr ⟨.inl (by rw[h,this]),h2 this⟩
theorem Li{d:Option Nat}{op:Op}{s:Nat}{b:Bool}{l:List SOp}{E:aw}{H:Hp}{Q:aw->Hp->Prop}{v:AV}(h:some (E.at s)=some v)(Z:v=zmx)(h2:aH P cfg f l (zk6 E d zmx) H Q):
 aH P cfg f (⟨d,op,some (s,b)⟩::l) E H Q:=by
 subst Z;unfold aH;exact .inr ⟨.inr j8,h2⟩
theorem aH.call{d:Option Nat}{c:Call}{g:Operand}{k:FuncId}{cap vs:List AV}{l:List SOp}{E:aw}{H:Hp}{Q:aw->Hp->Prop}(z:c.callee=.value g)(K:zk4 E g=some (.clo k cap))(Z:znk E c.args.toList=some vs)
 (h:zk5 P cfg k (vs++cap) H fun v H'=>aH P cfg f l (zk6 E d v) H' Q):aH P cfg f (⟨d,.call c,none⟩::l) E H Q:=by
 obtain⟨v,H',⟨_,n,m⟩,j⟩:=h;refine⟨n,v,H',?_,j⟩;simp only[zmz,tS,z,K,Z];exact m
def aZ:=@aH.call
theorem aH.builtin{d:Option Nat}{c:Call}{b:Builtin}{vs:List AV}{v:AV}{l:List SOp}{E:aw}{H H':Hp}{Q:aw->Hp->Prop}(z:c.callee=.builtin b)(Z:znk E c.args.toList=some vs)
 (h:rC P (cfg.keep f) H b c.argTypes.toList vs=some (v,H')) (o:aH P cfg f l (zk6 E d v) H' Q):aH P cfg f (⟨d,.call c,none⟩::l) E H Q:=by
 refine⟨0,v,H',?_,o⟩;simp only[zmz,tS,z,Z,h]
def Ck:=@aH.builtin
theorem VK{g:FuncId}{M:List AV}{r:AV}{H:Hp}{Q:AV->Hp->Prop}(h:cfg.call g M=some r)(V:Q r H):zk5 P cfg g M H Q:=
 ⟨r,H,lE ax (n:=0) (by simp only[step,h]),V⟩
theorem Lj{g:FuncId}{M I:List AV}{r:AV}{H H':Hp}{Q:AV->Hp->Prop}(Z:cfg.call g M=none)(Y:cfg.ice g=true)(J:cfg.froz g=false)(O:gO (fh 100) M H=some (I,H'))(h:cfg.call g I=some r)(V:Q r H'):zk5 P cfg g M H Q:=
 ⟨r,H',lE ax (n:=0) (by simp only[step,Z,pI,Y,J,wL,yH,O,h]),V⟩
theorem zk5.mono{g:FuncId}{M:List AV}{H:Hp}{Q z:AV->Hp->Prop}(h:∀v H',Q v H'->z v H')(O:zk5 P cfg g M H Q):zk5 P cfg g M H z:=by
 obtain⟨v,H',m,j⟩:=O;exact⟨v,H',m,h _ _ j⟩
def aS:=@zk5.mono
theorem zk5.body{g:FuncId}{M:List AV}{H:Hp}{V:Func}{c:Code}{Q:AV->Hp->Prop}(o:cfg.call g M=none)(I:cfg.ice g=false)(J:cfg.froz g=false)(K:P.funcs[g]?=some V)(C:V.body=some c)
 (h:zlt P cfg g (max V.ntmps M.length) (aC (max V.ntmps M.length) c) (zD 0 M (vd (max V.ntmps M.length))) H (fun x E' H'=>(x=.normal\/x=.ret)/\∃vs,zlX P E' H' V.results.toList=some vs/\Q (zkX vs) H')):zk5 P cfg g M H Q:=by
 obtain⟨x,E',H',m,hx,vs,j,z⟩:=h c rfl;exact⟨zkX vs,H',zmj.call o I J K C m hx (by unfold wK;rw[j]),z⟩
theorem zlf{g:FuncId}{Z:List AV}{H:Hp}{V:Func}{c:Code}{s:SC}{M:Nat}{rs:List ResultVar}{Q:AV->Hp->Prop}(o:cfg.call g Z=none)(I:cfg.ice g=false)(J:cfg.froz g=false)(K:P.funcs[g]?=some V)(C:V.body=some c)(Y:max V.ntmps Z.length=M)
 (U:aC M c=s) (hr:V.results.toList=rs) (h:zlt P cfg g M s (zD 0 Z (vd M)) H (fun x E' H'=>(x=.normal\/x=.ret)/\∃vs,zlX P E' H' rs=some vs/\Q (zkX vs) H')):zk5 P cfg g Z H Q:=by
 subst Y U hr;exact zk5.body o I J K C h
theorem Lk(fit:Fit P){ρ:Nat->Int}(J:oE cfg.dec ρ)(z:∀f M r,cfg.call f M=some r->bM P ρ f M r){g:FuncId}{M:List AV}{r:AV}{k m:Nat}
 (C:ss k M=true) (h:zk5 P cfg g M zlv fun v H'=>iceV H' m v=some r):bM P ρ g M r:=by
 obtain⟨v,H',⟨_,n,Z⟩,j⟩:=h;exact Gp fit J z (n:=n) (m:=m) C (by unfold yI;rw[Z];exact j)
section
variable {l:List SOp} {E:aw} {H H':Hp} {Q:aw -> Hp -> Prop} {d:Nat} {v a b:AV} {x y:Operand} {t u:TypeId}
theorem aH.move(h:zk4 E x=some v)(o:aH P cfg f l (T.set E d (some v)) H Q):aH P cfg f (⟨some d,.move x,none⟩::l) E H Q:=ju rfl (by simp only[dH,Go.Ab.ret,h]) o
theorem aH.assign(h:zk4 E x=some v)(o:aH P cfg f l (T.set E d (some v)) H Q):aH P cfg f (⟨some d,.assign x,none⟩::l) E H Q:=ju rfl (by simp only[dH,Go.Ab.ret,h]) o
theorem aH.pick{z:Operand}{t:Bool}(h:zk4 E x=some (.bool t))(h1:zk4 E y=some a)(h2:zk4 E z=some b)(o:aH P cfg f l (T.set E d (some (jR t a b))) H Q):aH P cfg f (⟨some d,.pick x y z,none⟩::l) E H Q:=
 ju rfl (by cases t<;>simp only[dH,Bn,Go.Ab.ret,h,h1,h2]<;>rfl) o
theorem aH.load(h:zk4 E x=some a)(h1:iN P H t a=some v)(o:aH P cfg f l (T.set E d (some v)) H Q):aH P cfg f (⟨some d,.load t x,none⟩::l) E H Q:=ju rfl (by simp only[dH,yy,Go.Ab.ret,h,h1]) o
theorem aH.store(h:zk4 E x=some a)(h1:zk4 E y=some b)(h2:lS P H t a b=some H')(o:aH P cfg f l E H' Q):aH P cfg f (⟨none,.store t x y,none⟩::l) E H Q:=Lh rfl (by simp only[dH,Bp,h,h1,h2];rfl) o
def oN:=@aH.store
theorem aH.nilCheck{r o:Nat}(h:zk4 E x=some (.ptr r o))(Z:aH P cfg f l (T.set E d (some (.ptr r o))) H Q):aH P cfg f (⟨some d,.nilCheck x,none⟩::l) E H Q:=ju rfl (by simp only[dH,Bq,h]) Z
theorem aH.bin{op:BinOp}(h:zk4 E x=some a)(h1:zk4 E y=some b)(h2:zmt P cfg.dec op t a b=some v)(o:aH P cfg f l (T.set E d (some v)) H Q):aH P cfg f (⟨some d,.binOp op t x y u,none⟩::l) E H Q:=
 ju rfl (by simp only[dH,Br,Go.Ab.ret,h,h1,h2]) o
theorem aH.un{op:UnOp}(h:zk4 E x=some a)(h2:tQ op a=some v)(o:aH P cfg f l (T.set E d (some v)) H Q):aH P cfg f (⟨some d,.unOp op t x,none⟩::l) E H Q:=ju rfl (by simp only[dH,Bt,Go.Ab.ret,h,h2]) o
theorem aH.convert(h:zk4 E x=some a)(h2:zny P H t u a=some v)(o:aH P cfg f l (T.set E d (some v)) H Q):aH P cfg f (⟨some d,.convert t u x,none⟩::l) E H Q:=ju rfl (by simp only[dH,yz,Go.Ab.ret,h,h2]) o
theorem aH.fieldAddr{i:Nat}(h:zk4 E x=some a)(h2:zlg P t a i=some v)(o:aH P cfg f l (T.set E d (some v)) H Q):aH P cfg f (⟨some d,.fieldAddr t x i,none⟩::l) E H Q:=ju rfl (by simp only[dH,Bv,Go.Ab.ret,h,h2]) o
def Ll:=@aH.fieldAddr
theorem aH.field{i:Nat}(h:zk4 E x=some a)(h2:zlW P t a i=some v)(o:aH P cfg f l (T.set E d (some v)) H Q):aH P cfg f (⟨some d,.field t x i,none⟩::l) E H Q:=ju rfl (by simp only[dH,Bw,Go.Ab.ret,h,h2]) o
theorem aH.indexAddr(h:zk4 E x=some a)(h1:zk4 E y=some b)(h2:zlO P t a b=some v)(o:aH P cfg f l (T.set E d (some v)) H Q):aH P cfg f (⟨some d,.indexAddr t x y,none⟩::l) E H Q:=ju rfl (by simp only[dH,Bx,Go.Ab.ret,h,h1,h2]) o
def Lm:=@aH.indexAddr
theorem aH.index(h:zk4 E x=some a)(h1:zk4 E y=some b)(h2:qC P t a b=some v)(o:aH P cfg f l (T.set E d (some v)) H Q):aH P cfg f (⟨some d,.index t x y,none⟩::l) E H Q:=ju rfl (by simp only[dH,By,Go.Ab.ret,h,h1,h2]) o
theorem aH.extract{i:Nat}(h:zk4 E x=some a)(h2:Ab.extract a i=some v)(o:aH P cfg f l (T.set E d (some v)) H Q):aH P cfg f (⟨some d,.extract x i,none⟩::l) E H Q:=ju rfl (by simp only[dH,BA,Go.Ab.ret,h,h2]) o
theorem aH.alloc{z:List AV}{n:Nat}(h:zlV P t=some z)(J:some H.next=some n)(o:aH P cfg f l (T.set E d (some (.ptr n 0))) (H.alloc (.cells z 0 true)) Q):aH P cfg f (⟨some d,.alloc t,none⟩::l) E H Q:=by
 simp only[aL]at J;subst J;exact ju rfl (by simp only[dH,yu,h]) o
theorem aH.box{cs:List AV}{n:Nat}(h:zk4 E x=some a)(z:some a.cells=some cs)(J:some H.next=some n)(o:aH P cfg f l (T.set E d (some (.ptr n 0))) (H.alloc (.cells cs 0 true)) Q):aH P cfg f (⟨some d,.box t x,none⟩::l) E H Q:=by
 simp only[aL]at z J;subst z J;exact ju rfl (by simp only[dH,yw,h]) o
theorem aH.build{I:Array (Nat×Operand)}{ps:List (Nat×AV)}(h:lT E I.toList=some ps)(h2:zma P t ps=some v)(o:aH P cfg f l (T.set E d (some v)) H Q):aH P cfg f (⟨some d,.build t I,none⟩::l) E H Q:=ju rfl (by simp only[dH,Bo,Go.Ab.ret,h,h2]) o
theorem aH.buildSlice{n:Nat}{I:Array (Nat×Operand)}{ps:List (Nat×AV)}(h:lT E I.toList=some ps)(h2:zmb P H t n ps=some (v,H'))(o:aH P cfg f l (T.set E d (some v)) H' Q):aH P cfg f (⟨some d,.buildSlice t n I,none⟩::l) E H Q:=
 ju rfl (by simp only[dH,yx,h,h2]) o
def Ln:=@aH.buildSlice
theorem aH.makeMap{n:Nat}(J:some H.next=some n)(o:aH P cfg f l (T.set E d (some (.map n))) (H.alloc (.map [])) Q):aH P cfg f (⟨some d,.makeMap t none,none⟩::l) E H Q:=by
 simp only[aL]at J;subst J;exact ju rfl (by simp only[dH,yA]) o
theorem aH.lookup{ok:Bool}(h:zk4 E x=some a)(h1:zk4 E y=some b)(h2:jK P H t a b ok=some v)(o:aH P cfg f l (T.set E d (some v)) H Q):aH P cfg f (⟨some d,.lookup t x y ok,none⟩::l) E H Q:=ju rfl (by simp only[dH,yD,Go.Ab.ret,h,h1,h2]) o
theorem aH.mapUpdate{z:Operand}{c:AV}(h:zk4 E x=some a)(h1:zk4 E y=some b)(h2:zk4 E z=some c)(Z:znN P H t a b c=some H')(o:aH P cfg f l E H' Q):aH P cfg f (⟨none,.mapUpdate t x y z,none⟩::l) E H Q:=
 Lh rfl (by simp only[dH,Bz,h,h1,h2,Z];rfl) o
def Lo:=@aH.mapUpdate
theorem aH.makeFunc{g:FuncId}{cap:Array Operand}{vs:List AV}(h:znk E cap.toList=some vs)(o:aH P cfg f l (T.set E d (some (.clo g vs))) H Q):aH P cfg f (⟨some d,.makeFunc (.func g) #[] cap,none⟩::l) E H Q:=ju rfl (by simp only[dH,Bu,h]) o
theorem aH.slice{lo I:Option Operand}{m Z:Option AV}(h:zk4 E x=some a)(h1:lw E lo=some m)(h2:lw E I=some Z)(z:pC P H t a m Z=some v)(o:aH P cfg f l (T.set E d (some v)) H Q):aH P cfg f (⟨some d,.slice t x lo I none,none⟩::l) E H Q:=
 ju rfl (by simp only[dH,yC,Go.Ab.ret,h,h1,h2,z]) o
theorem aH.makeSlice(h:zk4 E x=some a)(h1:zk4 E y=some b)(h2:znz P H t a b=some (v,H'))(o:aH P cfg f l (T.set E d (some v)) H' Q):aH P cfg f (⟨some d,.makeSlice t x y,none⟩::l) E H Q:=ju rfl (by simp only[dH,yB,h,h1,h2]) o
def Lp:=@aH.makeSlice
theorem aH.len{c:AV}(h:zk4 E x=some a)(h1:zlS P H t a=some c)(o:aH P cfg f l (T.set E d (some c)) H Q):aH P cfg f (⟨some d,.call ⟨.builtin .len,#[x],#[t]⟩,none⟩::l) E H Q:=
 Ck (c:=⟨.builtin .len,#[x],#[t]⟩) rfl (vs:=[a]) (by simp only[znk,h]) (by simp only[rC,h1]) o
theorem aH.append(h:zk4 E x=some a)(h1:zk4 E y=some b)(h2:zmc P (cfg.keep f) H t u a b=some (v,H'))(o:aH P cfg f l (T.set E d (some v)) H' Q):aH P cfg f (⟨some d,.call ⟨.builtin .append,#[x,y],#[t,u]⟩,none⟩::l) E H Q:=
 Ck (c:=⟨.builtin .append,#[x,y],#[t,u]⟩) rfl (vs:=[a,b]) Gt (by simp only[rC,h2]) o
def jv:=@aH.append
end
theorem kh(E:aw)(d t:Nat)(v:AV):aw.at (T.set E d (some v)) t=bif t == d then v else E.at t:=by
 rw[wP];by_cases h:t=d
 .simp[h]
 .have:(t == d)=false:=by simpa using h
  rw[af h,this,pQ]
theorem get_set(H:Hp)(d t:Nat)(b:HB):(H.set d b).get t=bif t == d then some b else H.get t:=by
 rw[aJ];by_cases h:t=d
 .simp[h]
 .have:(t == d)=false:=by simpa using h
  rw[af h,this,pQ]
theorem VL(E:aw)(t:Nat):zk4 E (.tmp t)=some (E.at t):=rfl
theorem VM(E:aw)(k:IntKind)(n:Int):zk4 E (.const (.int k n))=some (.int k n):=rfl
theorem VN(E:aw)(b:Bool):zk4 E (.const (.bool b))=some (.bool b):=rfl
theorem VO(E:aw)(g:FuncId):zk4 E (.func g)=some (.clo g []):=rfl
theorem VP(E:aw)(s:ByteArray):zk4 E (.const (.string s))=some (.str s.data.toList):=rfl
section
variable {D:BinOp -> Sx -> Sx -> Option Bool} {t:TypeId} {k:IntKind} {a b:Int} {s u:List UInt8}
theorem VQ:zmt P D .add t (.int k a) (.int k b)=some (.int k (k.wrap (a+b))):=qH
theorem VS:zmt P D .sub t (.int k a) (.int k b)=some (.int k (k.wrap (a-b))):=qH
theorem VT:zmt P D .mul t (.int k a) (.int k b)=some (.int k (k.wrap (a*b))):=qH
theorem qK(h:b≠0):zmt P D .quo t (.int k a) (.int k b)=some (.int k (k.wrap (a.tdiv b))):=by simp[zmt,tO,znx,h]
theorem vx(h:b≠0):zmt P D .rem t (.int k a) (.int k b)=some (.int k (a.tmod b)):=by simp[zmt,tO,znx,h]
theorem VU:zmt P D .and t (.int k a) (.int k b)=some (.int k (k.wrap (BitVec.ofInt k.bits a &&& BitVec.ofInt k.bits b).toNat)):=qH
theorem VV:zmt P D .or t (.int k a) (.int k b)=some (.int k (k.wrap (BitVec.ofInt k.bits a |||BitVec.ofInt k.bits b).toNat)):=qH
theorem VW:zmt P D .xor t (.int k a) (.int k b)=some (.int k (k.wrap (BitVec.ofInt k.bits a^^^ BitVec.ofInt k.bits b).toNat)):=qH
theorem VX:zmt P D .eql t (.int k a) (.int k b)=some (.bool (decide (a=b))):=by simp[zmt,tO,znx];rfl
theorem VY:zmt P D .neq t (.int k a) (.int k b)=some (.bool (!decide (a=b))):=by simp[zmt,tO,znx];rfl
theorem VZ:zmt P D .lss t (.int k a) (.int k b)=some (.bool (decide (a<b))):=qH
theorem V0:zmt P D .leq t (.int k a) (.int k b)=some (.bool (decide (a<=b))):=qH
theorem V3:zmt P D .gtr t (.int k a) (.int k b)=some (.bool (decide (b<a))):=qH
theorem V4:zmt P D .geq t (.int k a) (.int k b)=some (.bool (decide (b<=a))):=qH
theorem V7:zmt P D .eql t (.str s) (.str u)=some (.bool (decide (s=u))):=by
 simp only[zmt,wG];by_cases h:s=u<;>simp[h]
theorem V8:zmt P D .neq t (.str s) (.str u)=some (.bool (!decide (s=u))):=by
 simp only[zmt,wG];by_cases h:s=u<;>simp[h]
theorem Lq(h:s.length+u.length<=zmr):zmt P D .add t (.str s) (.str u)=some (.str (s++u)):=by simp[zmt,wG,h]
theorem V9{x:Bool}:tQ .not (.bool x)=some (.bool !x):=rfl
theorem Wa:tQ .neg (.int k a)=some (.int k (k.wrap (0-a))):=rfl
end
theorem zm3{i:Nat}(h:i<2^62):IntKind.wrap .i64 ((i:Int)+1)=((i+1:Nat):Int):=by
 rw[yV _ ac];rfl
theorem jD{H:Hp}{t e:TypeId}(h:P.underlying t=some (.slice e))(xs:List (List AV)):zlS P H t (.lst xs)=some (.int .i64 xs.length):=B7
theorem znB{H:Hp}{t e:TypeId}(h:P.underlying t=some (.slice e))(r o n z:Nat):zlS P H t (.sl r o n z)=some (.int .i64 n):=B7
theorem znE{H:Hp}{t e:TypeId}(h:P.underlying t=some (.slice e)):zlS P H t .nilS=some (.int .i64 0):=B7
theorem Wb{H:Hp}{t:TypeId}(h:P.underlying t=some .string)(s:List UInt8):zlS P H t (.str s)=some (.int .i64 s.length):=B7
theorem vy{t e:TypeId}{s:Nat}(h:P.underlying t=some (.slice e))(U:zlq P e=some s){r o n z i:Nat}(I:i<n):zlO P t (.sl r o n z) (.int .i64 (i:Int))=some (.ptr r (o+i*s)):=by
 show zlO P t (.sl r o n z) (.int .i64 (Int.ofNat i))=_;simp only[zlO,h,U,I,dB]
def zt:TypeDesc->Bool
 | .struct _|.array _ _=>false
 |_=>true
theorem zm9{t:TypeId}{d:TypeDesc}(h:P.underlying t=some d)(hd:zt d=true)(cs:List AV)(o:Nat):zlh P t cs o=cs[o]?:=by
 unfold zlh;rw[h];cases d<;>simp_all[zt]
theorem ub{H:Hp}{t:TypeId}{d:TypeDesc}(h:P.underlying t=some d)(hd:zt d=true){r o:Nat}{cs:List AV}{imm:Nat}{tip:Bool}(K:H.get r=some (.cells cs imm tip)):iN P H t (.ptr r o)=cs[o]?:=by
 simp only[iN,K,zm9 h hd]
def l8(z:Nat):Option (List AV)->Option AV
 |some V=>if V.length=z then some (.iptr V)else none
 |none=>none
theorem Wc(z:Nat)(row:List AV):l8 z (some row)=if row.length=z then some (.iptr row)else none:=rfl
def Cl:Option UInt8->Option AV
 |some b=>some (.int .u8 b.toNat)
 |none=>none
theorem Wd(b:UInt8):Cl (some b)=some (.int .u8 b.toNat):=rfl
def zlT(s:Nat)(cs:List AV):Option AV:=if (cs.take s).length=s then some (.agg (cs.take s))else none
theorem jV{t:TypeId}{d:TypeDesc}{s:Nat}(h:P.underlying t=some d)(hd:zt d=false)(U:zlq P t=some s)(cs:List AV)(o:Nat):zlh P t cs o=zlT s (cs.drop o):=by
 unfold zlh zlT;rw[h];cases d<;>simp_all[zt]
theorem znG{t e:TypeId}{s:Nat}(h:P.underlying t=some (.slice e))(U:zlq P e=some s)(xs:List (List AV)){n:Int}(J:0<=n)(k:IntKind):zlO P t (.lst xs) (.int k n)=l8 s (xs[n.toNat]?):=by
 obtain⟨m,rfl⟩:=l7 J;show zlO P t (.lst xs) (.int k (Int.ofNat m))=l8 s (xs[m]?);simp only[zlO,h,U];cases xs[m]? <;>rfl
theorem znI{t e:TypeId}{s:Nat}(h:P.underlying t=some (.slice e))(U:zlq P e=some s)(r o l z:Nat){n:Int}(J:0<=n)(k:IntKind):zlO P t (.sl r o l z) (.int k n)=bif decide (n.toNat<l)then some (.ptr r (o+n.toNat*s))else none:=by
 obtain⟨m,rfl⟩:=l7 J;show zlO P t (.sl r o l z) (.int k (Int.ofNat m))=bif decide (m<l)then some (.ptr r (o+m*s))else none
 simp only[zlO,h,U];by_cases V:m<l<;>simp[V]
theorem We{t:TypeId}(h:P.underlying t=some .string)(s:List UInt8){n:Int}(J:0<=n)(k:IntKind):qC P t (.str s) (.int k n)=Cl (s[n.toNat]?):=by
 obtain⟨m,rfl⟩:=l7 J;show qC P t (.str s) (.int k (Int.ofNat m))=Cl (s[m]?);simp only[qC,h];cases s[m]? <;>rfl
def Lr(P:Program)(t:TypeId)(o:Nat):Option HB->Option AV
 |some (.cells z _ _)=>zlh P t z o
 |_=>none
theorem Wf(t:TypeId)(o:Nat)(cs:List AV)(imm:Nat)(tip:Bool):Lr P t o (some (.cells cs imm tip))=zlh P t cs o:=rfl
theorem Wg(H:Hp)(t:TypeId)(r o:Nat):iN P H t (.ptr r o)=Lr P t o (H.get r):=rfl
theorem Wh(H:Hp)(t:TypeId)(cs:List AV):iN P H t (.iptr cs)=zlh P t cs 0:=rfl
theorem vz(H:Hp)(b:HB)(t:Nat):(H.alloc b).get t=bif t == H.next then some b else H.get t:=by
 rw[zkZ];by_cases h:t=H.next
 .simp[h]
 .have:(t == H.next)=false:=by simpa using h
  rw[af h,this,pQ]
noncomputable def Ls(H:Hp)(r o:Nat)(J:List AV):Option Nat->Option HB->Option Hp
 |some s,some (.cells z m Y)=>if J.length=s/\m<=o/\o+s<=z.length/\J.all AV.one=true then some (H.set r (.cells (splice z o J) m Y))else none
 |_,_=>none
theorem Cm(H:Hp)(r o:Nat)(J:List AV)(s:Nat)(cs:List AV)(imm:Nat)(tip:Bool):Ls H r o J (some s) (some (.cells cs imm tip))=if J.length=s/\imm<=o/\o+s<=cs.length/\J.all AV.one=true then some (H.set r (.cells (splice cs o J) imm tip))else none:=rfl
theorem Cn(H:Hp)(t:TypeId)(r o:Nat)(v:AV):lS P H t (.ptr r o) v=Ls H r o v.cells (zlq P t) (H.get r):=by
 unfold lS;simp only[];cases Z:H.get r with
 |none=>cases zlq P t<;>rfl
 |some b=>cases b with
  |map I=>cases zlq P t<;>rfl
  |cells z m Y=>cases zlq P t with
   |none=>rfl
   |some s=>rfl
theorem Gw(cs:List AV)(o:Nat)(V:List AV):splice cs o V=cs.take o++V++cs.drop (o+V.length):=rfl
theorem Wi(cs:List AV):AV.cells (.agg cs)=cs:=rfl
theorem cells_int(k:IntKind)(n:Int):AV.cells (.int k n)=[.int k n]:=rfl
theorem Lt(b:Bool):AV.cells (.bool b)=[.bool b]:=rfl
theorem Wk(b:List UInt8):AV.cells (.str b)=[.str b]:=rfl
theorem Wl(b:List (List AV)):AV.cells (.lst b)=[.lst b]:=rfl
theorem Wm(r o l z:Nat):AV.cells (.sl r o l z)=[.sl r o l z]:=rfl
theorem Wn:AV.cells .nilS=[.nilS]:=rfl
theorem Wo(r o:Nat):AV.cells (.ptr r o)=[.ptr r o]:=rfl
theorem Wp(r:Nat):AV.cells (.map r)=[.map r]:=rfl
theorem Wq(g:Nat)(cap:List AV):AV.cells (.clo g cap)=[.clo g cap]:=rfl
theorem Wr(k:IntKind)(n:Int):AV.one (.int k n)=true:=rfl
theorem Wt(b:Bool):AV.one (.bool b)=true:=rfl
theorem Wu(b:List UInt8):AV.one (.str b)=true:=rfl
theorem Wv(b:List (List AV)):AV.one (.lst b)=true:=rfl
theorem Ww(r o l z:Nat):AV.one (.sl r o l z)=true:=rfl
theorem Wx:AV.one .nilS=true:=rfl
theorem Wy(r o:Nat):AV.one (.ptr r o)=true:=rfl
theorem Wz(r:Nat):AV.one (.map r)=true:=rfl
theorem WA(g:Nat)(cap:List AV):AV.one (.clo g cap)=true:=rfl
theorem zlI:zlv.next=0:=rfl
theorem WB(H:Hp)(t:TypeId)(s:List UInt8)(lo I:Option AV):pC P H t (.str s) lo I=jT P t (.str s) lo I:=rfl
theorem WC(H:Hp)(t:TypeId)(s:List (List AV))(lo I:Option AV):pC P H t (.lst s) lo I=jT P t (.lst s) lo I:=rfl
theorem WD(H:Hp)(t:TypeId)(r o n z:Nat)(lo I:Option AV):pC P H t (.sl r o n z) lo I=jT P t (.sl r o n z) lo I:=rfl
theorem WE(H:Hp)(t:TypeId)(lo I:Option AV):pC P H t .nilS lo I=jT P t .nilS lo I:=rfl
theorem Gx(n k:Nat):(n == n+(k+1))=false:=ax
theorem Gy(n k:Nat):(n+(k+1) == n)=false:=ax
theorem Lu(n a b:Nat):(n+a == n+b)=(a == b):=by
 by_cases h:a=b
 .simp[h]
 .have m:(a == b)=false:=by simpa using h
  rw[m];simp;omega
end
attribute [irreducible] aH zlt zk5 jn
theorem Sx.beq_refl:∀a:Sx,Sx.beq a a=true
 | .var i=>by simp[Sx.beq]
 | .lit n=>by simp[Sx.beq]
 | .bin o k a b=>by simp[Sx.beq,Sx.beq_refl a,Sx.beq_refl b]
 | .conv k a=>by simp[Sx.beq,Sx.beq_refl a]
mutual
theorem AV.beq_refl:∀a:AV,AV.beq a a=true
 | .int k n=>by simp[AV.beq]
 | .sx k e=>by simp[AV.beq,Sx.beq_refl]
 | .bool b=>by simp[AV.beq]
 | .str s=>by simp[AV.beq]
 | .nilP=>rfl
 | .nilM=>rfl
 | .nilF=>rfl
 | .nilS=>rfl
 | .ptr r o=>by simp[AV.beq]
 | .iptr Z=>by simp only[AV.beq];exact jZ Z
 | .sl r o l z=>by simp[AV.beq]
 | .lst Y=>by simp only[AV.beq];exact Lw Y
 | .map r=>by simp[AV.beq]
 | .clo f Z=>by simp only[AV.beq,jZ Z,fR];simp
 | .agg Z=>by simp only[AV.beq];exact jZ Z
 | .tup Z=>by simp only[AV.beq];exact jZ Z
theorem jZ:∀a:List AV,my a a=true
 |[]=>rfl
 |a::l=>by simp only[my,AV.beq_refl a,jZ l,fR]
theorem Lw:∀a:List (List AV),u7 a a=true
 |[]=>rfl
 |a::l=>by simp only[u7,jZ a,Lw l,fR]
end
def vA(o:Oper):Bool:=sH o.op||rE o.op
def Co(o:Oper):Bool:=vA o||(match o.op with|.store ..|.mapUpdate ..=>true |_=>false)
def Cp(ops:List Oper):Bool:=
 nJ ops&&(List.range ops.length).all (fun i=>match ops[i]? with|some o=>if Nat.blt (i+1) ops.length then vA o else Co o|none=>true)&&(mz ops).all (fun p=>Nat.blt p.2 ops.length)
section
variable {P:Program} {cfg:Cfg} {f N:Nat}
theorem Gz{ih:Task->Res}{I:List Oper}:∀{l:List Oper}{E E':aw}{H H':Hp},kU P cfg ih f N I l E H=.done .normal E' H'->∃rs,jW P cfg ih f N I l E H=.done E' H' rs
 |[],E,E',H,H',h=>by
  simp only[kU,Res.done.injEq,j9]at h;obtain⟨rfl,rfl⟩:=h;exact⟨[],rfl⟩
 |o::l,E,E',H,H',h=>by
  rw[zp]at h;simp only[jW];cases O:znp I E o with
  |true=>
   rw[O]at h;simp only[]at h⊢;cases C:zmz P cfg ih f E H o.op with
   |val v H1=>
    rw[C]at h;simp only[]at h⊢;cases hp:fQ N E o.dst v with
    |none=>rw[hp]at h;simp[znA]at h
    |some E1=>
     rw[hp]at h;simp only[znA]at h;obtain⟨rs,hr⟩:=Gz h;exact⟨_,by simp only[pF,hr,pE];rfl⟩
   |done _ _ _=>rw[C]at h;simp at h
   |fail=>rw[C]at h;simp at h
  |false=>
   rw[O]at h;simp only[]at h⊢;cases hp:fQ N E o.dst zmx with
   |none=>rw[hp]at h;simp[znA]at h
   |some E1=>
    rw[hp]at h;simp only[znA]at h;obtain⟨rs,hr⟩:=Gz h;exact⟨_,by simp only[pF,hr,pE];rfl⟩
theorem GA{ih:Task->Res}{E:aw}{o:Oper}{v:AV}{H H':Hp}(Z:vA o=true)(h:zmz P cfg ih f E H o.op=.val v H'):H'=H:=by
 unfold vA at Z;rw[pN]at Z;rcases Z with Z|Z
 .have J:∀c,o.op≠.call c:=fun c e=>by
   rw[e]at Z;simp only[sH,zm7]at Z;split at Z
   .rename_i m;split at m<;>simp at m
   .simp at Z
  exact(FO Z ((vr J).1 h)).1
 .exact FP Z h
theorem WF{ih:Task->Res}{E:aw}{o:Oper}{v:AV}{H H':Hp}(Z:Co o=true)(h:zmz P cfg ih f E H o.op=.val v H'):H.next<=H'.next:=by
 unfold Co at Z;rw[pN]at Z;rcases Z with Z|Z
 .rw[GA Z h];exact aB _
 .obtain⟨J,V,M,O,Y,guard⟩:=o;simp only[]at Z h;cases V<;>simp only[dE]at Z
  case store t a x=>
   simp only[zmz,dH,Bp]at h;split at h
   .split at h
    .rename_i U;simp only[iD,Res.val.injEq]at h;obtain⟨rfl,rfl⟩:=h;unfold lS at U;split at U
     .split at U
      .split at U
       .simp only[aL]at U;rw[<-U];exact aB _
       .simp at U
      .simp at U
     .simp at U
    .simp[iD]at h
   .simp[iD]at h
  case mapUpdate t m k x=>
   simp only[zmz,dH,Bz]at h;split at h
   .split at h
    .rename_i U;simp only[iD,Res.val.injEq]at h;obtain⟨rfl,rfl⟩:=h;unfold znN at U;split at U
     .split at U
      .split at U
       .split at U
        .simp only[aL]at U;rw[<-U];exact aB _
        .simp only[aL]at U;rw[<-U];exact aB _
        .simp at U
       .simp at U
      .simp at U
     .simp at U
    .simp[iD]at h
   .simp[iD]at h
theorem WG{ih ih':Task->Res}{f':FuncId}{E:aw}{op:Op}{H:Hp}(o:rE op=true):zmz P cfg ih f E H op=zmz P cfg ih' f' E H op:=by
 cases op<;>simp only[rE,zm7,dE]at o<;>try rfl
 rename_i c;simp only[zmz,tS];cases hc:c.callee with
 |value g=>rw[hc]at o;simp at o
 |invoke g m=>rfl
 |builtin b=>
  rw[hc]at o;simp only[];cases b<;>simp only[dE]at o<;>rfl
theorem WH{ih:Task->Res}{ops:List Oper}{E E':aw}{H H':Hp}(hp:Cp ops=true)(h:kU P cfg ih f N ops ops E H=.done .normal E' H'):zns P cfg ih f N ops E H=.done .normal E' H':=by
 unfold Cp at hp;simp only[co,iP,lZ]at hp;obtain⟨⟨K,U⟩,m⟩:=hp;obtain⟨rs,hr⟩:=Gz h;have Y:=zb hr;have hlen:=FM Y;obtain⟨_,z2⟩:=FN Y;have C:∀(i:Nat) o,ops[i]?=some o->i+1<ops.length->vA o=true:=fun i o J hi=>by
  have:=U i ac;rw[J]at this;simp only[show Nat.blt (i+1) ops.length=true by simpa [jH]using hi,dB]at this;exact this
 have M:∀i,i+1<=ops.length->zlR rs H' i=H:=fun i=>by
  induction i with
  |zero=>intro _;exact z2
  |succ i ih=>
   intro hi;have hri:=aT (show i<rs.length by omega);obtain⟨o,J,O⟩:=vp Y hri;have h1:=ih ac;have h2:zlR rs H' (i+1)=zlR rs H' i:=by
    cases hd:(rs[i]' ac).did with
    |true=>exact GA (C i o J ac) (O.yes hd)
    |false=>exact(O.no hd).2
   rw[h2,h1]
 unfold zns;rw[K];simp only[hr];have I:u9 P cfg (mz ops) rs H'=true:=by
  unfold u9;simp only[co,iP];refine⟨fun r hm=>?_,fun p hpm=>?_⟩
  .obtain⟨i,hi⟩:=FV.1 hm;obtain⟨o,J,O⟩:=vp Y hi;have z:i<ops.length:=(fw.1 J).1;rw[O.eH,O.eH'];refine Nat.ble_eq_true_of_le ?_;cases hd:r.did with
   |false=>rw[(O.no hd).2];exact aB _
   |true=>
    by_cases j:i+1<ops.length
    .rw[GA (C i o J j) (O.yes hd)];exact aB _
    .have:=U i z;rw[J]at this;have hb:Nat.blt (i+1) ops.length=false:=by
      cases hx:Nat.blt (i+1) ops.length with
      |false=>rfl
      |true=>exact(j (by simpa [jH]using hx)).elim
     simp only[hb,dE,dL]at this;exact WF this (O.yes hd)
  .have hm:p.2<ops.length:=by simpa [jH]using m p hpm
   cases hrp:rs[p.1]? with
   |none=>rfl
   |some r=>
    obtain⟨o,J,O⟩:=vp Y hrp;have z:p.1<ops.length:=(fw.1 J).1;simp only[];cases hd:r.did with
    |false=>rfl
    |true=>
     simp only[lC,gm];have hH:r.H=zlR rs H' p.2:=by rw[O.eH,M _ ac,M _ ac]
     unfold zei;cases V:zm7 r.o.op with
     |calm=>rfl
     |act=>rfl
     |read=>
      simp only[];have Z:=O.yes hd;rw[<-O.eE,<-O.eo,<-O.eH,hH]at Z;rw[WG (P:=P) (cfg:=cfg) (f:=f) (ih:=ih) (ih':=fun _=>.fail) (f':=0) (by simp[rE,V])]at Z;rw[Z];simp only[AV.beq_refl]
     |make=>
      exfalso;rw[O.eo]at V;by_cases j:p.1+1<ops.length
      .have:=C _ o J j;unfold vA sH rE at this;rw[V]at this;simp at this
      .have h3:=U p.1 z;rw[J]at h3;have hb:Nat.blt (p.1+1) ops.length=false:=by
        cases hx:Nat.blt (p.1+1) ops.length with
        |false=>rfl
        |true=>exact(j (by simpa [jH]using hx)).elim
       simp only[hb,dE,dL,Co,vA,sH,rE,V,Bool.or_self,gm]at h3;split at h3
       .rename_i Z;rw[Z]at V;simp[zm7]at V
       .rename_i Z;rw[Z]at V;simp[zm7]at V
       .simp at h3
 rw[I]
theorem zlt.draw{id:Nat}{ops:List Oper}{l:List SOp}{E:aw}{H:Hp}{Q:AX->aw->Hp->Prop}(Y:cfg.plan f id=.text)(C:Cp ops=true)(U:zle N ops ops=some l)
 (h:∀K:aw->Hp->Prop,(∀E' H',Q .normal E' H'->K E' H')->aH P cfg f l E H K):zlt P cfg f N (.draw id ops) E H Q:=by
 unfold zlt;intro code hc;cases code with
 |region Z V draw=>
  cases draw with
  |false=>simp only[aC,zll]at hc;split at hc<;>simp at hc
  |true=>
   simp only[aC,SC.draw.injEq]at hc;obtain⟨rfl,rfl⟩:=hc;obtain⟨n,E',H',m,j⟩:=aH.run U (h (Q .normal) fun _ _ h=>h);refine⟨_,_,_,zmj.draw (n:=n) (r:=.done .normal E' H') ?_ ax,j⟩;rw[Y];simp only[znt];exact WH C m
 |_=>simp[aC]at hc
end
section
variable {P:Program} {H:Hp} {t u e:TypeId} {keep:Bool}
theorem WI{D:BinOp->Sx->Sx->Option Bool}{t:TypeId}{s u:List UInt8}:zmt P D .leq t (.str s) (.str u)=some (.bool (tN s u||s == u)):=rfl
theorem sN{r o n z s:Nat}{cs:List AV}{imm:Nat}{tip:Bool}(K:H.get r=some (.cells cs imm tip))(M:((cs.drop o).take (n*s)).length=n*s):zmM H s (.sl r o n z)=some (n,(cs.drop o).take (n*s)):=by
 unfold zmM;simp only[K,M,dB]
theorem GB{k:IntKind}{s:List UInt8}{m:Nat}(j:P.underlying t=some .string)(V:m<=s.length):jT P t (.str s) none (some (.int k (m:Int)))=some (.str (s.take m)):=by
 show jT P t (.str s) none (some (.int k (Int.ofNat m)))=_;simp[jT,j,znd,V]
theorem Ly{k:IntKind}{s:List UInt8}{m:Nat}(j:P.underlying t=some .string)(V:m<=s.length):jT P t (.str s) (some (.int k (m:Int))) none=some (.str (s.drop m)):=by
 show jT P t (.str s) (some (.int k (Int.ofNat m))) none=_;simp only[jT,j,znd];rw[am ⟨V,aB _⟩];rw[gl ax]
theorem append_nil{s b n:Nat}{z V:List AV}{x:AV}(j:P.underlying t=some (.slice e))(Y:zlq P e=some s)(C:zmg P e=some b)(J:zlV P e=some z)(O:znh P u=true)
 (o:zmM H s x=some (n+1,V)) (U:V.all AV.one=true) (Z:z.length=s) (h1:(n+1)*b<=zmr) (h2:n+1<=zmr) :
 zmc P keep H t u .nilS x=some (.sl H.next 0 (n+1) s,H.alloc (.cells V 0 true)):=by
 simp only[zmc,j,Y,C,J,O,o,U,Z,oM,dB,iC,znM,h1,h2]
theorem WJ{s b n r len:Nat}{z V cs:List AV}{x:AV}(j:P.underlying t=some (.slice e))(Y:zlq P e=some s)(C:zmg P e=some b)(J:zlV P e=some z)(O:znh P u=true)
 (M:zmM H s x=some (n+1,V)) (U:V.all AV.one=true) (Z:z.length=s) (K:H.get r=some (.cells cs 0 true)) (I:cs.length=len*s) (h1:(len+(n+1))*b<=zmr) (h2:len+(n+1)<=zmr) :
 zmc P false H t u (.sl r 0 len s) x=some (.sl H.next 0 (len+(n+1)) s,(H.kill r).alloc (.cells (cs++V) 0 true)):=by
 have o:iC false H s (.sl r 0 len s)=H:=by
  unfold iC;simp only[K,bL];have:Nat.blt (len*s) cs.length=false:=by
   cases C:Nat.blt (len*s) cs.length with
   |false=>rfl
   |true=>rw[jH]at C;omega
  simp[this]
 simp only[zmc,j,Y,C,J,O,M,U,Z,oM,dB,o,znM,K,h1,h2,bL,I,dm,oG,fH,dE,dL]
end
theorem WK(E:aw):zk4 E (.const (.slice none 0 0))=some .nilS:=rfl
theorem Lz(E:aw):zk4 E (.const (.map none))=some .nilM:=rfl
structure Rc where
 op:Op
 did:Bool
 E:aw
 H:Hp
 val:AV
 H':Hp
section
variable (P:Program) (cfg:Cfg) (f:FuncId)
def eh:List SOp->List Rc->aw->Hp->(List Rc->aw->Hp->Prop)->Prop
 |[],tr,E,H,Q=>Q tr E H
 |o::l,tr,E,H,Q=>match o.g with
  |none=>jn P cfg f o.op E H fun v H'=>eh l (tr++[⟨o.op,true,E,H,v,H'⟩]) (zk6 E o.d v) H' Q
  |some (s,b)=>(E.at s=.bool b/\jn P cfg f o.op E H fun v H'=>eh l (tr++[⟨o.op,true,E,H,v,H'⟩]) (zk6 E o.d v) H' Q)\/((E.at s=.bool (!b)\/E.at s=zmx)/\eh l (tr++[⟨o.op,false,E,H,zmx,H⟩]) (zk6 E o.d zmx) H Q)
def zu(V:List Rc)(H':Hp)(m:Nat):Hp:=match V[m]? with
 |some r=>r.H
 |none=>H'
def rG(r:Rc)(H:Hp):Prop:=match zm7 r.op with
 | .read=>∃I,zmz P cfg (fun _=>.fail) 0 r.E H r.op=.val r.val I
 | .make=>∃b,H.get r.H.next=some b/\r.H'.get r.H.next=some b
 |_=>True
def Cq(V:List Rc)(H':Hp)(i m:Nat):Prop:=match V[i]? with
 |some r=>r.did=true->rG P cfg r (zu V H' m)
 |none=>True
def oO(need:List (Nat×Nat))(V:List Rc)(H':Hp):Prop:=(∀r∈V,r.H.next<=r.H'.next)/\∀p∈need,Cq P cfg V H' p.1 p.2
end
section
variable {P:Program} {cfg:Cfg} {f N:Nat}
def vB(r:Rec):Rc:=⟨r.o.op,r.did,r.E,r.H,r.val,r.H'⟩
theorem HB.beq_refl(b:HB):HB.beq b b=true:=by
 cases b with
 |cells a i t=>simp[HB.beq,jZ]
 |map I=>simp[HB.beq,jZ]
theorem eh.run{I:List Oper}{Q:List Rc->aw->Hp->Prop}:∀{l:List Oper}{r:List SOp}{Y:List Rc}{E:aw}{H:Hp},zle N I l=some r->eh P cfg f r Y E H Q ->
 ∃n E' H' rs,jW P cfg (zmi P cfg n) f N I l E H=.done E' H' rs/\Q (Y++rs.map vB) E' H'
 |[],r,Y,E,H,hs,V=>by
  simp only[zle,aL]at hs;subst hs;unfold eh at V;exact⟨0,E,H,[],rfl,wT⟩
 |o::l,r,Y,E,H,hs,V=>by
  simp only[zle]at hs;split at hs
  .rename_i d g r' h1 h2 h3;simp only[aL]at hs;subst hs;obtain⟨zlG,w2⟩:=Lf (E:=E) h2;have U:∀k k',k<=k'->zmu (zmi P cfg k) (zmi P cfg k'):=fun k k' hk t ht=>zq hk ht;have C:jn P cfg f o.op E H (fun v H'=>eh P cfg f r' (Y++[⟨o.op,true,E,H,v,H'⟩]) (zk6 E d v) H' Q)->znp I E o=true->∃n E' H' rs,jW P cfg (zmi P cfg n) f N I (o::l) E H=.done E' H' rs/\Q (Y++rs.map vB) E' H':=fun j Z=>by
    unfold jn at j;obtain⟨n,v,H1,g1,g2⟩:=j;obtain⟨m,M,J,rs,O,z⟩:=eh.run h3 g2;refine⟨max n m,M,J,⟨o,true,E,H,v,H1⟩::rs,?_,by simpa [vB]using z⟩;simp only[jW,Z];rw[Cd (U n (max n m) (Cb _ _)) (by rw[g1];simp),g1];simp only[Ci h1,pF];rw[Cf (U m (max n m) (Cc _ _)) (by rw[O];simp),O];rfl
   unfold eh at V;cases K:g with
   |none=>
    rw[K]at V;exact C V (zlG K)
   |some sb=>
    obtain⟨s,b⟩:=sb;rw[K]at V;simp only[]at V;rcases V with⟨e,V⟩|⟨e,V⟩
    .exact C V ((w2 s b K).1 e)
    .obtain⟨m,M,J,rs,O,z⟩:=eh.run h3 V;refine⟨m,M,J,⟨o,false,E,H,zmx,H⟩::rs,?_,by simpa [vB]using z⟩;simp only[jW,(w2 s b K).2 e,Ci h1,pF,O,pE]
  .simp at hs
theorem GC{need:List (Nat×Nat)}{rs:List Rec}{H':Hp}(h:oO P cfg need (rs.map vB) H'):u9 P cfg need rs H'=true:=by
 unfold u9;simp only[co,iP];refine⟨fun r V=>Nat.ble_eq_true_of_le (h.1 _ (kV.2 ⟨r,V,rfl⟩)),fun p hp=>?_⟩;have U:=h.2 p hp;have M:zu (rs.map vB) H' p.2=zlR rs H' p.2:=by
  unfold zu zlR;rw[eS];cases rs[p.2]? <;>rfl
 unfold Cq at U;rw[eS,M]at U;cases hr:rs[p.1]? with
 |none=>rfl
 |some r=>
  rw[hr]at U;simp only[oH,vB]at U;simp only[pN,nM];cases hd:r.did with
  |false=>exact .inl rfl
  |true=>
   right
   have U:=U hd;unfold rG at U;unfold zei;cases o:zm7 r.o.op with
   |calm=>rfl
   |act=>rfl
   |read=>
    rw[o]at U;simp only[]at U⊢;obtain⟨I,j⟩:=U;rw[j];exact AV.beq_refl _
   |make=>
    rw[o]at U;simp only[]at U⊢;obtain⟨b,m,j⟩:=U;rw[m,j];exact HB.beq_refl b
theorem LA{id:Nat}{ops C:List Oper}{l:List SOp}{need:List (Nat×Nat)}{E:aw}{H:Hp}{Q:AX->aw->Hp->Prop}
 (Y:∀ih:Task->Res,znt P cfg ih f N E H (cfg.plan f id) ops=zns P cfg ih f N C E H) (U:nJ C=true) (O:zle N C C=some l) (J:mz C=need)
 (h:∀K:List Rc->aw->Hp->Prop,(∀V E' H',oO P cfg need V H'->Q .normal E' H'->K V E' H')->eh P cfg f l [] E H K):zlt P cfg f N (.draw id ops) E H Q:=by
 unfold zlt;intro code hc;cases code with
 |region I Z draw=>
  cases draw with
  |false=>simp only[aC,zll]at hc;split at hc<;>simp at hc
  |true=>
   simp only[aC,SC.draw.injEq]at hc;obtain⟨rfl,rfl⟩:=hc;obtain⟨n,E',H',rs,m,j,z⟩:=eh.run O (h (fun V E' H'=>oO P cfg need V H'/\Q .normal E' H') fun _ _ _ h M=>⟨h,M⟩);refine⟨_,_,_,zmj.draw (n:=n) (r:=.done .normal E' H') ?_ ax,z⟩;rw[Y];unfold zns;rw[U];simp only[m];rw[J,GC (by simpa using j)]
 |_=>simp[aC]at hc
theorem WL{id:Nat}{ops:List Oper}{l:List SOp}{need:List (Nat×Nat)}{E:aw}{H:Hp}{Q:AX->aw->Hp->Prop}(Y:cfg.plan f id=.text)(C:nJ ops=true)(U:zle N ops ops=some l)(J:mz ops=need)
 (h:∀K:List Rc->aw->Hp->Prop,(∀V E' H',oO P cfg need V H'->Q .normal E' H'->K V E' H')->eh P cfg f l [] E H K):zlt P cfg f N (.draw id ops) E H Q:=
 LA (fun ih=>by rw[Y];rfl) C U J h
theorem LB{id:Nat}{ops:List Oper}{ord:List Nat}{l:List SOp}{need:List (Nat×Nat)}{E:aw}{H:Hp}{Q:AX->aw->Hp->Prop}(Y:cfg.plan f id=.perm ord)(C:vc ord ops=true)(Z:nJ (zmE ord ops)=true)(U:zle N (zmE ord ops) (zmE ord ops)=some l)(J:mz (zmE ord ops)=need)
 (h:∀K:List Rc->aw->Hp->Prop,(∀V E' H',oO P cfg need V H'->Q .normal E' H'->K V E' H')->eh P cfg f l [] E H K):zlt P cfg f N (.draw id ops) E H Q:=
 LA (fun ih=>by rw[Y];simp only[znt,C]) Z U J h
theorem eh.nil{V:List Rc}{E:aw}{H:Hp}{Q:List Rc->aw->Hp->Prop}(h:Q V E H):eh P cfg f [] V E H Q:=h
def zw:=@eh.nil
theorem eh.step{d:Nat}{op:Op}{l:List SOp}{Z:List Rc}{E:aw}{H:Hp}{Q:List Rc->aw->Hp->Prop}
 (h:aH P cfg f [⟨some d,op,none⟩] E H fun E' H'=>eh P cfg f l (Z++[⟨op,true,E,H,E'.at d,H'⟩]) E' H' Q):eh P cfg f (⟨some d,op,none⟩::l) Z E H Q:=by
 unfold aH at h;simp only[]at h;unfold eh;refine jn.mono (fun v H' V=>?_) h;unfold aH at V;have:(zk6 E (some d) v).at d=v:=La;rw[this]at V;exact V
def bZ:=@eh.step
theorem zmK{op:Op}{l:List SOp}{V:List Rc}{E:aw}{H:Hp}{Q:List Rc->aw->Hp->Prop}(o:zm7 op=.act)
 (h:aH P cfg f [⟨none,op,none⟩] E H fun E' H'=>∀v,eh P cfg f l (V++[⟨op,true,E,H,v,H'⟩]) E' H' Q):eh P cfg f (⟨none,op,none⟩::l) V E H Q:=by
 unfold aH at h;simp only[]at h;unfold eh;refine jn.mono (fun v H' Z=>?_) h;unfold aH at Z;exact Z v
theorem eh.guard{d:Option Nat}{op:Op}{s:Nat}{b t:Bool}{l:List SOp}{V:List Rc}{E:aw}{H:Hp}{Q:List Rc->aw->Hp->Prop}(h:E.at s=.bool t)(h1:t=b->eh P cfg f (⟨d,op,none⟩::l) V E H Q)(h2:t=!b->eh P cfg f l (V++[⟨op,false,E,H,zmx,H⟩]) (zk6 E d zmx) H Q):
 eh P cfg f (⟨d,op,some (s,b)⟩::l) V E H Q:=by
 unfold eh;simp only[];by_cases e:t=b
 .left
  refine⟨by rw[h,e],?_⟩;have:=h1 e;unfold eh at this;exact this
 .right
  have U:t=!b:=by cases t<;>cases b<;>simp_all
  exact⟨.inl (by rw[h,U]),h2 U⟩
theorem WM{t:TypeId}{x:Operand}{E:aw}{zlv C H:Hp}{v a:AV}(h:zk4 E x=some a)(h1:iN P H t a=some v):rG P cfg ⟨.load t x,true,E,zlv,v,C⟩ H:=
 ⟨H,by simp only[zmz,dH,yy,Go.Ab.ret,h,h1,iD]⟩
theorem WN{t:TypeId}{x y:Operand}{ok:Bool}{E:aw}{zlv C H:Hp}{v a b:AV}(h:zk4 E x=some a)(h1:zk4 E y=some b)(h2:jK P H t a b ok=some v):rG P cfg ⟨.lookup t x y ok,true,E,zlv,v,C⟩ H:=
 ⟨H,by simp only[zmz,dH,yD,Go.Ab.ret,h,h1,h2,iD]⟩
theorem WO{t:TypeId}{x:Operand}{E:aw}{zlv C H:Hp}{v a:AV}(h:zk4 E x=some a)(h1:zlS P H t a=some v):rG P cfg ⟨.call ⟨.builtin .len,#[x],#[t]⟩,true,E,zlv,v,C⟩ H:=
 ⟨H,by simp only[zmz,tS,znk,h,rC,h1]⟩
theorem WP{s t:TypeId}{x:Operand}{E:aw}{zlv C H:Hp}{v a:AV}(h:zk4 E x=some a)(h1:zny P H s t a=some v):rG P cfg ⟨.convert s t x,true,E,zlv,v,C⟩ H:=
 ⟨H,by simp only[zmz,dH,yz,Go.Ab.ret,h,h1,iD]⟩
theorem WQ{t:TypeId}{x:Operand}{lo I:Option Operand}{m Z:Option AV}{E:aw}{zlv C H:Hp}{v a:AV}(h:zk4 E x=some a)(h1:lw E lo=some m)(h2:lw E I=some Z)(z:pC P H t a m Z=some v):rG P cfg ⟨.slice t x lo I none,true,E,zlv,v,C⟩ H:=
 ⟨H,by simp only[zmz,dH,yC,Go.Ab.ret,h,h1,h2,z,iD]⟩
theorem WR{op:Op}{E:aw}{zlv C H:Hp}{v:AV}{b:HB}(o:zm7 op=.make)(h:H.get zlv.next=some b)(h2:C.get zlv.next=some b):rG P cfg ⟨op,true,E,zlv,v,C⟩ H:=by
 unfold rG;rw[o];exact⟨b,h,h2⟩
theorem WS{V:List Rc}{H':Hp}{i m:Nat}{r:Rc}(h:V[i]?=some r)(U:r.did=true->rG P cfg r (zu V H' m)):Cq P cfg V H' i m:=by
 unfold Cq;rw[h];exact U
end
section
variable {P:Program} {cfg:Cfg} {f:FuncId} {l:List SOp} {E:aw} {H:Hp} {Q:aw -> Hp -> Prop} {d:Nat} {x y:Operand} {ts:Array TypeId} {k k':IntKind} {a b:Int}
theorem aH.min2(h:zk4 E x=some (.int k a))(h1:zk4 E y=some (.int k' b))(o:aH P cfg f l (T.set E d (some (.int k (min a b)))) H Q):aH P cfg f (⟨some d,.call ⟨.builtin .min,#[x,y],ts⟩,none⟩::l) E H Q:=
 Ck (c:=⟨.builtin .min,#[x,y],ts⟩) rfl (vs:=[.int k a,.int k' b]) Gt (v:=.int k (min a b)) (by
  simp only[rC,tR,mm,dE,dL,jJ]
  congr 3;omega) o
theorem aH.max2(h:zk4 E x=some (.int k a))(h1:zk4 E y=some (.int k' b))(o:aH P cfg f l (T.set E d (some (.int k (max a b)))) H Q):aH P cfg f (⟨some d,.call ⟨.builtin .max,#[x,y],ts⟩,none⟩::l) E H Q:=
 Ck (c:=⟨.builtin .max,#[x,y],ts⟩) rfl (vs:=[.int k a,.int k' b]) Gt (v:=.int k (max a b)) (by
  simp only[rC,tR,mm,dB,jJ]
  congr 3;omega) o
end
attribute [irreducible] eh
abbrev zlY(l:List (List UInt8)):AV:=.lst (l.map fun s=>[.str s])
abbrev gI(l:List Int):AV:=.lst (l.map fun n=>[.int .i64 n])
def str(s:String):List UInt8:=s.toUTF8.data.toList
inductive Ex where
 |mk (kind:Int) (n:Int) (name:List UInt8) (op:Int) (kids:List Ex)
def Ex.kind:Ex->Int|.mk x _ _ _ _=>x
def Ex.n:Ex->Int|.mk _ x _ _ _=>x
def Ex.name:Ex->List UInt8|.mk _ _ x _ _=>x
def Ex.op:Ex->Int|.mk _ _ _ x _=>x
def Ex.kids:Ex->List Ex|.mk _ _ _ _ x=>x
mutual
def Ex.cells:Ex->List AV
 | .mk znw J V j K=>[.int .i64 znw,.int .i64 J,.str V,.int .i64 j,.lst (Cr K)]
def Cr:List Ex->List (List AV)
 |[]=>[]
 |x::xs=>Ex.cells x::Cr xs
end
theorem LC:∀l:List Ex,Cr l=l.map Ex.cells
 |[]=>rfl
 |x::xs=>by rw[Cr,LC xs];rfl
theorem Ex.cells_eq(x:Ex):x.cells=[.int .i64 x.kind,.int .i64 x.n,.str x.name,.int .i64 x.op,.lst (x.kids.map Ex.cells)]:=by
 cases x;simp only[Ex.cells,LC,Ex.kind,Ex.n,Ex.name,Ex.op,Ex.kids]
def mc:=@Ex.cells_eq
theorem Ex.clen(x:Ex):x.cells.length=5:=sK
theorem Ex.c0(x:Ex):x.cells[0]?=some (.int .i64 x.kind):=sK
theorem Ex.c1(x:Ex):x.cells[1]?=some (.int .i64 x.n):=sK
theorem Ex.c2(x:Ex):x.cells[2]?=some (.str x.name):=sK
theorem Ex.c3(x:Ex):x.cells[3]?=some (.int .i64 x.op):=sK
theorem Ex.c4(x:Ex):x.cells[4]?=some (.lst (x.kids.map Ex.cells)):=sK
theorem Ex.whole(x:Ex):zlT 5 x.cells=some (.agg x.cells):=by unfold zlT;rw[mc];rfl
theorem Ex.one(x:Ex):x.cells.all AV.one=true:=sK
inductive St where
 |mk (kind:Int) (name:List UInt8) (to:List UInt8) (n:Int) (at_:Ex) (value:Ex) (args:List Ex) (thn:List St) (els:List St)
def St.kind:St->Int|.mk x _ _ _ _ _ _ _ _=>x
def St.name:St->List UInt8|.mk _ x _ _ _ _ _ _ _=>x
def St.to:St->List UInt8|.mk _ _ x _ _ _ _ _ _=>x
def St.n:St->Int|.mk _ _ _ x _ _ _ _ _=>x
def St.at_:St->Ex|.mk _ _ _ _ x _ _ _ _=>x
def St.value:St->Ex|.mk _ _ _ _ _ x _ _ _=>x
def St.args:St->List Ex|.mk _ _ _ _ _ _ x _ _=>x
def St.thn:St->List St|.mk _ _ _ _ _ _ _ x _=>x
def St.els:St->List St|.mk _ _ _ _ _ _ _ _ x=>x
mutual
def St.cells:St->List AV
 | .mk znw J V j K Z C z Y=>[.int .i64 znw,.str J,.str V,.int .i64 j,.int .i64 K.kind,.int .i64 K.n,.str K.name,.int .i64 K.op,.lst (K.kids.map Ex.cells),.int .i64 Z.kind,.int .i64 Z.n,.str Z.name,.int .i64 Z.op,.lst (Z.kids.map Ex.cells),.lst (C.map Ex.cells),.lst (zx z),.lst (zx Y)]
def zx:List St->List (List AV)
 |[]=>[]
 |x::xs=>St.cells x::zx xs
end
theorem LD:∀l:List St,zx l=l.map St.cells
 |[]=>rfl
 |x::xs=>by rw[zx,LD xs];rfl
theorem St.cells_eq(x:St):x.cells=[.int .i64 x.kind,.str x.name,.str x.to,.int .i64 x.n,.int .i64 x.at_.kind,.int .i64 x.at_.n,.str x.at_.name,.int .i64 x.at_.op,.lst (x.at_.kids.map Ex.cells),.int .i64 x.value.kind,.int .i64 x.value.n,.str x.value.name,.int .i64 x.value.op,.lst (x.value.kids.map Ex.cells),.lst (x.args.map Ex.cells),.lst (x.thn.map St.cells),.lst (x.els.map St.cells)]:=by
 cases x;simp only[St.cells,LD,St.kind,St.name,St.to,St.n,St.at_,St.value,St.args,St.thn,St.els]
def oP:=@St.cells_eq
theorem St.clen(x:St):x.cells.length=17:=kg
theorem St.c0(x:St):x.cells[0]?=some (.int .i64 x.kind):=kg
theorem St.c1(x:St):x.cells[1]?=some (.str x.name):=kg
theorem St.c2(x:St):x.cells[2]?=some (.str x.to):=kg
theorem St.c3(x:St):x.cells[3]?=some (.int .i64 x.n):=kg
theorem St.c4(x:St):x.cells[4]?=some (.int .i64 x.at_.kind):=kg
theorem St.c5(x:St):x.cells[5]?=some (.int .i64 x.at_.n):=kg
theorem St.c6(x:St):x.cells[6]?=some (.str x.at_.name):=kg
theorem St.c7(x:St):x.cells[7]?=some (.int .i64 x.at_.op):=kg
theorem St.c8(x:St):x.cells[8]?=some (.lst (x.at_.kids.map Ex.cells)):=kg
theorem St.c9(x:St):x.cells[9]?=some (.int .i64 x.value.kind):=kg
theorem St.c10(x:St):x.cells[10]?=some (.int .i64 x.value.n):=kg
theorem St.c11(x:St):x.cells[11]?=some (.str x.value.name):=kg
theorem St.c12(x:St):x.cells[12]?=some (.int .i64 x.value.op):=kg
theorem St.c13(x:St):x.cells[13]?=some (.lst (x.value.kids.map Ex.cells)):=kg
theorem St.c14(x:St):x.cells[14]?=some (.lst (x.args.map Ex.cells)):=kg
theorem St.c15(x:St):x.cells[15]?=some (.lst (x.thn.map St.cells)):=kg
theorem St.c16(x:St):x.cells[16]?=some (.lst (x.els.map St.cells)):=kg
theorem St.whole(x:St):zlT 17 x.cells=some (.agg x.cells):=by unfold zlT;rw[oP];rfl
theorem St.one(x:St):x.cells.all AV.one=true:=kg
theorem WT(x:St):zlT 5 (x.cells.drop 4)=some (.agg x.at_.cells):=by unfold zlT;rw[oP,mc];rfl
theorem St.part_value(x:St):zlT 5 (x.cells.drop 9)=some (.agg x.value.cells):=by unfold zlT;rw[oP,mc];rfl
structure Fu where
 name:List UInt8
 params:List (List UInt8)
 locals:List (List UInt8)
 body:List St
 value:Ex
def Fu.cells(x:Fu):List AV:=[.str x.name,zlY x.params,zlY x.locals,.lst (x.body.map St.cells),.int .i64 x.value.kind,.int .i64 x.value.n,.str x.value.name,.int .i64 x.value.op,.lst (x.value.kids.map Ex.cells)]
theorem Fu.cells_eq(x:Fu):x.cells=[.str x.name,zlY x.params,zlY x.locals,.lst (x.body.map St.cells),.int .i64 x.value.kind,.int .i64 x.value.n,.str x.value.name,.int .i64 x.value.op,.lst (x.value.kids.map Ex.cells)]:=rfl
def zy:=@Fu.cells_eq
theorem Fu.clen(x:Fu):x.cells.length=9:=qI
theorem Fu.c0(x:Fu):x.cells[0]?=some (.str x.name):=qI
theorem Fu.c1(x:Fu):x.cells[1]?=some (zlY x.params):=qI
theorem Fu.c2(x:Fu):x.cells[2]?=some (zlY x.locals):=qI
theorem Fu.c3(x:Fu):x.cells[3]?=some (.lst (x.body.map St.cells)):=qI
theorem Fu.c4(x:Fu):x.cells[4]?=some (.int .i64 x.value.kind):=qI
theorem Fu.c5(x:Fu):x.cells[5]?=some (.int .i64 x.value.n):=qI
theorem Fu.c6(x:Fu):x.cells[6]?=some (.str x.value.name):=qI
theorem Fu.c7(x:Fu):x.cells[7]?=some (.int .i64 x.value.op):=qI
theorem Fu.c8(x:Fu):x.cells[8]?=some (.lst (x.value.kids.map Ex.cells)):=qI
theorem Fu.whole(x:Fu):zlT 9 x.cells=some (.agg x.cells):=by unfold zlT;rw[zy];rfl
theorem Fu.one(x:Fu):x.cells.all AV.one=true:=qI
theorem Fu.part_value(x:Fu):zlT 5 (x.cells.drop 4)=some (.agg x.value.cells):=by unfold zlT;rw[zy,mc];rfl
structure Ar where
 name:List UInt8
 len:Int
def Ar.cells(x:Ar):List AV:=[.str x.name,.int .i64 x.len]
theorem Ar.cells_eq(x:Ar):x.cells=[.str x.name,.int .i64 x.len]:=rfl
theorem Ar.clen(x:Ar):x.cells.length=2:=B8
theorem Ar.c0(x:Ar):x.cells[0]?=some (.str x.name):=B8
theorem Ar.c1(x:Ar):x.cells[1]?=some (.int .i64 x.len):=B8
theorem Ar.whole(x:Ar):zlT 2 x.cells=some (.agg x.cells):=by unfold zlT;rw[Ar.cells_eq];rfl
theorem Ar.one(x:Ar):x.cells.all AV.one=true:=B8
structure Pr where
 arrays:List Ar
 funcs:List Fu
def Pr.cells(x:Pr):List AV:=[.lst (x.arrays.map Ar.cells),.lst (x.funcs.map Fu.cells)]
theorem Pr.cells_eq(x:Pr):x.cells=[.lst (x.arrays.map Ar.cells),.lst (x.funcs.map Fu.cells)]:=rfl
theorem Pr.clen(x:Pr):x.cells.length=2:=B9
theorem Pr.c0(x:Pr):x.cells[0]?=some (.lst (x.arrays.map Ar.cells)):=B9
theorem Pr.c1(x:Pr):x.cells[1]?=some (.lst (x.funcs.map Fu.cells)):=B9
theorem Pr.whole(x:Pr):zlT 2 x.cells=some (.agg x.cells):=by unfold zlT;rw[Pr.cells_eq];rfl
theorem Pr.one(x:Pr):x.cells.all AV.one=true:=B9
structure Tk where
 kind:Int
 text:List UInt8
 at_:Int
def Tk.cells(x:Tk):List AV:=[.int .i64 x.kind,.str x.text,.int .i64 x.at_]
theorem Tk.cells_eq(x:Tk):x.cells=[.int .i64 x.kind,.str x.text,.int .i64 x.at_]:=rfl
theorem Tk.clen(x:Tk):x.cells.length=3:=zn
theorem Tk.c0(x:Tk):x.cells[0]?=some (.int .i64 x.kind):=zn
theorem Tk.c1(x:Tk):x.cells[1]?=some (.str x.text):=zn
theorem Tk.c2(x:Tk):x.cells[2]?=some (.int .i64 x.at_):=zn
theorem Tk.whole(x:Tk):zlT 3 x.cells=some (.agg x.cells):=by unfold zlT;rw[Tk.cells_eq];rfl
theorem Tk.one(x:Tk):x.cells.all AV.one=true:=zn
structure Nd where
 op:Int
 imm:Int
 kids:List Int
def Nd.cells(x:Nd):List AV:=[.int .i64 x.op,.int .i64 x.imm,gI x.kids]
theorem Nd.cells_eq(x:Nd):x.cells=[.int .i64 x.op,.int .i64 x.imm,gI x.kids]:=rfl
theorem Nd.clen(x:Nd):x.cells.length=3:=zo
theorem Nd.c0(x:Nd):x.cells[0]?=some (.int .i64 x.op):=zo
theorem Nd.c1(x:Nd):x.cells[1]?=some (.int .i64 x.imm):=zo
theorem Nd.c2(x:Nd):x.cells[2]?=some (gI x.kids):=zo
theorem Nd.whole(x:Nd):zlT 3 x.cells=some (.agg x.cells):=by unfold zlT;rw[Nd.cells_eq];rfl
theorem Nd.one(x:Nd):x.cells.all AV.one=true:=zo
structure Gr where
 name:List UInt8
 params:Int
 nodes:List Nd
 value:Int
 state:Int
def Gr.cells(x:Gr):List AV:=[.str x.name,.int .i64 x.params,.lst (x.nodes.map Nd.cells),.int .i64 x.value,.int .i64 x.state]
theorem Gr.cells_eq(x:Gr):x.cells=[.str x.name,.int .i64 x.params,.lst (x.nodes.map Nd.cells),.int .i64 x.value,.int .i64 x.state]:=rfl
theorem Gr.clen(x:Gr):x.cells.length=5:=vu
theorem Gr.c0(x:Gr):x.cells[0]?=some (.str x.name):=vu
theorem Gr.c1(x:Gr):x.cells[1]?=some (.int .i64 x.params):=vu
theorem Gr.c2(x:Gr):x.cells[2]?=some (.lst (x.nodes.map Nd.cells)):=vu
theorem Gr.c3(x:Gr):x.cells[3]?=some (.int .i64 x.value):=vu
theorem Gr.c4(x:Gr):x.cells[4]?=some (.int .i64 x.state):=vu
theorem Gr.whole(x:Gr):zlT 5 x.cells=some (.agg x.cells):=by unfold zlT;rw[Gr.cells_eq];rfl
theorem Gr.one(x:Gr):x.cells.all AV.one=true:=vu
structure Un where
 arrays:List Ar
 funcs:List Gr
def Un.cells(x:Un):List AV:=[.lst (x.arrays.map Ar.cells),.lst (x.funcs.map Gr.cells)]
theorem Un.cells_eq(x:Un):x.cells=[.lst (x.arrays.map Ar.cells),.lst (x.funcs.map Gr.cells)]:=rfl
theorem Un.clen(x:Un):x.cells.length=2:=Ca
theorem Un.c0(x:Un):x.cells[0]?=some (.lst (x.arrays.map Ar.cells)):=Ca
theorem Un.c1(x:Un):x.cells[1]?=some (.lst (x.funcs.map Gr.cells)):=Ca
theorem Un.whole(x:Un):zlT 2 x.cells=some (.agg x.cells):=by unfold zlT;rw[Un.cells_eq];rfl
theorem Un.one(x:Un):x.cells.all AV.one=true:=Ca
end Go.Ab
namespace Go.Proofs.YtpbcimfiofmoeaaGreat
set_option maxRecDepth 20000
open Go Go.Ab
theorem fit:Fit Tryz.prog:=Fit.of aj
def pls:List (Nat×Nat×Plan):=[(26,36,(.split 10 13 .text (.perm [0,1,2,3,4,5,6,7,8,9,11,12,13,10]))),
 (26,41,(.split 11 14 .text (.perm [0,1,2,3,4,5,6,7,8,9,10,12,13,14,11]))),
 (32,14,(.perm [0,1,2,4,5,7,9,3,6,8,10])),
 (90,23,(.perm [0,1,2,3,4,5,6,7,9,10,11,12,13,14,8,15,16,17,18,19])),
 (90,24,(.perm [0,1,2,3,4,5,6,8,9,10,11,12,13,7,14,15,16])),
 (111,4,(.perm [0,1,2,4,5,7,8,10,11,12,3,6,9,13,14,15,16])),
 (163,23,(.perm [0,2,3,4,5,6,7,1,8,9]))]
end Go.Proofs.YtpbcimfiofmoeaaGreat
