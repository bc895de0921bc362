/- Parts: AbFuel, AbEnv, AbWp, AbWd, AbWt, Tree, Pls. -/
import Derived.IntWalk
import Derived.KernelRfl
import Derived.Test.YtpbcimfiofmoeaaGreatPCD
import Derived.Test.YtpbcimfiofmoeaaGreatRows
set_option linter.unusedSimpArgs false
set_option linter.unusedVariables false
set_option linter.unusedSectionVars false
set_option linter.defProp false
set_option maxHeartbeats 32000000
namespace Go.Ab
set_option maxRecDepth 20000
open Go
theorem r8{P:Prop}(h:P:=by rw[j];simp):P:=h
theorem w9{P:Prop}(h:P:=by rw[hr];simp):P:=h
theorem Dk{P:Prop}(h:P:=by simp only[zhq,h,h1]):P:=h
theorem pP{P:Prop}(h:P:=by simp[zgV,rO,zhA]):P:=h
theorem zH{P:Prop}(h:P:=by unfold zf9;rw[h]):P:=h
theorem HD{P:Prop}(h:P:=by simp only[zfp,jx,beq_self_eq_true,cond_true]):P:=h
theorem sa{P:Prop}(h:P:=by rw[Ex.cells_eq];rfl):P:=h
theorem jU{P:Prop}(h:P:=by rw[St.cells_eq];rfl):P:=h
theorem o7{P:Prop}(h:P:=by rw[Fu.cells_eq];rfl):P:=h
theorem zI{P:Prop}(h:P:=by rw[Ar.cells_eq];rfl):P:=h
theorem zJ{P:Prop}(h:P:=by rw[Pr.cells_eq];rfl):P:=h
theorem xc{P:Prop}(h:P:=by rw[Tk.cells_eq];rfl):P:=h
theorem xd{P:Prop}(h:P:=by rw[Nd.cells_eq];rfl):P:=h
theorem tE{P:Prop}(h:P:=by rw[Gr.cells_eq];rfl):P:=h
theorem zK{P:Prop}(h:P:=by rw[Un.cells_eq];rfl):P:=h
theorem aj{P:Prop}(h:P:=by kernel_rfl):P:=h
def zL:=@Nat.le_max_left
def zM:=@Nat.le_max_right
def pQ:=@cond_false
def jw:=@Int.eq_ofNat_of_zero_le
def jV:=@Bool.and_true
def pR:=@and_self
end Go.Ab
namespace Go.Ab
set_option maxRecDepth 20000
open Go
def zgy(ih ih':Task->Res):Prop:=∀t,ih t≠.fail->ih' t=ih t
section
variable {P:Program} {cfg:Cfg} {ih ih':Task -> Res}
theorem zN(h:zgy ih ih'){f:FuncId}{E:aw}{H:Hp}{op:Op}(z:zgI P cfg ih f E H op≠.fail):zgI P cfg ih' f E H op=zgI P cfg ih f E H op:=by
 unfold zgI at *;split
 .rename_i c;unfold rS at *;split
  .rename_i g J;simp only[J]at z;split
   .rename_i k K vs i Z;simp only[i,Z]at z;exact h _ z
   .rfl
  .rfl
  .rfl
 .rfl
theorem xe{f N:Nat}{Z:List Oper}{o:Oper}{l:List Oper}{E:aw}{H:Hp}:jP P cfg ih f N Z (o::l) E H=match zhw Z E o with
 |true=>match zgI P cfg ih f E H o.op with
  | .val v H=>zhD (jP P cfg ih f N Z l) H (fk N E o.dst v)
  |_=>.fail
 |false=>zhD (jP P cfg ih f N Z l) H (fk N E o.dst zgA):=rfl
theorem zO(h:zgy ih ih'){f N:Nat}{Z:List Oper}:∀{l:List Oper}{E:aw}{H:Hp},jP P cfg ih f N Z l E H≠.fail->jP P cfg ih' f N Z l E H=jP P cfg ih f N Z l E H
 |[],_,_,_=>rfl
 |o::l,E,H,hn=>by
  rw[xe]at hn⊢;rw[xe];cases M:zhw Z E o with
  |true=>
   simp only[M]at hn⊢;cases j:zgI P cfg ih f E H o.op with
   |fail=>simp[j]at hn
   |done x E1 H1=>simp[j]at hn
   |val v H1=>
    rw[zN h r8,j];simp only[j]at hn⊢;cases hp:fk N E o.dst v with
    |none=>rfl
    |some E1=>
     rw[hp]at hn;exact zO h hn
  |false=>
   simp only[M]at hn⊢;cases hp:fk N E o.dst zgA with
   |none=>rfl
   |some E1=>
    rw[hp]at hn;exact zO h hn
theorem zP(h:zgy ih ih'){f N:Nat}{Z:List Oper}:∀{l:List Oper}{E:aw}{H:Hp},jq P cfg ih f N Z l E H≠.fail->jq P cfg ih' f N Z l E H=jq P cfg ih f N Z l E H
 |[],_,_,_=>rfl
 |o::l,E,H,hn=>by
  have g:∀{r:Rec}{x:ResD},n1 r x≠.fail->x≠.fail:=fun{r x} C e=>C (by rw[e];rfl);simp only[jq]at hn⊢;cases M:zhw Z E o with
  |true=>
   simp only[M]at hn⊢;cases j:zgI P cfg ih f E H o.op with
   |fail=>simp[j]at hn
   |done x E1 H1=>simp[j]at hn
   |val v H1=>
    rw[zN h r8,j];simp only[j]at hn⊢;cases hp:fk N E o.dst v with
    |none=>rfl
    |some E1=>
     rw[hp]at hn;have:=zP h (g hn);simp only[zhW,this]
  |false=>
   simp only[M]at hn⊢;cases hp:fk N E o.dst zgA with
   |none=>rfl
   |some E1=>
    rw[hp]at hn;have:=zP h (g hn);simp only[zhW,this]
theorem HE(h:zgy ih ih'){f N:Nat}{ops:List Oper}{E:aw}{H:Hp}(z:mJ P cfg ih f N ops E H≠.fail):mJ P cfg ih' f N ops E H=mJ P cfg ih f N ops E H:=by
 unfold mJ at *;split
 .rename_i hc;simp only[hc]at z;cases hr:jq P cfg ih f N ops ops E H with
  |fail=>simp[hr]at z
  |done E1 H1 rs=>rw[zP h w9,hr]
 .rfl
theorem QC{ops:List Oper}{C j i Z:Res}(h1:C≠.fail->i=C)(h2:j≠.fail->Z=j)(z:tj ops C j≠.fail):tj ops i Z=tj ops C j:=by
 have m:C≠.fail:=fun e=>z (by rw[e];rfl);have Y:j≠.fail:=fun e=>z (by rw[e];unfold tj;split<;>simp_all);rw[h1 m,h2 Y]
theorem Dm(h:zgy ih ih'){f N:Nat}{E:aw}{H:Hp}:∀{U:Plan}{ops:List Oper},zhB P cfg ih f N E H U ops≠.fail->zhB P cfg ih' f N E H U ops=zhB P cfg ih f N E H U ops
 | .text,ops,hn=>HE h hn
 | .perm ord,ops,hn=>by
   simp only[zhB]at *;split
   .rename_i hp;simp only[hp]at hn;exact HE h hn
   .rfl
 | .split p q a b,ops,hn=>by
   simp only[zhB]at *;split
   .rfl
   .rename_i hp;simp only[hp]at hn;exact QC (fun i=>Dm h i) (fun g=>Dm h g) hn
theorem Dn(h:zgy ih ih'){f:FuncId}{j:List AV}{H:Hp}(z:og P ih f j H≠.fail):og P ih' f j H=og P ih f j H:=by
 unfold og at *;split
 .rename_i Z i;simp only[i]at z;split
  .rename_i c o;simp only[o]at z;cases hr:ih (.code f (max Z.ntmps j.length) c (zft 0 j (tk (max Z.ntmps j.length))) H)with
   |fail=>simp[hr]at z
   |val v H1=>rw[h _ w9,hr]
   |done x E1 H1=>rw[h _ w9,hr]
  .rfl
 .rfl
theorem QD(h:zgy ih ih'){f:FuncId}{j:List AV}{H:Hp}(z:ol P cfg ih f j H≠.fail):ol P cfg ih' f j H=ol P cfg ih f j H:=by
 unfold ol at *;split
 .rename_i I;simp only[I]at z;unfold wz at *;split
  .rename_i Z H' K;simp only[K]at z;split
   .rfl
   .rename_i i;simp only[i]at z;exact Dn h z
  .rename_i K;simp only[K]at z;exact Dn h z
 .rename_i I;simp only[I]at z;exact Dn h z
theorem HF(h:zgy ih ih'){f N:Nat}{b:Code}{r O:Res}(hr:r≠.fail->O=r)(z:oh ih f N b r≠.fail):oh ih' f N b O=oh ih f N b r:=by
 cases r with
 |fail=>simp[oh]at z
 |val v H1=>rw[hr au];rfl
 |done x E1 H1=>
  rw[hr au];cases x with
  |normal=>exact h _ z
  |exit id=>rfl
  |ret=>rfl
theorem QE(h:zgy ih ih'){t:Task}(z:step P cfg ih t≠.fail):step P cfg ih' t=step P cfg ih t:=by
 cases t with
 |call f j H=>
  simp only[step]at *;split
  .rfl
  .rename_i hc;simp only[hc]at z;have g:ol P cfg ih f j H≠.fail:=fun e=>z (by rw[e];unfold uI;split<;>simp_all);rw[QD h g]
 |code f N c E H=>
  cases c with
  |region id ops draw=>cases draw with
   |false=>exact zO h z
   |true=>exact Dm h z
  |seq a b=>exact HF h (h _) z
  |loop a=>exact HF h (h _) z
  |cond x a b=>
   simp only[step]at *;unfold tl at *;split
   .rename_i hc;simp only[hc]at z;exact h _ z
   .rename_i hc;simp only[hc]at z;exact h _ z
   .rfl
  |block id a=>
   simp only[step]at *;cases hr:ih (.code f N a E H)with
   |fail=>simp[hr,zhU]at z
   |val v H1=>rw[h _ w9,hr]
   |done x E1 H1=>rw[h _ w9,hr]
  |_=>rfl
theorem HG:∀n,zgy (ev P cfg n) (ev P cfg (n+1))
 |0=>fun _ z=>(z rfl).elim
 |n+1=>fun _ z=>QE (HG n) z
theorem Do{n m:Nat}(V:n<=m){t:Task}(z:ev P cfg n t≠.fail):ev P cfg m t=ev P cfg n t:=by
 induction m with
 |zero=>rw[show n=0 by omega]
 |succ m ih=>
  by_cases h:n=m+1
  .rw[h]
  .have:=ih ac;rw[HG m t (by rw[this];exact z),this]
theorem zQ{n m:Nat}(V:n<=m){t:Task}{r:Res}(h:ev P cfg n t=r)(hr:r≠.fail):ev P cfg m t=r:=by
 rw[Do V (by rw[h];exact hr),h]
def zgm(P:Program)(cfg:Cfg)(t:Task)(r:Res):Prop:=r≠.fail/\∃n,ev P cfg n t=r
theorem zgm.step{t:Task}{r:Res}(hr:r≠.fail){n:Nat}(h:Ab.step P cfg (ev P cfg n) t=r):zgm P cfg t r:=⟨hr,n+1,h⟩
def kB:=@zgm.step
section
variable {f N id:Nat} {a b:Code} {x:Operand} {E E1:aw} {H H1:Hp} {r:Res} {ex:AX}
theorem zgm.seq(h1:zgm P cfg (.code f N a E H) (.done .normal E1 H1))(h2:zgm P cfg (.code f N b E1 H1) r):zgm P cfg (.code f N (.seq a b) E H) r:=by
 obtain⟨_,n,h1⟩:=h1;obtain⟨hr,m,h2⟩:=h2;refine kB hr (n:=max n m) ?_;show oh (ev P cfg (max n m)) f N b (ev P cfg (max n m) (.code f N a E H))=r;rw[zQ (zL n m) h1 au];exact zQ (zM n m) h2 hr
theorem HH(h1:zgm P cfg (.code f N a E H) (.done ex E1 H1))(C:ex≠.normal):zgm P cfg (.code f N (.seq a b) E H) (.done ex E1 H1):=by
 obtain⟨hr,n,h1⟩:=h1;refine kB hr (n:=n) ?_;show oh (ev P cfg n) f N b (ev P cfg n (.code f N a E H))=_;rw[h1];cases ex with
 |normal=>exact(C rfl).elim
 |exit id=>rfl
 |ret=>rfl
theorem zgm.loop(h1:zgm P cfg (.code f N a E H) (.done .normal E1 H1))(h2:zgm P cfg (.code f N (.loop a) E1 H1) r):zgm P cfg (.code f N (.loop a) E H) r:=by
 obtain⟨_,n,h1⟩:=h1;obtain⟨hr,m,h2⟩:=h2;refine kB hr (n:=max n m) ?_;show oh (ev P cfg (max n m)) f N (.loop a) (ev P cfg (max n m) (.code f N a E H))=r;rw[zQ (zL n m) h1 au];exact zQ (zM n m) h2 hr
theorem HI(h1:zgm P cfg (.code f N a E H) (.done ex E1 H1))(C:ex≠.normal):zgm P cfg (.code f N (.loop a) E H) (.done ex E1 H1):=by
 obtain⟨hr,n,h1⟩:=h1;refine kB hr (n:=n) ?_;show oh (ev P cfg n) f N (.loop a) (ev P cfg n (.code f N a E H))=_;rw[h1];cases ex with
 |normal=>exact(C rfl).elim
 |exit id=>rfl
 |ret=>rfl
theorem QF(C:zfl E x=some (.bool true))(h:zgm P cfg (.code f N a E H) r):zgm P cfg (.code f N (.cond x a b) E H) r:=by
 obtain⟨hr,n,h⟩:=h;refine kB hr (n:=n) ?_;show tl (ev P cfg n) f N x a b E H=r;unfold tl;rw[C];exact h
theorem QG(C:zfl E x=some (.bool false))(h:zgm P cfg (.code f N b E H) r):zgm P cfg (.code f N (.cond x a b) E H) r:=by
 obtain⟨hr,n,h⟩:=h;refine kB hr (n:=n) ?_;show tl (ev P cfg n) f N x a b E H=r;unfold tl;rw[C];exact h
theorem zgm.block(h:zgm P cfg (.code f N a E H) (.done (.exit id) E1 H1)):zgm P cfg (.code f N (.block id a) E H) (.done .normal E1 H1):=by
 obtain⟨hr,n,h⟩:=h;refine kB au (n:=n) ?_;show zhU id (ev P cfg n (.code f N a E H))=_;rw[h];simp[zhU]
theorem QH(h:zgm P cfg (.code f N a E H) (.done .normal E1 H1)):zgm P cfg (.code f N (.block id a) E H) (.done .normal E1 H1):=by
 obtain⟨hr,n,h⟩:=h;refine kB au (n:=n) ?_;show zhU id (ev P cfg n (.code f N a E H))=_;rw[h];rfl
theorem QI(h:zgm P cfg (.code f N a E H) (.done .ret E1 H1)):zgm P cfg (.code f N (.block id a) E H) (.done .ret E1 H1):=by
 obtain⟨hr,n,h⟩:=h;refine kB au (n:=n) ?_;show zhU id (ev P cfg n (.code f N a E H))=_;rw[h];rfl
theorem QJ{i:Nat}(U:Nat.beq i id=false)(h:zgm P cfg (.code f N a E H) (.done (.exit i) E1 H1)):zgm P cfg (.code f N (.block id a) E H) (.done (.exit i) E1 H1):=by
 obtain⟨hr,n,h⟩:=h;refine kB au (n:=n) ?_;show zhU id (ev P cfg n (.code f N a E H))=_;rw[h];simp only[zhU,U]
theorem zgm.skip:zgm P cfg (.code f N .skip E H) (.done .normal E H):=kB au (n:=0) rfl
theorem zgm.exit:zgm P cfg (.code f N (.exit id) E H) (.done (.exit id) E H):=kB au (n:=0) rfl
theorem zgm.ret:zgm P cfg (.code f N .ret E H) (.done .ret E H):=kB au (n:=0) rfl
theorem zgm.region{ops:Array Oper}{n:Nat}(h:jP P cfg (ev P cfg n) f N ops.toList ops.toList E H=r)(hr:r≠.fail):zgm P cfg (.code f N (.region id ops false) E H) r:=kB hr (n:=n) h
theorem zgm.draw{ops:Array Oper}{n:Nat}(h:zhB P cfg (ev P cfg n) f N E H (cfg.plan f id) ops.toList=r)(hr:r≠.fail):zgm P cfg (.code f N (.region id ops true) E H) r:=kB hr (n:=n) h
theorem zgm.call{j:List AV}{Z:Func}{c:Code}{v:AV}(Y:cfg.call f j=none)(I:cfg.ice f=false)(V:cfg.froz f=false)(i:P.funcs[f]?=some Z)(o:Z.body=some c)
 (h:zgm P cfg (.code f (max Z.ntmps j.length) c (zft 0 j (tk (max Z.ntmps j.length))) H) (.done ex E1 H1)) (C:ex=.normal\/ex=.ret) (z:uH P Z.results.toList E1 H1=.val v H1):zgm P cfg (.call f j H) (.val v H1):=by
 obtain⟨_,n,h⟩:=h;refine kB au (n:=n) ?_;simp only[Ab.step,Y,I,V,ol,uI];unfold og;simp only[i,o,h];rcases C with rfl|rfl<;>exact z
end
end
noncomputable section
open Go
def ov(L:List (Nat×AV))(d:Nat->AV):Nat->AV:=
 List.rec (motive:=fun _=>Nat->AV) d (fun p _ Z k=>ke (Nat.beq p.1 k) p.2 (Z k)) L
end
structure SOp where
 d:Option Nat
 op:Op
 g:Option (Nat×Bool)
inductive SC where
 |skip|ret|bad
 |ops (l:List SOp)
 |draw (id:Nat) (l:List Oper)
 |seq (a b:SC)
 |cond (x:Operand) (a b:SC)
 |block (id:Nat) (a:SC)
 |loop (a:SC)
 |exit (id:Nat)
def zfR(N:Nat):Option Tmp->Option (Option Nat)
 |none=>some none
 |some d=>match Nat.blt d N with
  |true=>some (some d)
  |false=>none
def zfS(Z:List Oper):Option (Nat×Bool)->Option (Option (Nat×Bool))
 |none=>some none
 |some (j,b)=>match (Z[j]?).bind (·.dst)with
  |some d=>some (some (d,b))
  |none=>none
def zfL(N:Nat)(Z:List Oper):List Oper->Option (List SOp)
 |[]=>some []
 |o::l=>match zfR N o.dst,zfS Z o.guard,zfL N Z l with
  |some d,some g,some r=>some (⟨d,o.op,g⟩::r)
  |_,_,_=>none
def zfO(l:Option (List SOp)):SC:=match l with
 |some l=>.ops l
 |none=>.bad
def aH(N:Nat):Code->SC
 | .skip=>.skip
 | .region id ops draw=>match draw with
   |false=>zfO (zfL N ops.toList ops.toList)
   |true=>.draw id ops.toList
 | .seq a b=>.seq (aH N a) (aH N b)
 | .cond x a b=>.cond x (aH N a) (aH N b)
 | .block id a=>.block id (aH N a)
 | .loop a=>.loop (aH N a)
 | .exit id=>.exit id
 | .ret=>.ret
 |_=>.bad
section
variable (P:Program) (cfg:Cfg) (f N:Nat)
def zfs(g:FuncId)(j:List AV)(H:Hp)(Q:AV->Hp->Prop):Prop:=∃v H',zgm P cfg (.call g j H) (.val v H')/\Q v H'
def iN(op:Op)(E:aw)(H:Hp)(K:AV->Hp->Prop):Prop:=∃n v H',zgI P cfg (ev P cfg n) f E H op=.val v H'/\K v H'
noncomputable def zfp(E:aw):Option Nat->AV->aw
 |some d,v=>T.set E d (some v)
 |none,_=>E
def aC:List SOp->aw->Hp->(aw->Hp->Prop)->Prop
 |[],E,H,Q=>Q E H
 |o::l,E,H,Q=>match o.g with
  |none=>iN P cfg f o.op E H fun v H'=>aC l (zfp E o.d v) H' Q
  |some (s,b)=>(E.at s=.bool b/\iN P cfg f o.op E H fun v H'=>aC l (zfp E o.d v) H' Q)\/((E.at s=.bool (!b)\/E.at s=zgA)/\aC l (zfp E o.d zgA) H Q)
def zfV(c:SC)(E:aw)(H:Hp)(Q:AX->aw->Hp->Prop):Prop:=∀code,aH N code=c->∃x E' H',zgm P cfg (.code f N code E H) (.done x E' H')/\Q x E' H'
end
section
variable {P:Program} {cfg:Cfg} {f N:Nat}
theorem iN.mono{op:Op}{E:aw}{H:Hp}{K C:AV->Hp->Prop}(h:∀v H',K v H'->C v H')(j:iN P cfg f op E H K):iN P cfg f op E H C:=by
 obtain⟨n,v,H',i,g⟩:=j;exact⟨n,v,H',i,h v H' g⟩
theorem zfV.mono{c:SC}{E:aw}{H:Hp}{Q V:AX->aw->Hp->Prop}(h:∀x E H,Q x E H->V x E H)(M:zfV P cfg f N c E H Q):zfV P cfg f N c E H V:=fun code hc=>by
 obtain⟨x,E',H',i,g⟩:=M code hc;exact⟨x,E',H',i,h _ _ _ g⟩
theorem zfV.skip{E:aw}{H:Hp}{Q:AX->aw->Hp->Prop}(h:Q .normal E H):zfV P cfg f N .skip E H Q:=fun code hc=>by
 cases code with
 |skip=>exact⟨_,_,_,zgm.skip,h⟩
 |region id ops draw=>cases draw<;>simp only[aH,zfO,reduceCtorEq]at hc;split at hc<;>simp at hc
 |_=>simp[aH]at hc
theorem zfV.ret{E:aw}{H:Hp}{Q:AX->aw->Hp->Prop}(h:Q .ret E H):zfV P cfg f N .ret E H Q:=fun code hc=>by
 cases code with
 |ret=>exact⟨_,_,_,zgm.ret,h⟩
 |region id ops draw=>cases draw<;>simp only[aH,zfO,reduceCtorEq]at hc;split at hc<;>simp at hc
 |_=>simp[aH]at hc
theorem zfV.exit{id:Nat}{E:aw}{H:Hp}{Q:AX->aw->Hp->Prop}(h:Q (.exit id) E H):zfV P cfg f N (.exit id) E H Q:=fun code hc=>by
 cases code with
 |exit i=>simp only[aH,SC.exit.injEq]at hc;subst hc;exact⟨_,_,_,zgm.exit,h⟩
 |region id ops draw=>cases draw<;>simp only[aH,zfO,reduceCtorEq]at hc;split at hc<;>simp at hc
 |_=>simp[aH]at hc
def nE(Q:AX->aw->Hp->Prop)(K:aw->Hp->Prop):AX->aw->Hp->Prop
 | .normal,E,H=>K E H
 | .exit id,E,H=>Q (.exit id) E H
 | .ret,E,H=>Q .ret E H
theorem zfV.seq{a b:SC}{E:aw}{H:Hp}{Q:AX->aw->Hp->Prop}(h:zfV P cfg f N a E H (nE Q fun E H=>zfV P cfg f N b E H Q)):zfV P cfg f N (.seq a b) E H Q:=fun code hc=>by
 cases code with
 |seq p q=>
  simp only[aH,SC.seq.injEq]at hc;obtain⟨x,E1,H1,i,g⟩:=h p hc.1;cases x with
  |normal=>
   obtain⟨x,L,J,m,O⟩:=g q hc.2;exact⟨x,L,J,zgm.seq i m,O⟩
  |exit id=>exact⟨_,_,_,HH i au,g⟩
  |ret=>exact⟨_,_,_,HH i au,g⟩
 |region id ops draw=>cases draw<;>simp only[aH,zfO,reduceCtorEq]at hc;split at hc<;>simp at hc
 |_=>simp[aH]at hc
def ak:=@zfV.seq
theorem zfV.cond{x:Operand}{a b:SC}{E:aw}{H:Hp}{Q:AX->aw->Hp->Prop}{t:Bool}(C:zfl E x=some (.bool t))(h1:t=true->zfV P cfg f N a E H Q)(h2:t=false->zfV P cfg f N b E H Q):
 zfV P cfg f N (.cond x a b) E H Q:=fun code hc=>by
 cases code with
 |cond y p q=>
  simp only[aH,SC.cond.injEq]at hc;obtain⟨rfl,Z,O⟩:=hc;cases t with
  |true=>
   obtain⟨x,E1,H1,m,Y⟩:=h1 rfl p Z;exact⟨x,E1,H1,QF C m,Y⟩
  |false=>
   obtain⟨x,E1,H1,m,Y⟩:=h2 rfl q O;exact⟨x,E1,H1,QG C m,Y⟩
 |region id ops draw=>cases draw<;>simp only[aH,zfO,reduceCtorEq]at hc;split at hc<;>simp at hc
 |_=>simp[aH]at hc
def sc(id:Nat)(Q:AX->aw->Hp->Prop):AX->aw->Hp->Prop
 | .normal,E,H=>Q .normal E H
 | .exit i,E,H=>if i=id then Q .normal E H else Q (.exit i) E H
 | .ret,E,H=>Q .ret E H
theorem zfV.block{id:Nat}{a:SC}{E:aw}{H:Hp}{Q:AX->aw->Hp->Prop}(h:zfV P cfg f N a E H (sc id Q)):zfV P cfg f N (.block id a) E H Q:=fun code hc=>by
 cases code with
 |block i p=>
  simp only[aH,SC.block.injEq]at hc;obtain⟨rfl,Z⟩:=hc;obtain⟨x,E1,H1,m,Y⟩:=h p Z;cases x with
  |normal=>exact⟨_,_,_,QH m,Y⟩
  |ret=>exact⟨_,_,_,QI m,Y⟩
  |exit k=>
   simp only[sc]at Y;split at Y
   .rename_i e;subst e;exact⟨_,_,_,zgm.block m,Y⟩
   .rename_i e;exact⟨_,_,_,QJ (by cases o:Nat.beq k i with|true=>exact(e (jf o)).elim|false=>rfl) m,Y⟩
 |region id ops draw=>cases draw<;>simp only[aH,zfO,reduceCtorEq]at hc;split at hc<;>simp at hc
 |_=>simp[aH]at hc
def ay:=@zfV.block
theorem zfV.loop{a:SC}{Q:AX->aw->Hp->Prop}(I:Nat->aw->Hp->Prop)(h:∀n E H,I n E H->zfV P cfg f N a E H (nE Q fun E H=>∃m,m<n/\I m E H)){n:Nat}{E:aw}{H:Hp}(M:I n E H):zfV P cfg f N (.loop a) E H Q:=by
 induction n using Nat.strongRecOn generalizing E H with
 |_ n ih=>
  intro code hc;cases code with
  |loop p=>
   simp only[aH,SC.loop.injEq]at hc;obtain⟨x,E1,H1,Z,Y⟩:=h n E H M p hc;cases x with
   |normal=>
    obtain⟨m,V,U⟩:=Y;obtain⟨x,L,J,j,o⟩:=ih m V U (.loop p) (by simp[aH,hc]);exact⟨x,L,J,zgm.loop Z j,o⟩
   |exit id=>exact⟨_,_,_,HI Z au,Y⟩
   |ret=>exact⟨_,_,_,HI Z au,Y⟩
  |region id ops draw=>cases draw<;>simp only[aH,zfO,reduceCtorEq]at hc;split at hc<;>simp at hc
  |_=>simp[aH]at hc
def xf:=@zfV.loop
theorem pd{a:SC}{Q:AX->aw->Hp->Prop}(I:Nat->aw->Hp->Prop)(m:Nat)(h:∀i E H,i<=m->I i E H->zfV P cfg f N a E H (nE Q fun E H=>i<m/\I (i+1) E H)){E:aw}{H:Hp}(M:I 0 E H):zfV P cfg f N (.loop a) E H Q:=
 xf (fun n E H=>n<=m/\I (m-n) E H) (fun n E H Z=>zfV.mono (fun x E' H' L=>by
  cases x with
  |normal=>
   obtain⟨Y,g⟩:=L;have:=Z.1;refine⟨n-1,ac,ac,?_⟩;rw[show m-(n-1)=m-n+1 by omega];exact g
  |exit id=>exact L
  |ret=>exact L) (h (m-n) E H (Nat.sub_le _ _) Z.2)) (n:=m) ⟨aE _,by rw[qS];exact M⟩
theorem zR{N:Nat}{K:Option Tmp}{d:Option Nat}(h:zfR N K=some d)(E:aw)(v:AV):fk N E K v=some (zfp E d v):=by
 cases K with
 |none=>simp only[zfR,az]at h;subst h;rfl
 |some t=>
  simp only[zfR]at h;split at h
  .rename_i o;simp only[az]at h;subst h;simp only[fk,o,zfp]
  .simp at h
theorem HJ{Z:List Oper}{E:aw}{o:Oper}{g:Option (Nat×Bool)}(h:zfS Z o.guard=some g):
 (g=none->zhw Z E o=true)/\∀s b,g=some (s,b)->(E.at s=.bool b->zhw Z E o=true)/\(E.at s=.bool (!b)\/E.at s=zgA->zhw Z E o=false):=by
 unfold zhw;cases J:o.guard with
 |none=>
  rw[J]at h;simp only[zfS,az]at h;subst h;exact⟨fun _=>rfl,fun s b e=>by simp at e⟩
 |some U=>
  obtain⟨j,b⟩:=U;rw[J]at h;simp only[zfS]at h;split at h
  .rename_i d hd;simp only[az]at h;subst h;refine⟨fun e=>by simp at e,fun s Y e=>?_⟩;simp only[cH]at e;obtain⟨rfl,rfl⟩:=e;simp only[y4,hd];refine⟨fun e=>by rw[e];simp,fun e=>by rcases e with e|e<;>rw[e]<;>simp[zgA]⟩
  .simp at h
theorem aC.run{Z:List Oper}{Q:aw->Hp->Prop}:∀{l:List Oper}{r:List SOp}{E:aw}{H:Hp},zfL N Z l=some r->aC P cfg f r E H Q ->
 ∃n E' H',jP P cfg (ev P cfg n) f N Z l E H=.done .normal E' H'/\Q E' H'
 |[],r,E,H,hs,L=>by
  simp only[zfL,az]at hs;subst hs;exact⟨0,E,H,rfl,L⟩
 |o::l,r,E,H,hs,L=>by
  simp only[zfL]at hs;split at hs
  .rename_i d g r' i h2 I;simp only[az]at hs;subst hs;obtain⟨zgc,z⟩:=HJ (E:=E) h2;have V:∀{K:Prop},iN P cfg f o.op E H (fun v H'=>aC P cfg f r' (zfp E d v) H' Q)->zhw Z E o=true->∃n E' H',jP P cfg (ev P cfg n) f N Z (o::l) E H=.done .normal E' H'/\Q E' H':=fun{K} hw Y=>by
    obtain⟨n,v,H1,g1,g2⟩:=hw;obtain⟨m,U,O,j,M⟩:=aC.run I g2;refine⟨max n m,U,O,?_,M⟩;have C:∀k k',k<=k'->zgy (ev P cfg k) (ev P cfg k'):=fun k k' hk t ht=>Do hk ht;rw[xe,Y];simp only[];rw[zN (C n (max n m) (zL _ _)) (by rw[g1];simp),g1];simp only[zR i,zhD];rw[zO (C m (max n m) (zM _ _)) r8,j]
   unfold aC at L;cases J:g with
   |none=>
    rw[J]at L;exact V (K:=True) L (zgc J)
   |some sb=>
    obtain⟨s,b⟩:=sb;rw[J]at L;simp only[]at L;rcases L with⟨e,L⟩|⟨e,L⟩
    .exact V (K:=True) L ((z s b J).1 e)
    .obtain⟨m,U,O,j,M⟩:=aC.run I L;refine⟨m,U,O,?_,M⟩;rw[xe,(z s b J).2 e];simp only[zR i,zhD];exact j
  .simp at hs
theorem zfV.ops{l:List SOp}{E:aw}{H:Hp}{Q:AX->aw->Hp->Prop}(h:aC P cfg f l E H (Q .normal)):zfV P cfg f N (.ops l) E H Q:=fun code hc=>by
 cases code with
 |region id ops draw=>
  cases draw with
  |true=>simp[aH]at hc
  |false=>
   simp only[aH,zfO]at hc;split at hc
   .rename_i r hr;simp only[SC.ops.injEq]at hc;subst hc;obtain⟨n,E',H',i,g⟩:=aC.run hr h;exact⟨_,_,_,zgm.region i au,g⟩
   .simp at hc
 |_=>simp[aH]at hc
theorem zff{l:List SOp}{E:aw}{H:Hp}{Q:AX->aw->Hp->Prop}(h:∀K:aw->Hp->Prop,(∀E' H',Q .normal E' H'->K E' H')->aC P cfg f l E H K):zfV P cfg f N (.ops l) E H Q:=
 zfV.ops (h _ fun _ _ h=>h)
theorem aC.nil{E:aw}{H:Hp}{Q:aw->Hp->Prop}(h:Q E H):aC P cfg f [] E H Q:=h
def xg:=@aC.nil
theorem iN.plain{op:Op}{E:aw}{H H':Hp}{v:AV}{K:AV->Hp->Prop}(h:de P cfg.dec E H op=some (v,H'))(z:∀c,op≠.call c)(j:K v H'):iN P cfg f op E H K:=
 ⟨0,v,H',(tC z).2 h,j⟩
def zS:Op->Bool
 | .call _=>false
 |_=>true
theorem HK{op:Op}(h:zS op=true):∀c,op≠.call c:=fun c e=>by subst e;simp[zS]at h
theorem aC.op{d:Nat}{op:Op}{l:List SOp}{E:aw}{H H':Hp}{v:AV}{Q:aw->Hp->Prop}(z:zS op=true)(h:de P cfg.dec E H op=some (v,H'))(j:aC P cfg f l (T.set E d (some v)) H' Q):aC P cfg f (⟨some d,op,none⟩::l) E H Q:=
 iN.plain h (HK z) j
def iY:=@aC.op
theorem HL{op:Op}{l:List SOp}{E:aw}{H H':Hp}{v:AV}{Q:aw->Hp->Prop}(z:zS op=true)(h:de P cfg.dec E H op=some (v,H'))(j:aC P cfg f l E H' Q):aC P cfg f (⟨none,op,none⟩::l) E H Q:=
 iN.plain h (HK z) j
theorem aC.guard{d:Option Nat}{op:Op}{s:Nat}{b t:Bool}{l:List SOp}{E:aw}{H:Hp}{Q:aw->Hp->Prop}(h:E.at s=.bool t)(h1:t=b->aC P cfg f (⟨d,op,none⟩::l) E H Q)(h2:t=!b->aC P cfg f l (zfp E d zgA) H Q):
 aC P cfg f (⟨d,op,some (s,b)⟩::l) E H Q:=by
 unfold aC;by_cases e:t=b
 .exact .inl ⟨by rw[h,e],h1 e⟩
 .have:t=!b:=by cases t<;>cases b<;>simp_all
  exact .inr ⟨.inl (by rw[h,this]),h2 this⟩
theorem HM{d:Option Nat}{op:Op}{s:Nat}{b:Bool}{l:List SOp}{E:aw}{H:Hp}{Q:aw->Hp->Prop}{v:AV}(h:some (E.at s)=some v)(U:v=zgA)(h2:aC P cfg f l (zfp E d zgA) H Q):
 aC P cfg f (⟨d,op,some (s,b)⟩::l) E H Q:=by
 subst U;unfold aC;exact .inr ⟨.inr jv,h2⟩
theorem aC.call{d:Option Nat}{c:Call}{g:Operand}{k:FuncId}{cap vs:List AV}{l:List SOp}{E:aw}{H:Hp}{Q:aw->Hp->Prop}(Z:c.callee=.value g)(J:zfl E g=some (.clo k cap))(U:zhq E c.args.toList=some vs)
 (h:zfs P cfg k (vs++cap) H fun v H'=>aC P cfg f l (zfp E d v) H' Q):aC P cfg f (⟨d,.call c,none⟩::l) E H Q:=by
 obtain⟨v,H',⟨_,n,i⟩,Y⟩:=h;refine⟨n,v,H',?_,Y⟩;simp only[zgI,rS,Z,J,U];exact i
def aU:=@aC.call
theorem aC.builtin{d:Option Nat}{c:Call}{b:Builtin}{vs:List AV}{v:AV}{l:List SOp}{E:aw}{H H':Hp}{Q:aw->Hp->Prop}(Z:c.callee=.builtin b)(U:zhq E c.args.toList=some vs)
 (h:pI P (cfg.keep f) H b c.argTypes.toList vs=some (v,H')) (j:aC P cfg f l (zfp E d v) H' Q):aC P cfg f (⟨d,.call c,none⟩::l) E H Q:=by
 refine⟨0,v,H',?_,j⟩;simp only[zgI,rS,Z,U,h]
def zT:=@aC.builtin
theorem QK{g:FuncId}{j:List AV}{r:AV}{H:Hp}{Q:AV->Hp->Prop}(h:cfg.call g j=some r)(L:Q r H):zfs P cfg g j H Q:=
 ⟨r,H,kB au (n:=0) (by simp only[step,h]),L⟩
theorem HN{g:FuncId}{j Z:List AV}{r:AV}{H H':Hp}{Q:AV->Hp->Prop}(M:cfg.call g j=none)(I:cfg.ice g=true)(Y:cfg.froz g=false)(o:kn (iz 100) j H=some (Z,H'))(h:cfg.call g Z=some r)(L:Q r H'):zfs P cfg g j H Q:=
 ⟨r,H',kB au (n:=0) (by simp only[step,M,ol,I,Y,uI,wz,o,h]),L⟩
theorem zfs.mono{g:FuncId}{j:List AV}{H:Hp}{Q V:AV->Hp->Prop}(h:∀v H',Q v H'->V v H')(M:zfs P cfg g j H Q):zfs P cfg g j H V:=by
 obtain⟨v,H',i,Z⟩:=M;exact⟨v,H',i,h _ _ Z⟩
def aS:=@zfs.mono
theorem zfs.body{g:FuncId}{j:List AV}{H:Hp}{Z:Func}{c:Code}{Q:AV->Hp->Prop}(Y:cfg.call g j=none)(I:cfg.ice g=false)(V:cfg.froz g=false)(i:P.funcs[g]?=some Z)(o:Z.body=some c)
 (h:zfV P cfg g (max Z.ntmps j.length) (aH (max Z.ntmps j.length) c) (zft 0 j (tk (max Z.ntmps j.length))) H (fun x E' H'=>(x=.normal\/x=.ret)/\∃vs,zgD P E' H' Z.results.toList=some vs/\Q (zfi vs) H')):zfs P cfg g j H Q:=by
 obtain⟨x,E',H',U,C,vs,O,m⟩:=h c rfl;exact⟨zfi vs,H',zgm.call Y I V i o U C (by unfold uH;rw[O]),m⟩
theorem zfz{g:FuncId}{j:List AV}{H:Hp}{Z:Func}{c:Code}{s:SC}{M:Nat}{rs:List ResultVar}{Q:AV->Hp->Prop}(Y:cfg.call g j=none)(I:cfg.ice g=false)(V:cfg.froz g=false)(i:P.funcs[g]?=some Z)(o:Z.body=some c)(m:max Z.ntmps j.length=M)
 (K:aH M c=s) (hr:Z.results.toList=rs) (h:zfV P cfg g M s (zft 0 j (tk M)) H (fun x E' H'=>(x=.normal\/x=.ret)/\∃vs,zgD P E' H' rs=some vs/\Q (zfi vs) H')):zfs P cfg g j H Q:=by
 subst m K hr;exact zfs.body Y I V i o h
theorem HO(fit:Fit P){ρ:Nat->Int}(Z:ny cfg.dec ρ)(Y:∀f j r,cfg.call f j=some r->ce P ρ f j r){g:FuncId}{j:List AV}{r:AV}{k m:Nat}
 (J:qM k j=true) (h:zfs P cfg g j zfM fun v H'=>iceV H' m v=some r):ce P ρ g j r:=by
 obtain⟨v,H',⟨_,n,i⟩,V⟩:=h;exact Dh fit Z Y (n:=n) (m:=m) J (by unfold wA;rw[i];exact V)
section
variable {l:List SOp} {E:aw} {H H':Hp} {Q:aw -> Hp -> Prop} {d:Nat} {v a b:AV} {x y:Operand} {t u:TypeId}
theorem aC.move(h:zfl E x=some v)(j:aC P cfg f l (T.set E d (some v)) H Q):aC P cfg f (⟨some d,.move x,none⟩::l) E H Q:=iY rfl (by simp only[de,Go.Ab.ret,h]) j
theorem aC.assign(h:zfl E x=some v)(j:aC P cfg f l (T.set E d (some v)) H Q):aC P cfg f (⟨some d,.assign x,none⟩::l) E H Q:=iY rfl (by simp only[de,Go.Ab.ret,h]) j
theorem aC.pick{z:Operand}{t:Bool}(h:zfl E x=some (.bool t))(h1:zfl E y=some a)(h2:zfl E z=some b)(j:aC P cfg f l (T.set E d (some (ke t a b))) H Q):aC P cfg f (⟨some d,.pick x y z,none⟩::l) E H Q:=
 iY rfl (by cases t<;>simp only[de,yO,Go.Ab.ret,h,h1,h2]<;>rfl) j
theorem aC.load(h:zfl E x=some a)(h1:iU P H t a=some v)(j:aC P cfg f l (T.set E d (some v)) H Q):aC P cfg f (⟨some d,.load t x,none⟩::l) E H Q:=iY rfl (by simp only[de,wm,Go.Ab.ret,h,h1]) j
theorem aC.store(h:zfl E x=some a)(h1:zfl E y=some b)(h2:nf P H t a b=some H')(j:aC P cfg f l E H' Q):aC P cfg f (⟨none,.store t x y,none⟩::l) E H Q:=HL rfl (by simp only[de,yQ,h,h1,h2];rfl) j
def Dp:=@aC.store
theorem aC.nilCheck{r o:Nat}(h:zfl E x=some (.ptr r o))(j:aC P cfg f l (T.set E d (some (.ptr r o))) H Q):aC P cfg f (⟨some d,.nilCheck x,none⟩::l) E H Q:=iY rfl (by simp only[de,yR,h]) j
theorem aC.bin{op:BinOp}(h:zfl E x=some a)(h1:zfl E y=some b)(h2:zgV P cfg.dec op t a b=some v)(j:aC P cfg f l (T.set E d (some v)) H Q):aC P cfg f (⟨some d,.binOp op t x y u,none⟩::l) E H Q:=
 iY rfl (by simp only[de,yS,Go.Ab.ret,h,h1,h2]) j
theorem aC.un{op:UnOp}(h:zfl E x=some a)(h2:rQ op a=some v)(j:aC P cfg f l (T.set E d (some v)) H Q):aC P cfg f (⟨some d,.unOp op t x,none⟩::l) E H Q:=iY rfl (by simp only[de,yT,Go.Ab.ret,h,h2]) j
theorem aC.convert(h:zfl E x=some a)(h2:zhJ P H t u a=some v)(j:aC P cfg f l (T.set E d (some v)) H Q):aC P cfg f (⟨some d,.convert t u x,none⟩::l) E H Q:=iY rfl (by simp only[de,wn,Go.Ab.ret,h,h2]) j
theorem aC.fieldAddr{i:Nat}(h:zfl E x=some a)(h2:zfu P t a i=some v)(j:aC P cfg f l (T.set E d (some v)) H Q):aC P cfg f (⟨some d,.fieldAddr t x i,none⟩::l) E H Q:=iY rfl (by simp only[de,yV,Go.Ab.ret,h,h2]) j
def HP:=@aC.fieldAddr
theorem aC.field{i:Nat}(h:zfl E x=some a)(h2:zf5 P t a i=some v)(j:aC P cfg f l (T.set E d (some v)) H Q):aC P cfg f (⟨some d,.field t x i,none⟩::l) E H Q:=iY rfl (by simp only[de,yW,Go.Ab.ret,h,h2]) j
theorem aC.indexAddr(h:zfl E x=some a)(h1:zfl E y=some b)(h2:zgi P t a b=some v)(j:aC P cfg f l (T.set E d (some v)) H Q):aC P cfg f (⟨some d,.indexAddr t x y,none⟩::l) E H Q:=iY rfl (by simp only[de,yX,Go.Ab.ret,h,h1,h2]) j
def HQ:=@aC.indexAddr
theorem aC.index(h:zfl E x=some a)(h1:zfl E y=some b)(h2:oS P t a b=some v)(j:aC P cfg f l (T.set E d (some v)) H Q):aC P cfg f (⟨some d,.index t x y,none⟩::l) E H Q:=iY rfl (by simp only[de,yY,Go.Ab.ret,h,h1,h2]) j
theorem aC.extract{i:Nat}(h:zfl E x=some a)(h2:Ab.extract a i=some v)(j:aC P cfg f l (T.set E d (some v)) H Q):aC P cfg f (⟨some d,.extract x i,none⟩::l) E H Q:=iY rfl (by simp only[de,y0,Go.Ab.ret,h,h2]) j
theorem aC.alloc{z:List AV}{n:Nat}(h:zge P t=some z)(Z:some H.next=some n)(j:aC P cfg f l (T.set E d (some (.ptr n 0))) (H.alloc (.cells z 0 true)) Q):aC P cfg f (⟨some d,.alloc t,none⟩::l) E H Q:=by
 simp only[az]at Z;subst Z;exact iY rfl (by simp only[de,wi,h]) j
theorem aC.box{cs:List AV}{n:Nat}(h:zfl E x=some a)(Z:some a.cells=some cs)(z:some H.next=some n)(j:aC P cfg f l (T.set E d (some (.ptr n 0))) (H.alloc (.cells cs 0 true)) Q):aC P cfg f (⟨some d,.box t x,none⟩::l) E H Q:=by
 simp only[az]at Z z;subst Z z;exact iY rfl (by simp only[de,wj,h]) j
theorem aC.build{I:Array (Nat×Operand)}{ps:List (Nat×AV)}(h:zhF E I.toList=some ps)(h2:zgB P t ps=some v)(j:aC P cfg f l (T.set E d (some v)) H Q):aC P cfg f (⟨some d,.build t I,none⟩::l) E H Q:=iY rfl (by simp only[de,yP,Go.Ab.ret,h,h2]) j
theorem aC.buildSlice{n:Nat}{I:Array (Nat×Operand)}{ps:List (Nat×AV)}(h:zhF E I.toList=some ps)(h2:zgW P H t n ps=some (v,H'))(j:aC P cfg f l (T.set E d (some v)) H' Q):aC P cfg f (⟨some d,.buildSlice t n I,none⟩::l) E H Q:=
 iY rfl (by simp only[de,wl,h,h2]) j
def HR:=@aC.buildSlice
theorem aC.makeMap{n:Nat}(z:some H.next=some n)(j:aC P cfg f l (T.set E d (some (.map n))) (H.alloc (.map [])) Q):aC P cfg f (⟨some d,.makeMap t none,none⟩::l) E H Q:=by
 simp only[az]at z;subst z;exact iY rfl (by simp only[de,wo]) j
theorem aC.lookup{ok:Bool}(h:zfl E x=some a)(h1:zfl E y=some b)(h2:zhv P H t a b ok=some v)(j:aC P cfg f l (T.set E d (some v)) H Q):aC P cfg f (⟨some d,.lookup t x y ok,none⟩::l) E H Q:=iY rfl (by simp only[de,wt,Go.Ab.ret,h,h1,h2]) j
theorem aC.mapUpdate{z:Operand}{c:AV}(h:zfl E x=some a)(h1:zfl E y=some b)(h2:zfl E z=some c)(m:jj P H t a b c=some H')(j:aC P cfg f l E H' Q):aC P cfg f (⟨none,.mapUpdate t x y z,none⟩::l) E H Q:=
 HL rfl (by simp only[de,yZ,h,h1,h2,m];rfl) j
def HS:=@aC.mapUpdate
theorem aC.makeFunc{g:FuncId}{cap:Array Operand}{vs:List AV}(h:zhq E cap.toList=some vs)(j:aC P cfg f l (T.set E d (some (.clo g vs))) H Q):aC P cfg f (⟨some d,.makeFunc (.func g) #[] cap,none⟩::l) E H Q:=iY rfl (by simp only[de,yU,h]) j
theorem aC.slice{lo I:Option Operand}{J U:Option AV}(h:zfl E x=some a)(h1:jW E lo=some J)(h2:jW E I=some U)(m:nX P H t a J U=some v)(j:aC P cfg f l (T.set E d (some v)) H Q):aC P cfg f (⟨some d,.slice t x lo I none,none⟩::l) E H Q:=
 iY rfl (by simp only[de,wr,Go.Ab.ret,h,h1,h2,m]) j
theorem aC.makeSlice(h:zfl E x=some a)(h1:zfl E y=some b)(h2:zhT P H t a b=some (v,H'))(j:aC P cfg f l (T.set E d (some v)) H' Q):aC P cfg f (⟨some d,.makeSlice t x y,none⟩::l) E H Q:=iY rfl (by simp only[de,wq,h,h1,h2]) j
def HT:=@aC.makeSlice
theorem aC.len{c:AV}(h:zfl E x=some a)(h1:zf9 P H t a=some c)(j:aC P cfg f l (T.set E d (some c)) H Q):aC P cfg f (⟨some d,.call ⟨.builtin .len,#[x],#[t]⟩,none⟩::l) E H Q:=
 zT (c:=⟨.builtin .len,#[x],#[t]⟩) rfl (vs:=[a]) (by simp only[zhq,h]) (by simp only[pI,h1]) j
theorem aC.append(h:zfl E x=some a)(h1:zfl E y=some b)(h2:zgH P (cfg.keep f) H t u a b=some (v,H'))(j:aC P cfg f l (T.set E d (some v)) H' Q):aC P cfg f (⟨some d,.call ⟨.builtin .append,#[x,y],#[t,u]⟩,none⟩::l) E H Q:=
 zT (c:=⟨.builtin .append,#[x,y],#[t,u]⟩) rfl (vs:=[a,b]) Dk (by simp only[pI,h2]) j
def sd:=@aC.append
end
theorem jx(E:aw)(d t:Nat)(v:AV):aw.at (T.set E d (some v)) t=bif t == d then v else E.at t:=by
 rw[uN];by_cases h:t=d
 .simp[h]
 .have:(t == d)=false:=by simpa using h
  rw[af h,this,pQ]
theorem get_set(H:Hp)(d t:Nat)(b:HB):(H.set d b).get t=bif t == d then some b else H.get t:=by
 rw[aQ];by_cases h:t=d
 .simp[h]
 .have:(t == d)=false:=by simpa using h
  rw[af h,this,pQ]
theorem QL(E:aw)(t:Nat):zfl E (.tmp t)=some (E.at t):=rfl
theorem QM(E:aw)(k:IntKind)(n:Int):zfl E (.const (.int k n))=some (.int k n):=rfl
theorem QN(E:aw)(b:Bool):zfl E (.const (.bool b))=some (.bool b):=rfl
theorem QO(E:aw)(g:FuncId):zfl E (.func g)=some (.clo g []):=rfl
theorem QP(E:aw)(s:ByteArray):zfl E (.const (.string s))=some (.str s.data.toList):=rfl
section
variable {D:BinOp -> Sx -> Sx -> Option Bool} {t:TypeId} {k:IntKind} {a b:Int} {s u:List UInt8}
theorem QQ:zgV P D .add t (.int k a) (.int k b)=some (.int k (k.wrap (a+b))):=pP
theorem QR:zgV P D .sub t (.int k a) (.int k b)=some (.int k (k.wrap (a-b))):=pP
theorem QS:zgV P D .mul t (.int k a) (.int k b)=some (.int k (k.wrap (a*b))):=pP
theorem pS(h:b≠0):zgV P D .quo t (.int k a) (.int k b)=some (.int k (k.wrap (a.tdiv b))):=by simp[zgV,rO,zhA,h]
theorem qW(h:b≠0):zgV P D .rem t (.int k a) (.int k b)=some (.int k (a.tmod b)):=by simp[zgV,rO,zhA,h]
theorem QT:zgV P D .and t (.int k a) (.int k b)=some (.int k (k.wrap (BitVec.ofInt k.bits a &&& BitVec.ofInt k.bits b).toNat)):=pP
theorem QU:zgV P D .or t (.int k a) (.int k b)=some (.int k (k.wrap (BitVec.ofInt k.bits a |||BitVec.ofInt k.bits b).toNat)):=pP
theorem QV:zgV P D .xor t (.int k a) (.int k b)=some (.int k (k.wrap (BitVec.ofInt k.bits a^^^ BitVec.ofInt k.bits b).toNat)):=pP
theorem QW:zgV P D .eql t (.int k a) (.int k b)=some (.bool (decide (a=b))):=by simp[zgV,rO,zhA];rfl
theorem QX:zgV P D .neq t (.int k a) (.int k b)=some (.bool (!decide (a=b))):=by simp[zgV,rO,zhA];rfl
theorem QY:zgV P D .lss t (.int k a) (.int k b)=some (.bool (decide (a<b))):=pP
theorem QZ:zgV P D .leq t (.int k a) (.int k b)=some (.bool (decide (a<=b))):=pP
theorem Q0:zgV P D .gtr t (.int k a) (.int k b)=some (.bool (decide (b<a))):=pP
theorem Q1:zgV P D .geq t (.int k a) (.int k b)=some (.bool (decide (b<=a))):=pP
theorem Q3:zgV P D .eql t (.str s) (.str u)=some (.bool (decide (s=u))):=by
 simp only[zgV,wh];by_cases h:s=u<;>simp[h]
theorem Q4:zgV P D .neq t (.str s) (.str u)=some (.bool (!decide (s=u))):=by
 simp only[zgV,wh];by_cases h:s=u<;>simp[h]
theorem Q5{x:Bool}:rQ .not (.bool x)=some (.bool !x):=rfl
theorem Q6:rQ .neg (.int k a)=some (.int k (k.wrap (0-a))):=rfl
end
theorem zhe{i:Nat}(h:i<2^62):IntKind.wrap .i64 ((i:Int)+1)=((i+1:Nat):Int):=by
 rw[tx _ ac];rfl
theorem zhM{H:Hp}{t e:TypeId}(h:P.underlying t=some (.slice e))(xs:List (List AV)):zf9 P H t (.lst xs)=some (.int .i64 xs.length):=zH
theorem zhE{H:Hp}{t e:TypeId}(h:P.underlying t=some (.slice e))(r o n z:Nat):zf9 P H t (.sl r o n z)=some (.int .i64 n):=zH
theorem zhH{H:Hp}{t e:TypeId}(h:P.underlying t=some (.slice e)):zf9 P H t .nilS=some (.int .i64 0):=zH
theorem Q7{H:Hp}{t:TypeId}(h:P.underlying t=some .string)(s:List UInt8):zf9 P H t (.str s)=some (.int .i64 s.length):=zH
theorem xh{t e:TypeId}{s:Nat}(h:P.underlying t=some (.slice e))(K:zfF P e=some s){r o n z i:Nat}(I:i<n):zgi P t (.sl r o n z) (.int .i64 (i:Int))=some (.ptr r (o+i*s)):=by
 show zgi P t (.sl r o n z) (.int .i64 (Int.ofNat i))=_;simp only[zgi,h,K,I,cV]
def xi:TypeDesc->Bool
 | .struct _|.array _ _=>false
 |_=>true
theorem zhf{t:TypeId}{d:TypeDesc}(h:P.underlying t=some d)(hd:xi d=true)(cs:List AV)(o:Nat):zfy P t cs o=cs[o]?:=by
 unfold zfy;rw[h];cases d<;>simp_all[xi]
theorem zU{H:Hp}{t:TypeId}{d:TypeDesc}(h:P.underlying t=some d)(hd:xi d=true){r o:Nat}{cs:List AV}{imm:Nat}{tip:Bool}(J:H.get r=some (.cells cs imm tip)):iU P H t (.ptr r o)=cs[o]?:=by
 simp only[iU,J,zhf h hd]
def kE(z:Nat):Option (List AV)->Option AV
 |some J=>if J.length=z then some (.iptr J)else none
 |none=>none
theorem Q8(z:Nat)(row:List AV):kE z (some row)=if row.length=z then some (.iptr row)else none:=rfl
def zV:Option UInt8->Option AV
 |some b=>some (.int .u8 b.toNat)
 |none=>none
theorem Q9(b:UInt8):zV (some b)=some (.int .u8 b.toNat):=rfl
def jo(s:Nat)(cs:List AV):Option AV:=if (cs.take s).length=s then some (.agg (cs.take s))else none
theorem zhP{t:TypeId}{d:TypeDesc}{s:Nat}(h:P.underlying t=some d)(hd:xi d=false)(K:zfF P t=some s)(cs:List AV)(o:Nat):zfy P t cs o=jo s (cs.drop o):=by
 unfold zfy jo;rw[h];cases d<;>simp_all[xi]
theorem zhQ{t e:TypeId}{s:Nat}(h:P.underlying t=some (.slice e))(K:zfF P e=some s)(xs:List (List AV)){n:Int}(z:0<=n)(k:IntKind):zgi P t (.lst xs) (.int k n)=kE s (xs[n.toNat]?):=by
 obtain⟨m,rfl⟩:=jw z;show zgi P t (.lst xs) (.int k (Int.ofNat m))=kE s (xs[m]?);simp only[zgi,h,K];cases xs[m]? <;>rfl
theorem jm{t e:TypeId}{s:Nat}(h:P.underlying t=some (.slice e))(K:zfF P e=some s)(r o l z:Nat){n:Int}(Z:0<=n)(k:IntKind):zgi P t (.sl r o l z) (.int k n)=bif decide (n.toNat<l)then some (.ptr r (o+n.toNat*s))else none:=by
 obtain⟨m,rfl⟩:=jw Z;show zgi P t (.sl r o l z) (.int k (Int.ofNat m))=bif decide (m<l)then some (.ptr r (o+m*s))else none
 simp only[zgi,h,K];by_cases V:m<l<;>simp[V]
theorem Ra{t:TypeId}(h:P.underlying t=some .string)(s:List UInt8){n:Int}(z:0<=n)(k:IntKind):oS P t (.str s) (.int k n)=zV (s[n.toNat]?):=by
 obtain⟨m,rfl⟩:=jw z;show oS P t (.str s) (.int k (Int.ofNat m))=zV (s[m]?);simp only[oS,h];cases s[m]? <;>rfl
def HU(P:Program)(t:TypeId)(o:Nat):Option HB->Option AV
 |some (.cells g _ _)=>zfy P t g o
 |_=>none
theorem Rd(t:TypeId)(o:Nat)(cs:List AV)(imm:Nat)(tip:Bool):HU P t o (some (.cells cs imm tip))=zfy P t cs o:=rfl
theorem Re(H:Hp)(t:TypeId)(r o:Nat):iU P H t (.ptr r o)=HU P t o (H.get r):=rfl
theorem Rf(H:Hp)(t:TypeId)(cs:List AV):iU P H t (.iptr cs)=zfy P t cs 0:=rfl
theorem tF(H:Hp)(b:HB)(t:Nat):(H.alloc b).get t=bif t == H.next then some b else H.get t:=by
 rw[zfk];by_cases h:t=H.next
 .simp[h]
 .have:(t == H.next)=false:=by simpa using h
  rw[af h,this,pQ]
noncomputable def HV(H:Hp)(r o:Nat)(I:List AV):Option Nat->Option HB->Option Hp
 |some s,some (.cells g V Z)=>if I.length=s/\V<=o/\o+s<=g.length/\I.all AV.one=true then some (H.set r (.cells (splice g o I) V Z))else none
 |_,_=>none
theorem Dq(H:Hp)(r o:Nat)(I:List AV)(s:Nat)(cs:List AV)(imm:Nat)(tip:Bool):HV H r o I (some s) (some (.cells cs imm tip))=if I.length=s/\imm<=o/\o+s<=cs.length/\I.all AV.one=true then some (H.set r (.cells (splice cs o I) imm tip))else none:=rfl
theorem Dr(H:Hp)(t:TypeId)(r o:Nat)(v:AV):nf P H t (.ptr r o) v=HV H r o v.cells (zfF P t) (H.get r):=by
 unfold nf;simp only[];cases i:H.get r with
 |none=>cases zfF P t<;>rfl
 |some b=>cases b with
  |map Z=>cases zfF P t<;>rfl
  |cells g V I=>cases zfF P t with
   |none=>rfl
   |some s=>rfl
theorem HW(cs:List AV)(o:Nat)(Z:List AV):splice cs o Z=cs.take o++Z++cs.drop (o+Z.length):=rfl
theorem Rg(cs:List AV):AV.cells (.agg cs)=cs:=rfl
theorem cells_int(k:IntKind)(n:Int):AV.cells (.int k n)=[.int k n]:=rfl
theorem HX(b:Bool):AV.cells (.bool b)=[.bool b]:=rfl
theorem Rh(b:List UInt8):AV.cells (.str b)=[.str b]:=rfl
theorem Rk(b:List (List AV)):AV.cells (.lst b)=[.lst b]:=rfl
theorem Rl(r o l z:Nat):AV.cells (.sl r o l z)=[.sl r o l z]:=rfl
theorem Rm:AV.cells .nilS=[.nilS]:=rfl
theorem Rn(r o:Nat):AV.cells (.ptr r o)=[.ptr r o]:=rfl
theorem Ro(r:Nat):AV.cells (.map r)=[.map r]:=rfl
theorem Rp(g:Nat)(cap:List AV):AV.cells (.clo g cap)=[.clo g cap]:=rfl
theorem Rq(k:IntKind)(n:Int):AV.one (.int k n)=true:=rfl
theorem Rr(b:Bool):AV.one (.bool b)=true:=rfl
theorem Rt(b:List UInt8):AV.one (.str b)=true:=rfl
theorem Ru(b:List (List AV)):AV.one (.lst b)=true:=rfl
theorem Rv(r o l z:Nat):AV.one (.sl r o l z)=true:=rfl
theorem Rw:AV.one .nilS=true:=rfl
theorem Rz(r o:Nat):AV.one (.ptr r o)=true:=rfl
theorem RA(r:Nat):AV.one (.map r)=true:=rfl
theorem RB(g:Nat)(cap:List AV):AV.one (.clo g cap)=true:=rfl
theorem zgj:zfM.next=0:=rfl
theorem RC(H:Hp)(t:TypeId)(s:List UInt8)(lo I:Option AV):nX P H t (.str s) lo I=zhg P t (.str s) lo I:=rfl
theorem RD(H:Hp)(t:TypeId)(s:List (List AV))(lo I:Option AV):nX P H t (.lst s) lo I=zhg P t (.lst s) lo I:=rfl
theorem RE(H:Hp)(t:TypeId)(r o n z:Nat)(lo I:Option AV):nX P H t (.sl r o n z) lo I=zhg P t (.sl r o n z) lo I:=rfl
theorem RF(H:Hp)(t:TypeId)(lo I:Option AV):nX P H t .nilS lo I=zhg P t .nilS lo I:=rfl
theorem Ds(n k:Nat):(n == n+(k+1))=false:=au
theorem Dt(n k:Nat):(n+(k+1) == n)=false:=au
theorem HY(n a b:Nat):(n+a == n+b)=(a == b):=by
 by_cases h:a=b
 .simp[h]
 .have i:(a == b)=false:=by simpa using h
  rw[i];simp;omega
end
attribute [irreducible] aC zfV zfs iN
theorem Sx.beq_refl:∀a:Sx,Sx.beq a a=true
 | .var i=>by simp[Sx.beq]
 | .lit n=>by simp[Sx.beq]
 | .bin o k a b=>by simp[Sx.beq,Sx.beq_refl a,Sx.beq_refl b]
 | .conv k a=>by simp[Sx.beq,Sx.beq_refl a]
mutual
theorem AV.beq_refl:∀a:AV,AV.beq a a=true
 | .int k n=>by simp[AV.beq]
 | .sx k e=>by simp[AV.beq,Sx.beq_refl]
 | .bool b=>by simp[AV.beq]
 | .str s=>by simp[AV.beq]
 | .nilP=>rfl
 | .nilM=>rfl
 | .nilF=>rfl
 | .nilS=>rfl
 | .ptr r o=>by simp[AV.beq]
 | .iptr g=>by simp only[AV.beq];exact zh2 g
 | .sl r o l z=>by simp[AV.beq]
 | .lst K=>by simp only[AV.beq];exact HZ K
 | .map r=>by simp[AV.beq]
 | .clo f g=>by simp only[AV.beq,zh2 g,jV];simp
 | .agg g=>by simp only[AV.beq];exact zh2 g
 | .tup g=>by simp only[AV.beq];exact zh2 g
theorem zh2:∀a:List AV,lE a a=true
 |[]=>rfl
 |a::l=>by simp only[lE,AV.beq_refl a,zh2 l,jV]
theorem HZ:∀a:List (List AV),th a a=true
 |[]=>rfl
 |a::l=>by simp only[th,zh2 a,HZ l,jV]
end
def tG(o:Oper):Bool:=qV o.op||pL o.op
def zW(o:Oper):Bool:=tG o||(match o.op with|.store ..|.mapUpdate ..=>true |_=>false)
def zX(ops:List Oper):Bool:=
 pJ ops&&(List.range ops.length).all (fun i=>match ops[i]? with|some o=>if Nat.blt (i+1) ops.length then tG o else zW o|none=>true)&&(od ops).all (fun p=>Nat.blt p.2 ops.length)
section
variable {P:Program} {cfg:Cfg} {f N:Nat}
theorem Du{ih:Task->Res}{Z:List Oper}:∀{l:List Oper}{E E':aw}{H H':Hp},jP P cfg ih f N Z l E H=.done .normal E' H'->∃rs,jq P cfg ih f N Z l E H=.done E' H' rs
 |[],E,E',H,H',h=>by
  simp only[jP,Res.done.injEq,kA]at h;obtain⟨rfl,rfl⟩:=h;exact⟨[],rfl⟩
 |o::l,E,E',H,H',h=>by
  rw[xe]at h;simp only[jq];cases M:zhw Z E o with
  |true=>
   rw[M]at h;simp only[]at h⊢;cases m:zgI P cfg ih f E H o.op with
   |val v H1=>
    rw[m]at h;simp only[]at h⊢;cases hp:fk N E o.dst v with
    |none=>rw[hp]at h;simp[zhD]at h
    |some E1=>
     rw[hp]at h;simp only[zhD]at h;obtain⟨rs,hr⟩:=Du h;exact⟨_,by simp only[zhW,hr,n1];rfl⟩
   |done _ _ _=>rw[m]at h;simp at h
   |fail=>rw[m]at h;simp at h
  |false=>
   rw[M]at h;simp only[]at h⊢;cases hp:fk N E o.dst zgA with
   |none=>rw[hp]at h;simp[zhD]at h
   |some E1=>
    rw[hp]at h;simp only[zhD]at h;obtain⟨rs,hr⟩:=Du h;exact⟨_,by simp only[zhW,hr,n1];rfl⟩
theorem Dv{ih:Task->Res}{E:aw}{o:Oper}{v:AV}{H H':Hp}(j:tG o=true)(h:zgI P cfg ih f E H o.op=.val v H'):H'=H:=by
 unfold tG at j;rw[oB]at j;rcases j with j|j
 .have z:∀c,o.op≠.call c:=fun c e=>by
   rw[e]at j;simp only[qV,zhh]at j;split at j
   .rename_i i;split at i<;>simp at i
   .simp at j
  exact(CU j ((tC z).1 h)).1
 .exact CV j h
theorem RG{ih:Task->Res}{E:aw}{o:Oper}{v:AV}{H H':Hp}(j:zW o=true)(h:zgI P cfg ih f E H o.op=.val v H'):H.next<=H'.next:=by
 unfold zW at j;rw[oB]at j;rcases j with j|j
 .rw[Dv j h];exact aE _
 .obtain⟨Z,J,M,O,U,guard⟩:=o;simp only[]at j h;cases J<;>simp only[dm]at j
  case store t a x=>
   simp only[zgI,de,yQ]at h;split at h
   .split at h
    .rename_i K;simp only[gT,Res.val.injEq]at h;obtain⟨rfl,rfl⟩:=h;unfold nf at K;split at K
     .split at K
      .split at K
       .simp only[az]at K;rw[<-K];exact aE _
       .simp at K
      .simp at K
     .simp at K
    .simp[gT]at h
   .simp[gT]at h
  case mapUpdate t m k x=>
   simp only[zgI,de,yZ]at h;split at h
   .split at h
    .rename_i K;simp only[gT,Res.val.injEq]at h;obtain⟨rfl,rfl⟩:=h;unfold jj at K;split at K
     .split at K
      .split at K
       .split at K
        .simp only[az]at K;rw[<-K];exact aE _
        .simp only[az]at K;rw[<-K];exact aE _
        .simp at K
       .simp at K
      .simp at K
     .simp at K
    .simp[gT]at h
   .simp[gT]at h
theorem RH{ih ih':Task->Res}{f':FuncId}{E:aw}{op:Op}{H:Hp}(j:pL op=true):zgI P cfg ih f E H op=zgI P cfg ih' f' E H op:=by
 cases op<;>simp only[pL,zhh,dm]at j<;>try rfl
 rename_i c;simp only[zgI,rS];cases hc:c.callee with
 |value g=>rw[hc]at j;simp at j
 |invoke g m=>rfl
 |builtin b=>
  rw[hc]at j;simp only[];cases b<;>simp only[dm]at j<;>rfl
theorem RI{ih:Task->Res}{ops:List Oper}{E E':aw}{H H':Hp}(hp:zX ops=true)(h:jP P cfg ih f N ops ops E H=.done .normal E' H'):mJ P cfg ih f N ops E H=.done .normal E' H':=by
 unfold zX at hp;simp only[co,gF,kZ]at hp;obtain⟨⟨M,g⟩,z⟩:=hp;obtain⟨rs,hr⟩:=Du h;have V:=wV hr;have hlen:=CS V;obtain⟨_,z2⟩:=CT V;have J:∀(i:Nat) o,ops[i]?=some o->i+1<ops.length->tG o=true:=fun i o j I=>by
  have:=g i ac;rw[j]at this;simp only[show Nat.blt (i+1) ops.length=true by simpa [jQ]using I,cV]at this;exact this
 have Y:∀i,i+1<=ops.length->zf3 rs H' i=H:=fun i=>by
  induction i with
  |zero=>intro _;exact z2
  |succ i ih=>
   intro I;have hri:=aR (show i<rs.length by omega);obtain⟨o,j,Z⟩:=tB V hri;have h1:=ih ac;have h2:zf3 rs H' (i+1)=zf3 rs H' i:=by
    cases hd:(rs[i]' ac).did with
    |true=>exact Dv (J i o j ac) (Z.yes hd)
    |false=>exact(Z.no hd).2
   rw[h2,h1]
 unfold mJ;rw[M];simp only[hr];have O:ti P cfg (od ops) rs H'=true:=by
  unfold ti;simp only[co,gF];refine⟨fun r hm=>?_,fun p hpm=>?_⟩
  .obtain⟨i,I⟩:=CZ.1 hm;obtain⟨o,j,Z⟩:=tB V I;have L:i<ops.length:=(eG.1 j).1;rw[Z.eH,Z.eH'];refine Nat.ble_eq_true_of_le ?_;cases hd:r.did with
   |false=>rw[(Z.no hd).2];exact aE _
   |true=>
    by_cases K:i+1<ops.length
    .rw[Dv (J i o j K) (Z.yes hd)];exact aE _
    .have:=g i L;rw[j]at this;have hb:Nat.blt (i+1) ops.length=false:=by
      cases hx:Nat.blt (i+1) ops.length with
      |false=>rfl
      |true=>exact(K (by simpa [jQ]using hx)).elim
     simp only[hb,dm,cS]at this;exact RG this (Z.yes hd)
  .have hm:p.2<ops.length:=by simpa [jQ]using z p hpm
   cases hrp:rs[p.1]? with
   |none=>rfl
   |some r=>
    obtain⟨o,j,Z⟩:=tB V hrp;have L:p.1<ops.length:=(eG.1 j).1;simp only[];cases hd:r.did with
    |false=>rfl
    |true=>
     simp only[jT,gH];have hH:r.H=zf3 rs H' p.2:=by rw[Z.eH,Y _ ac,Y _ ac]
     unfold zdQ;cases U:zhh r.o.op with
     |calm=>rfl
     |act=>rfl
     |read=>
      simp only[];have m:=Z.yes hd;rw[<-Z.eE,<-Z.eo,<-Z.eH,hH]at m;rw[RH (P:=P) (cfg:=cfg) (f:=f) (ih:=ih) (ih':=fun _=>.fail) (f':=0) (by simp[pL,U])]at m;rw[m];simp only[AV.beq_refl]
     |make=>
      exfalso;rw[Z.eo]at U;by_cases K:p.1+1<ops.length
      .have:=J _ o j K;unfold tG qV pL at this;rw[U]at this;simp at this
      .have C:=g p.1 L;rw[j]at C;have hb:Nat.blt (p.1+1) ops.length=false:=by
        cases hx:Nat.blt (p.1+1) ops.length with
        |false=>rfl
        |true=>exact(K (by simpa [jQ]using hx)).elim
       simp only[hb,dm,cS,zW,tG,qV,pL,U,Bool.or_self,gH]at C;split at C
       .rename_i m;rw[m]at U;simp[zhh]at U
       .rename_i m;rw[m]at U;simp[zhh]at U
       .simp at C
 rw[O]
theorem zfV.draw{id:Nat}{ops:List Oper}{l:List SOp}{E:aw}{H:Hp}{Q:AX->aw->Hp->Prop}(i:cfg.plan f id=.text)(Z:zX ops=true)(Y:zfL N ops ops=some l)
 (h:∀K:aw->Hp->Prop,(∀E' H',Q .normal E' H'->K E' H')->aC P cfg f l E H K):zfV P cfg f N (.draw id ops) E H Q:=by
 unfold zfV;intro code hc;cases code with
 |region U J draw=>
  cases draw with
  |false=>simp only[aH,zfO]at hc;split at hc<;>simp at hc
  |true=>
   simp only[aH,SC.draw.injEq]at hc;obtain⟨rfl,rfl⟩:=hc;obtain⟨n,E',H',V,g⟩:=aC.run Y (h (Q .normal) fun _ _ h=>h);refine⟨_,_,_,zgm.draw (n:=n) (r:=.done .normal E' H') ?_ au,g⟩;rw[i];simp only[zhB];exact RI Z V
 |_=>simp[aH]at hc
end
section
variable {P:Program} {H:Hp} {t u e:TypeId} {keep:Bool}
theorem RJ{D:BinOp->Sx->Sx->Option Bool}{t:TypeId}{s u:List UInt8}:zgV P D .leq t (.str s) (.str u)=some (.bool (rN s u||s == u)):=rfl
theorem se{r o n z s:Nat}{cs:List AV}{imm:Nat}{tip:Bool}(J:H.get r=some (.cells cs imm tip))(L:((cs.drop o).take (n*s)).length=n*s):zhd H s (.sl r o n z)=some (n,(cs.drop o).take (n*s)):=by
 unfold zhd;simp only[J,L,cV]
theorem Dw{k:IntKind}{s:List UInt8}{m:Nat}(C:P.underlying t=some .string)(V:m<=s.length):zhg P t (.str s) none (some (.int k (m:Int)))=some (.str (s.take m)):=by
 show zhg P t (.str s) none (some (.int k (Int.ofNat m)))=_;simp[zhg,C,zg9,V]
theorem H0{k:IntKind}{s:List UInt8}{m:Nat}(C:P.underlying t=some .string)(V:m<=s.length):zhg P t (.str s) (some (.int k (m:Int))) none=some (.str (s.drop m)):=by
 show zhg P t (.str s) (some (.int k (Int.ofNat m))) none=_;simp only[zhg,C,zg9];rw[aq ⟨V,aE _⟩];rw[fN au]
theorem append_nil{s b n:Nat}{z Z:List AV}{x:AV}(C:P.underlying t=some (.slice e))(K:zfF P e=some s)(Y:zgo P e=some b)(I:zge P e=some z)(O:zhz P u=true)
 (V:zhd H s x=some (n+1,Z)) (o:Z.all AV.one=true) (i:z.length=s) (h1:(n+1)*b<=zg1) (h2:n+1<=zg1) :
 zgH P keep H t u .nilS x=some (.sl H.next 0 (n+1) s,H.alloc (.cells Z 0 true)):=by
 simp only[zgH,C,K,Y,I,O,V,o,i,pR,cV,iV,jM,h1,h2]
theorem Ia{s b n r len:Nat}{z Z cs:List AV}{x:AV}(C:P.underlying t=some (.slice e))(K:zfF P e=some s)(Y:zgo P e=some b)(I:zge P e=some z)(O:zhz P u=true)
 (V:zhd H s x=some (n+1,Z)) (o:Z.all AV.one=true) (i:z.length=s) (J:H.get r=some (.cells cs 0 true)) (L:cs.length=len*s) (h1:(len+(n+1))*b<=zg1) (h2:len+(n+1)<=zg1) :
 zgH P false H t u (.sl r 0 len s) x=some (.sl H.next 0 (len+(n+1)) s,(H.kill r).alloc (.cells (cs++Z) 0 true)):=by
 have U:iV false H s (.sl r 0 len s)=H:=by
  unfold iV;simp only[J,b9];have:Nat.blt (len*s) cs.length=false:=by
   cases Y:Nat.blt (len*s) cs.length with
   |false=>rfl
   |true=>rw[jQ]at Y;omega
  simp[this]
 simp only[zgH,C,K,Y,I,O,V,o,i,pR,cV,U,jM,J,h1,h2,b9,L,dZ,qS,fo,dm,cS]
end
theorem RK(E:aw):zfl E (.const (.slice none 0 0))=some .nilS:=rfl
theorem Ib(E:aw):zfl E (.const (.map none))=some .nilM:=rfl
structure Rc where
 op:Op
 did:Bool
 E:aw
 H:Hp
 val:AV
 H':Hp
section
variable (P:Program) (cfg:Cfg) (f:FuncId)
def ei:List SOp->List Rc->aw->Hp->(List Rc->aw->Hp->Prop)->Prop
 |[],tr,E,H,Q=>Q tr E H
 |o::l,tr,E,H,Q=>match o.g with
  |none=>iN P cfg f o.op E H fun v H'=>ei l (tr++[⟨o.op,true,E,H,v,H'⟩]) (zfp E o.d v) H' Q
  |some (s,b)=>(E.at s=.bool b/\iN P cfg f o.op E H fun v H'=>ei l (tr++[⟨o.op,true,E,H,v,H'⟩]) (zfp E o.d v) H' Q)\/((E.at s=.bool (!b)\/E.at s=zgA)/\ei l (tr++[⟨o.op,false,E,H,zgA,H⟩]) (zfp E o.d zgA) H Q)
def xj(C:List Rc)(H':Hp)(m:Nat):Hp:=match C[m]? with
 |some r=>r.H
 |none=>H'
def pT(r:Rc)(H:Hp):Prop:=match zhh r.op with
 | .read=>∃J,zgI P cfg (fun _=>.fail) 0 r.E H r.op=.val r.val J
 | .make=>∃b,H.get r.H.next=some b/\r.H'.get r.H.next=some b
 |_=>True
def zY(C:List Rc)(H':Hp)(i m:Nat):Prop:=match C[i]? with
 |some r=>r.did=true->pT P cfg r (xj C H' m)
 |none=>True
def qY(L:List (Nat×Nat))(C:List Rc)(H':Hp):Prop:=(∀r∈C,r.H.next<=r.H'.next)/\∀p∈L,zY P cfg C H' p.1 p.2
end
section
variable {P:Program} {cfg:Cfg} {f N:Nat}
def tH(r:Rec):Rc:=⟨r.o.op,r.did,r.E,r.H,r.val,r.H'⟩
theorem HB.beq_refl(b:HB):HB.beq b b=true:=by
 cases b with
 |cells a i t=>simp[HB.beq,zh2]
 |map V=>simp[HB.beq,zh2]
theorem ei.run{Z:List Oper}{Q:List Rc->aw->Hp->Prop}:∀{l:List Oper}{r:List SOp}{C:List Rc}{E:aw}{H:Hp},zfL N Z l=some r->ei P cfg f r C E H Q ->
 ∃n E' H' rs,jq P cfg (ev P cfg n) f N Z l E H=.done E' H' rs/\Q (C++rs.map tH) E' H'
 |[],r,C,E,H,hs,L=>by
  simp only[zfL,az]at hs;subst hs;unfold ei at L;exact⟨0,E,H,[],rfl,by simpa using L⟩
 |o::l,r,C,E,H,hs,L=>by
  simp only[zfL]at hs;split at hs
  .rename_i d g r' i h2 z;simp only[az]at hs;subst hs;obtain⟨zgc,w2⟩:=HJ (E:=E) h2;have V:∀k k',k<=k'->zgy (ev P cfg k) (ev P cfg k'):=fun k k' hk t ht=>Do hk ht;have U:iN P cfg f o.op E H (fun v H'=>ei P cfg f r' (C++[⟨o.op,true,E,H,v,H'⟩]) (zfp E d v) H' Q)->zhw Z E o=true->∃n E' H' rs,jq P cfg (ev P cfg n) f N Z (o::l) E H=.done E' H' rs/\Q (C++rs.map tH) E' H':=fun I Y=>by
    unfold iN at I;obtain⟨n,v,H1,g1,g2⟩:=I;obtain⟨m,O,M,rs,j,K⟩:=ei.run z g2;refine⟨max n m,O,M,⟨o,true,E,H,v,H1⟩::rs,?_,by simpa [tH]using K⟩;simp only[jq,Y];rw[zN (V n (max n m) (zL _ _)) (by rw[g1];simp),g1];simp only[zR i,zhW];rw[zP (V m (max n m) (zM _ _)) r8,j];rfl
   unfold ei at L;cases J:g with
   |none=>
    rw[J]at L;exact U L (zgc J)
   |some sb=>
    obtain⟨s,b⟩:=sb;rw[J]at L;simp only[]at L;rcases L with⟨e,L⟩|⟨e,L⟩
    .exact U L ((w2 s b J).1 e)
    .obtain⟨m,O,M,rs,j,K⟩:=ei.run z L;refine⟨m,O,M,⟨o,false,E,H,zgA,H⟩::rs,?_,by simpa [tH]using K⟩;simp only[jq,(w2 s b J).2 e,zR i,zhW,j,n1]
  .simp at hs
theorem RL{L:List (Nat×Nat)}{rs:List Rec}{H':Hp}(h:qY P cfg L (rs.map tH) H'):ti P cfg L rs H'=true:=by
 unfold ti;simp only[co,gF];refine⟨fun r V=>Nat.ble_eq_true_of_le (h.1 _ (lc.2 ⟨r,V,rfl⟩)),fun p hp=>?_⟩;have K:=h.2 p hp;have J:xj (rs.map tH) H' p.2=zf3 rs H' p.2:=by
  unfold xj zf3;rw[fT];cases rs[p.2]? <;>rfl
 unfold zY at K;rw[fT,J]at K;cases hr:rs[p.1]? with
 |none=>rfl
 |some r=>
  rw[hr]at K;simp only[jh,tH]at K;simp only[oB,oY];cases hd:r.did with
  |false=>exact .inl rfl
  |true=>
   right
   have K:=K hd;unfold pT at K;unfold zdQ;cases j:zhh r.o.op with
   |calm=>rfl
   |act=>rfl
   |read=>
    rw[j]at K;simp only[]at K⊢;obtain⟨Z,g⟩:=K;rw[g];exact AV.beq_refl _
   |make=>
    rw[j]at K;simp only[]at K⊢;obtain⟨b,i,g⟩:=K;rw[i,g];exact HB.beq_refl b
theorem Ic{id:Nat}{ops J:List Oper}{l:List SOp}{L:List (Nat×Nat)}{E:aw}{H:Hp}{Q:AX->aw->Hp->Prop}
 (i:∀ih:Task->Res,zhB P cfg ih f N E H (cfg.plan f id) ops=mJ P cfg ih f N J E H) (Y:pJ J=true) (V:zfL N J J=some l) (z:od J=L)
 (h:∀K:List Rc->aw->Hp->Prop,(∀C E' H',qY P cfg L C H'->Q .normal E' H'->K C E' H')->ei P cfg f l [] E H K):zfV P cfg f N (.draw id ops) E H Q:=by
 unfold zfV;intro code hc;cases code with
 |region M Z draw=>
  cases draw with
  |false=>simp only[aH,zfO]at hc;split at hc<;>simp at hc
  |true=>
   simp only[aH,SC.draw.injEq]at hc;obtain⟨rfl,rfl⟩:=hc;obtain⟨n,E',H',rs,O,g,m⟩:=ei.run V (h (fun C E' H'=>qY P cfg L C H'/\Q .normal E' H') fun _ _ _ h U=>⟨h,U⟩);refine⟨_,_,_,zgm.draw (n:=n) (r:=.done .normal E' H') ?_ au,m⟩;rw[i];unfold mJ;rw[Y];simp only[O];rw[z,RL wC]
 |_=>simp[aH]at hc
theorem RM{id:Nat}{ops:List Oper}{l:List SOp}{L:List (Nat×Nat)}{E:aw}{H:Hp}{Q:AX->aw->Hp->Prop}(i:cfg.plan f id=.text)(J:pJ ops=true)(Z:zfL N ops ops=some l)(z:od ops=L)
 (h:∀K:List Rc->aw->Hp->Prop,(∀C E' H',qY P cfg L C H'->Q .normal E' H'->K C E' H')->ei P cfg f l [] E H K):zfV P cfg f N (.draw id ops) E H Q:=
 Ic (fun ih=>by rw[i];rfl) J Z z h
theorem RN{id:Nat}{ops:List Oper}{g:List Nat}{l:List SOp}{L:List (Nat×Nat)}{E:aw}{H:Hp}{Q:AX->aw->Hp->Prop}(i:cfg.plan f id=.perm g)(o:ww g ops=true)(J:pJ (iy g ops)=true)(Z:zfL N (iy g ops) (iy g ops)=some l)(z:od (iy g ops)=L)
 (h:∀K:List Rc->aw->Hp->Prop,(∀C E' H',qY P cfg L C H'->Q .normal E' H'->K C E' H')->ei P cfg f l [] E H K):zfV P cfg f N (.draw id ops) E H Q:=
 Ic (fun ih=>by rw[i];simp only[zhB,o]) J Z z h
theorem ei.nil{C:List Rc}{E:aw}{H:Hp}{Q:List Rc->aw->Hp->Prop}(h:Q C E H):ei P cfg f [] C E H Q:=h
theorem ei.step{d:Nat}{op:Op}{l:List SOp}{C:List Rc}{E:aw}{H:Hp}{Q:List Rc->aw->Hp->Prop}
 (h:aC P cfg f [⟨some d,op,none⟩] E H fun E' H'=>ei P cfg f l (C++[⟨op,true,E,H,E'.at d,H'⟩]) E' H' Q):ei P cfg f (⟨some d,op,none⟩::l) C E H Q:=by
 unfold aC at h;simp only[]at h;unfold ei;refine iN.mono (fun v H' L=>?_) h;unfold aC at L;have:(zfp E (some d) v).at d=v:=HD;rw[this]at L;exact L
def br:=@ei.step
theorem zhC{op:Op}{l:List SOp}{C:List Rc}{E:aw}{H:Hp}{Q:List Rc->aw->Hp->Prop}(j:zhh op=.act)
 (h:aC P cfg f [⟨none,op,none⟩] E H fun E' H'=>∀v,ei P cfg f l (C++[⟨op,true,E,H,v,H'⟩]) E' H' Q):ei P cfg f (⟨none,op,none⟩::l) C E H Q:=by
 unfold aC at h;simp only[]at h;unfold ei;refine iN.mono (fun v H' L=>?_) h;unfold aC at L;exact L v
theorem ei.guard{d:Option Nat}{op:Op}{s:Nat}{b t:Bool}{l:List SOp}{C:List Rc}{E:aw}{H:Hp}{Q:List Rc->aw->Hp->Prop}(h:E.at s=.bool t)(h1:t=b->ei P cfg f (⟨d,op,none⟩::l) C E H Q)(h2:t=!b->ei P cfg f l (C++[⟨op,false,E,H,zgA,H⟩]) (zfp E d zgA) H Q):
 ei P cfg f (⟨d,op,some (s,b)⟩::l) C E H Q:=by
 unfold ei;simp only[];by_cases e:t=b
 .left
  refine⟨by rw[h,e],?_⟩;have:=h1 e;unfold ei at this;exact this
 .right
  have m:t=!b:=by cases t<;>cases b<;>simp_all
  exact⟨.inl (by rw[h,m]),h2 m⟩
theorem RO{t:TypeId}{x:Operand}{E:aw}{zfM C H:Hp}{v a:AV}(h:zfl E x=some a)(h1:iU P H t a=some v):pT P cfg ⟨.load t x,true,E,zfM,v,C⟩ H:=
 ⟨H,by simp only[zgI,de,wm,Go.Ab.ret,h,h1,gT]⟩
theorem RP{t:TypeId}{x y:Operand}{ok:Bool}{E:aw}{zfM C H:Hp}{v a b:AV}(h:zfl E x=some a)(h1:zfl E y=some b)(h2:zhv P H t a b ok=some v):pT P cfg ⟨.lookup t x y ok,true,E,zfM,v,C⟩ H:=
 ⟨H,by simp only[zgI,de,wt,Go.Ab.ret,h,h1,h2,gT]⟩
theorem RQ{t:TypeId}{x:Operand}{E:aw}{zfM C H:Hp}{v a:AV}(h:zfl E x=some a)(h1:zf9 P H t a=some v):pT P cfg ⟨.call ⟨.builtin .len,#[x],#[t]⟩,true,E,zfM,v,C⟩ H:=
 ⟨H,by simp only[zgI,rS,zhq,h,pI,h1]⟩
theorem RR{s t:TypeId}{x:Operand}{E:aw}{zfM C H:Hp}{v a:AV}(h:zfl E x=some a)(h1:zhJ P H s t a=some v):pT P cfg ⟨.convert s t x,true,E,zfM,v,C⟩ H:=
 ⟨H,by simp only[zgI,de,wn,Go.Ab.ret,h,h1,gT]⟩
theorem RS{t:TypeId}{x:Operand}{lo I:Option Operand}{J U:Option AV}{E:aw}{zfM C H:Hp}{v a:AV}(h:zfl E x=some a)(h1:jW E lo=some J)(h2:jW E I=some U)(m:nX P H t a J U=some v):pT P cfg ⟨.slice t x lo I none,true,E,zfM,v,C⟩ H:=
 ⟨H,by simp only[zgI,de,wr,Go.Ab.ret,h,h1,h2,m,gT]⟩
theorem RT{op:Op}{E:aw}{zfM C H:Hp}{v:AV}{b:HB}(j:zhh op=.make)(h:H.get zfM.next=some b)(h2:C.get zfM.next=some b):pT P cfg ⟨op,true,E,zfM,v,C⟩ H:=by
 unfold pT;rw[j];exact⟨b,h,h2⟩
theorem RU{C:List Rc}{H':Hp}{i m:Nat}{r:Rc}(h:C[i]?=some r)(K:r.did=true->pT P cfg r (xj C H' m)):zY P cfg C H' i m:=by
 unfold zY;rw[h];exact K
end
section
variable {P:Program} {cfg:Cfg} {f:FuncId} {l:List SOp} {E:aw} {H:Hp} {Q:aw -> Hp -> Prop} {d:Nat} {x y:Operand} {ts:Array TypeId} {k k':IntKind} {a b:Int}
theorem aC.min2(h:zfl E x=some (.int k a))(h1:zfl E y=some (.int k' b))(j:aC P cfg f l (T.set E d (some (.int k (min a b)))) H Q):aC P cfg f (⟨some d,.call ⟨.builtin .min,#[x,y],ts⟩,none⟩::l) E H Q:=
 zT (c:=⟨.builtin .min,#[x,y],ts⟩) rfl (vs:=[.int k a,.int k' b]) Dk (v:=.int k (min a b)) (by
  simp only[pI,rR,mm,dm,cS,iB]
  congr 3;omega) j
theorem aC.max2(h:zfl E x=some (.int k a))(h1:zfl E y=some (.int k' b))(j:aC P cfg f l (T.set E d (some (.int k (max a b)))) H Q):aC P cfg f (⟨some d,.call ⟨.builtin .max,#[x,y],ts⟩,none⟩::l) E H Q:=
 zT (c:=⟨.builtin .max,#[x,y],ts⟩) rfl (vs:=[.int k a,.int k' b]) Dk (v:=.int k (max a b)) (by
  simp only[pI,rR,mm,cV,iB]
  congr 3;omega) j
end
attribute [irreducible] ei
abbrev jp(l:List (List UInt8)):AV:=.lst (l.map fun s=>[.str s])
abbrev gg(l:List Int):AV:=.lst (l.map fun n=>[.int .i64 n])
def str(s:String):List UInt8:=s.toUTF8.data.toList
inductive Ex where
 |mk (kind:Int) (n:Int) (name:List UInt8) (op:Int) (kids:List Ex)
def Ex.kind:Ex->Int|.mk x _ _ _ _=>x
def Ex.n:Ex->Int|.mk _ x _ _ _=>x
def Ex.name:Ex->List UInt8|.mk _ _ x _ _=>x
def Ex.op:Ex->Int|.mk _ _ _ x _=>x
def Ex.kids:Ex->List Ex|.mk _ _ _ _ x=>x
mutual
def Ex.cells:Ex->List AV
 | .mk zhI C K M Z=>[.int .i64 zhI,.int .i64 C,.str K,.int .i64 M,.lst (zZ Z)]
def zZ:List Ex->List (List AV)
 |[]=>[]
 |x::xs=>Ex.cells x::zZ xs
end
theorem Ie:∀l:List Ex,zZ l=l.map Ex.cells
 |[]=>rfl
 |x::xs=>by rw[zZ,Ie xs];rfl
theorem Ex.cells_eq(x:Ex):x.cells=[.int .i64 x.kind,.int .i64 x.n,.str x.name,.int .i64 x.op,.lst (x.kids.map Ex.cells)]:=by
 cases x;simp only[Ex.cells,Ie,Ex.kind,Ex.n,Ex.name,Ex.op,Ex.kids]
def pU:=@Ex.cells_eq
theorem Ex.clen(x:Ex):x.cells.length=5:=sa
theorem Ex.c0(x:Ex):x.cells[0]?=some (.int .i64 x.kind):=sa
theorem Ex.c1(x:Ex):x.cells[1]?=some (.int .i64 x.n):=sa
theorem Ex.c2(x:Ex):x.cells[2]?=some (.str x.name):=sa
theorem Ex.c3(x:Ex):x.cells[3]?=some (.int .i64 x.op):=sa
theorem Ex.c4(x:Ex):x.cells[4]?=some (.lst (x.kids.map Ex.cells)):=sa
theorem Ex.whole(x:Ex):jo 5 x.cells=some (.agg x.cells):=by unfold jo;rw[pU];rfl
theorem Ex.one(x:Ex):x.cells.all AV.one=true:=sa
inductive St where
 |mk (kind:Int) (name:List UInt8) (to:List UInt8) (n:Int) (at_:Ex) (value:Ex) (args:List Ex) (thn:List St) (els:List St)
def St.kind:St->Int|.mk x _ _ _ _ _ _ _ _=>x
def St.name:St->List UInt8|.mk _ x _ _ _ _ _ _ _=>x
def St.to:St->List UInt8|.mk _ _ x _ _ _ _ _ _=>x
def St.n:St->Int|.mk _ _ _ x _ _ _ _ _=>x
def St.at_:St->Ex|.mk _ _ _ _ x _ _ _ _=>x
def St.value:St->Ex|.mk _ _ _ _ _ x _ _ _=>x
def St.args:St->List Ex|.mk _ _ _ _ _ _ x _ _=>x
def St.thn:St->List St|.mk _ _ _ _ _ _ _ x _=>x
def St.els:St->List St|.mk _ _ _ _ _ _ _ _ x=>x
mutual
def St.cells:St->List AV
 | .mk zhI C K M Z I g Y V=>[.int .i64 zhI,.str C,.str K,.int .i64 M,.int .i64 Z.kind,.int .i64 Z.n,.str Z.name,.int .i64 Z.op,.lst (Z.kids.map Ex.cells),.int .i64 I.kind,.int .i64 I.n,.str I.name,.int .i64 I.op,.lst (I.kids.map Ex.cells),.lst (g.map Ex.cells),.lst (xl Y),.lst (xl V)]
def xl:List St->List (List AV)
 |[]=>[]
 |x::xs=>St.cells x::xl xs
end
theorem If:∀l:List St,xl l=l.map St.cells
 |[]=>rfl
 |x::xs=>by rw[xl,If xs];rfl
theorem St.cells_eq(x:St):x.cells=[.int .i64 x.kind,.str x.name,.str x.to,.int .i64 x.n,.int .i64 x.at_.kind,.int .i64 x.at_.n,.str x.at_.name,.int .i64 x.at_.op,.lst (x.at_.kids.map Ex.cells),.int .i64 x.value.kind,.int .i64 x.value.n,.str x.value.name,.int .i64 x.value.op,.lst (x.value.kids.map Ex.cells),.lst (x.args.map Ex.cells),.lst (x.thn.map St.cells),.lst (x.els.map St.cells)]:=by
 cases x;simp only[St.cells,If,St.kind,St.name,St.to,St.n,St.at_,St.value,St.args,St.thn,St.els]
def tI:=@St.cells_eq
theorem St.clen(x:St):x.cells.length=17:=jU
theorem St.c0(x:St):x.cells[0]?=some (.int .i64 x.kind):=jU
theorem St.c1(x:St):x.cells[1]?=some (.str x.name):=jU
theorem St.c2(x:St):x.cells[2]?=some (.str x.to):=jU
theorem St.c3(x:St):x.cells[3]?=some (.int .i64 x.n):=jU
theorem St.c4(x:St):x.cells[4]?=some (.int .i64 x.at_.kind):=jU
theorem St.c5(x:St):x.cells[5]?=some (.int .i64 x.at_.n):=jU
theorem St.c6(x:St):x.cells[6]?=some (.str x.at_.name):=jU
theorem St.c7(x:St):x.cells[7]?=some (.int .i64 x.at_.op):=jU
theorem St.c8(x:St):x.cells[8]?=some (.lst (x.at_.kids.map Ex.cells)):=jU
theorem St.c9(x:St):x.cells[9]?=some (.int .i64 x.value.kind):=jU
theorem St.c10(x:St):x.cells[10]?=some (.int .i64 x.value.n):=jU
theorem St.c11(x:St):x.cells[11]?=some (.str x.value.name):=jU
theorem St.c12(x:St):x.cells[12]?=some (.int .i64 x.value.op):=jU
theorem St.c13(x:St):x.cells[13]?=some (.lst (x.value.kids.map Ex.cells)):=jU
theorem St.c14(x:St):x.cells[14]?=some (.lst (x.args.map Ex.cells)):=jU
theorem St.c15(x:St):x.cells[15]?=some (.lst (x.thn.map St.cells)):=jU
theorem St.c16(x:St):x.cells[16]?=some (.lst (x.els.map St.cells)):=jU
theorem St.whole(x:St):jo 17 x.cells=some (.agg x.cells):=by unfold jo;rw[tI];rfl
theorem St.one(x:St):x.cells.all AV.one=true:=jU
theorem RV(x:St):jo 5 (x.cells.drop 4)=some (.agg x.at_.cells):=by unfold jo;rw[tI,pU];rfl
theorem St.part_value(x:St):jo 5 (x.cells.drop 9)=some (.agg x.value.cells):=by unfold jo;rw[tI,pU];rfl
structure Fu where
 name:List UInt8
 params:List (List UInt8)
 locals:List (List UInt8)
 body:List St
 value:Ex
def Fu.cells(x:Fu):List AV:=[.str x.name,jp x.params,jp x.locals,.lst (x.body.map St.cells),.int .i64 x.value.kind,.int .i64 x.value.n,.str x.value.name,.int .i64 x.value.op,.lst (x.value.kids.map Ex.cells)]
theorem Fu.cells_eq(x:Fu):x.cells=[.str x.name,jp x.params,jp x.locals,.lst (x.body.map St.cells),.int .i64 x.value.kind,.int .i64 x.value.n,.str x.value.name,.int .i64 x.value.op,.lst (x.value.kids.map Ex.cells)]:=rfl
def xm:=@Fu.cells_eq
theorem Fu.clen(x:Fu):x.cells.length=9:=o7
theorem Fu.c0(x:Fu):x.cells[0]?=some (.str x.name):=o7
theorem Fu.c1(x:Fu):x.cells[1]?=some (jp x.params):=o7
theorem Fu.c2(x:Fu):x.cells[2]?=some (jp x.locals):=o7
theorem Fu.c3(x:Fu):x.cells[3]?=some (.lst (x.body.map St.cells)):=o7
theorem Fu.c4(x:Fu):x.cells[4]?=some (.int .i64 x.value.kind):=o7
theorem Fu.c5(x:Fu):x.cells[5]?=some (.int .i64 x.value.n):=o7
theorem Fu.c6(x:Fu):x.cells[6]?=some (.str x.value.name):=o7
theorem Fu.c7(x:Fu):x.cells[7]?=some (.int .i64 x.value.op):=o7
theorem Fu.c8(x:Fu):x.cells[8]?=some (.lst (x.value.kids.map Ex.cells)):=o7
theorem Fu.whole(x:Fu):jo 9 x.cells=some (.agg x.cells):=by unfold jo;rw[xm];rfl
theorem Fu.one(x:Fu):x.cells.all AV.one=true:=o7
theorem Fu.part_value(x:Fu):jo 5 (x.cells.drop 4)=some (.agg x.value.cells):=by unfold jo;rw[xm,pU];rfl
structure Ar where
 name:List UInt8
 len:Int
def Ar.cells(x:Ar):List AV:=[.str x.name,.int .i64 x.len]
theorem Ar.cells_eq(x:Ar):x.cells=[.str x.name,.int .i64 x.len]:=rfl
theorem Ar.clen(x:Ar):x.cells.length=2:=zI
theorem Ar.c0(x:Ar):x.cells[0]?=some (.str x.name):=zI
theorem Ar.c1(x:Ar):x.cells[1]?=some (.int .i64 x.len):=zI
theorem Ar.whole(x:Ar):jo 2 x.cells=some (.agg x.cells):=by unfold jo;rw[Ar.cells_eq];rfl
theorem Ar.one(x:Ar):x.cells.all AV.one=true:=zI
structure Pr where
 arrays:List Ar
 funcs:List Fu
def Pr.cells(x:Pr):List AV:=[.lst (x.arrays.map Ar.cells),.lst (x.funcs.map Fu.cells)]
theorem Pr.cells_eq(x:Pr):x.cells=[.lst (x.arrays.map Ar.cells),.lst (x.funcs.map Fu.cells)]:=rfl
theorem Pr.clen(x:Pr):x.cells.length=2:=zJ
theorem Pr.c0(x:Pr):x.cells[0]?=some (.lst (x.arrays.map Ar.cells)):=zJ
theorem Pr.c1(x:Pr):x.cells[1]?=some (.lst (x.funcs.map Fu.cells)):=zJ
theorem Pr.whole(x:Pr):jo 2 x.cells=some (.agg x.cells):=by unfold jo;rw[Pr.cells_eq];rfl
theorem Pr.one(x:Pr):x.cells.all AV.one=true:=zJ
structure Tk where
 kind:Int
 text:List UInt8
 at_:Int
def Tk.cells(x:Tk):List AV:=[.int .i64 x.kind,.str x.text,.int .i64 x.at_]
theorem Tk.cells_eq(x:Tk):x.cells=[.int .i64 x.kind,.str x.text,.int .i64 x.at_]:=rfl
theorem Tk.clen(x:Tk):x.cells.length=3:=xc
theorem Tk.c0(x:Tk):x.cells[0]?=some (.int .i64 x.kind):=xc
theorem Tk.c1(x:Tk):x.cells[1]?=some (.str x.text):=xc
theorem Tk.c2(x:Tk):x.cells[2]?=some (.int .i64 x.at_):=xc
theorem Tk.whole(x:Tk):jo 3 x.cells=some (.agg x.cells):=by unfold jo;rw[Tk.cells_eq];rfl
theorem Tk.one(x:Tk):x.cells.all AV.one=true:=xc
structure Nd where
 op:Int
 imm:Int
 kids:List Int
def Nd.cells(x:Nd):List AV:=[.int .i64 x.op,.int .i64 x.imm,gg x.kids]
theorem Nd.cells_eq(x:Nd):x.cells=[.int .i64 x.op,.int .i64 x.imm,gg x.kids]:=rfl
theorem Nd.clen(x:Nd):x.cells.length=3:=xd
theorem Nd.c0(x:Nd):x.cells[0]?=some (.int .i64 x.op):=xd
theorem Nd.c1(x:Nd):x.cells[1]?=some (.int .i64 x.imm):=xd
theorem Nd.c2(x:Nd):x.cells[2]?=some (gg x.kids):=xd
theorem Nd.whole(x:Nd):jo 3 x.cells=some (.agg x.cells):=by unfold jo;rw[Nd.cells_eq];rfl
theorem Nd.one(x:Nd):x.cells.all AV.one=true:=xd
structure Gr where
 name:List UInt8
 params:Int
 nodes:List Nd
 value:Int
 state:Int
def Gr.cells(x:Gr):List AV:=[.str x.name,.int .i64 x.params,.lst (x.nodes.map Nd.cells),.int .i64 x.value,.int .i64 x.state]
theorem Gr.cells_eq(x:Gr):x.cells=[.str x.name,.int .i64 x.params,.lst (x.nodes.map Nd.cells),.int .i64 x.value,.int .i64 x.state]:=rfl
theorem Gr.clen(x:Gr):x.cells.length=5:=tE
theorem Gr.c0(x:Gr):x.cells[0]?=some (.str x.name):=tE
theorem Gr.c1(x:Gr):x.cells[1]?=some (.int .i64 x.params):=tE
theorem Gr.c2(x:Gr):x.cells[2]?=some (.lst (x.nodes.map Nd.cells)):=tE
theorem Gr.c3(x:Gr):x.cells[3]?=some (.int .i64 x.value):=tE
theorem Gr.c4(x:Gr):x.cells[4]?=some (.int .i64 x.state):=tE
theorem Gr.whole(x:Gr):jo 5 x.cells=some (.agg x.cells):=by unfold jo;rw[Gr.cells_eq];rfl
theorem Gr.one(x:Gr):x.cells.all AV.one=true:=tE
structure Un where
 arrays:List Ar
 funcs:List Gr
def Un.cells(x:Un):List AV:=[.lst (x.arrays.map Ar.cells),.lst (x.funcs.map Gr.cells)]
theorem Un.cells_eq(x:Un):x.cells=[.lst (x.arrays.map Ar.cells),.lst (x.funcs.map Gr.cells)]:=rfl
theorem Un.clen(x:Un):x.cells.length=2:=zK
theorem Un.c0(x:Un):x.cells[0]?=some (.lst (x.arrays.map Ar.cells)):=zK
theorem Un.c1(x:Un):x.cells[1]?=some (.lst (x.funcs.map Gr.cells)):=zK
theorem Un.whole(x:Un):jo 2 x.cells=some (.agg x.cells):=by unfold jo;rw[Un.cells_eq];rfl
theorem Un.one(x:Un):x.cells.all AV.one=true:=zK
end Go.Ab
namespace Go.Proofs.YtpbcimfiofmoeaaGreat
set_option maxRecDepth 20000
open Go Go.Ab
theorem fit:Fit Tryz.prog:=Fit.of aj
def pls:List (Nat×Nat×Plan):=[(26,36,(.split 10 13 .text (.perm [0,1,2,3,4,5,6,7,8,9,11,12,13,10]))),
 (26,41,(.split 11 14 .text (.perm [0,1,2,3,4,5,6,7,8,9,10,12,13,14,11]))),
 (32,14,(.perm [0,1,2,4,5,7,9,3,6,8,10])),
 (90,23,(.perm [0,1,2,3,4,5,6,7,9,10,11,12,13,14,8,15,16,17,18,19])),
 (90,24,(.perm [0,1,2,3,4,5,6,8,9,10,11,12,13,7,14,15,16])),
 (111,4,(.perm [0,1,2,4,5,7,8,10,11,12,3,6,9,13,14,15,16])),
 (163,23,(.perm [0,2,3,4,5,6,7,1,8,9]))]
end Go.Proofs.YtpbcimfiofmoeaaGreat
