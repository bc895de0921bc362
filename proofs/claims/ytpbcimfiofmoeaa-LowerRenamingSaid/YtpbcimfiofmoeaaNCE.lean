/- Parts: AbFuel, AbEnv, AbWp, AbWd, AbWt, Tree, Pls. -/
import Derived.IntWalk
import Derived.KernelRfl
import Derived.Test.YtpbcimfiofmoeaaNCD
import Derived.Test.YtpbcimfiofmoeaaRows
set_option linter.unusedSimpArgs false
set_option linter.unusedVariables false
set_option linter.unusedSectionVars false
set_option linter.defProp false
set_option maxHeartbeats 32000000
namespace Go.Ab
set_option maxRecDepth 20000
open Go
theorem vc{P:Prop}(h:P:=by rw[Y];simp):P:=h
theorem vd{P:Prop}(h:P:=by rw[hr];simp):P:=h
theorem BF{P:Prop}(h:P:=by simp only[zcY,h,h1]):P:=h
theorem oJ{P:Prop}(h:P:=by simp[zcq,qx,zc9]):P:=h
theorem xN{P:Prop}(h:P:=by unfold zbO;rw[h]):P:=h
theorem EZ{P:Prop}(h:P:=by simp only[za1,iF,beq_self_eq_true,cond_true]):P:=h
theorem pM{P:Prop}(h:P:=by rw[Ex.cells_eq];rfl):P:=h
theorem iE{P:Prop}(h:P:=by rw[St.cells_eq];rfl):P:=h
theorem nR{P:Prop}(h:P:=by rw[Fu.cells_eq];rfl):P:=h
theorem xO{P:Prop}(h:P:=by rw[Ar.cells_eq];rfl):P:=h
theorem xP{P:Prop}(h:P:=by rw[Pr.cells_eq];rfl):P:=h
theorem ve{P:Prop}(h:P:=by rw[Tk.cells_eq];rfl):P:=h
theorem vh{P:Prop}(h:P:=by rw[Nd.cells_eq];rfl):P:=h
theorem sa{P:Prop}(h:P:=by rw[Gr.cells_eq];rfl):P:=h
theorem xQ{P:Prop}(h:P:=by rw[Un.cells_eq];rfl):P:=h
theorem ah{P:Prop}(h:P:=by kernel_rfl):P:=h
def xR:=@Nat.le_max_left
def xS:=@Nat.le_max_right
def nS:=@cond_false
def sc:=@Int.eq_ofNat_of_zero_le
def gm:=@Bool.and_true
def oK:=@and_self
end Go.Ab
namespace Go.Ab
set_option maxRecDepth 20000
open Go
def zcc(ih ih':Task->Res):Prop:=∀t,ih t≠.fail->ih' t=ih t
section
variable {P:Program} {cfg:Cfg} {ih ih':Task -> Res}
theorem xT(h:zcc ih ih'){f:FuncId}{E:au}{H:Hp}{op:Op}(U:zcd P cfg ih f E H op≠.fail):zcd P cfg ih' f E H op=zcd P cfg ih f E H op:=by
 unfold zcd at *;split
 .rename_i c;unfold qA at *;split
  .rename_i g C;simp only[C]at U;split
   .rename_i k i vs Z Y;simp only[Z,Y]at U;exact h _ U
   .rfl
  .rfl
  .rfl
 .rfl
theorem vi{f N:Nat}{I:List Oper}{o:Oper}{l:List Oper}{E:au}{H:Hp}:iX P cfg ih f N I (o::l) E H=match zc6 I E o with
 |true=>match zcd P cfg ih f E H o.op with
  | .val v H=>zdc (iX P cfg ih f N I l) H (ei N E o.dst v)
  |_=>.fail
 |false=>zdc (iX P cfg ih f N I l) H (ei N E o.dst zcb):=rfl
theorem xU(h:zcc ih ih'){f N:Nat}{I:List Oper}:∀{l:List Oper}{E:au}{H:Hp},iX P cfg ih f N I l E H≠.fail->iX P cfg ih' f N I l E H=iX P cfg ih f N I l E H
 |[],_,_,_=>rfl
 |o::l,E,H,hn=>by
  rw[vi]at hn⊢;rw[vi];cases O:zc6 I E o with
  |true=>
   simp only[O]at hn⊢;cases Y:zcd P cfg ih f E H o.op with
   |fail=>simp[Y]at hn
   |done x E1 H1=>simp[Y]at hn
   |val v H1=>
    rw[xT h vc,Y];simp only[Y]at hn⊢;cases hp:ei N E o.dst v with
    |none=>rfl
    |some E1=>
     rw[hp]at hn;exact xU h hn
  |false=>
   simp only[O]at hn⊢;cases hp:ei N E o.dst zcb with
   |none=>rfl
   |some E1=>
    rw[hp]at hn;exact xU h hn
theorem xV(h:zcc ih ih'){f N:Nat}{I:List Oper}:∀{l:List Oper}{E:au}{H:Hp},iu P cfg ih f N I l E H≠.fail->iu P cfg ih' f N I l E H=iu P cfg ih f N I l E H
 |[],_,_,_=>rfl
 |o::l,E,H,hn=>by
  have V:∀{r:Rec}{x:ResD},mM r x≠.fail->x≠.fail:=fun{r x} Z e=>Z (by rw[e];rfl);simp only[iu]at hn⊢;cases O:zc6 I E o with
  |true=>
   simp only[O]at hn⊢;cases Y:zcd P cfg ih f E H o.op with
   |fail=>simp[Y]at hn
   |done x E1 H1=>simp[Y]at hn
   |val v H1=>
    rw[xT h vc,Y];simp only[Y]at hn⊢;cases hp:ei N E o.dst v with
    |none=>rfl
    |some E1=>
     rw[hp]at hn;have:=xV h (V hn);simp only[zdA,this]
  |false=>
   simp only[O]at hn⊢;cases hp:ei N E o.dst zcb with
   |none=>rfl
   |some E1=>
    rw[hp]at hn;have:=xV h (V hn);simp only[zdA,this]
theorem E7(h:zcc ih ih'){f N:Nat}{ops:List Oper}{E:au}{H:Hp}(U:li P cfg ih f N ops E H≠.fail):li P cfg ih' f N ops E H=li P cfg ih f N ops E H:=by
 unfold li at *;split
 .rename_i hc;simp only[hc]at U;cases hr:iu P cfg ih f N ops ops E H with
  |fail=>simp[hr]at U
  |done E1 H1 rs=>rw[xV h vd,hr]
 .rfl
theorem Na{ops:List Oper}{Z g Y V:Res}(h1:Z≠.fail->Y=Z)(h2:g≠.fail->V=g)(U:rM ops Z g≠.fail):rM ops Y V=rM ops Z g:=by
 have i:Z≠.fail:=fun e=>U (by rw[e];rfl);have O:g≠.fail:=fun e=>U (by rw[e];unfold rM;split<;>simp_all);rw[h1 i,h2 O]
theorem BG(h:zcc ih ih'){f N:Nat}{E:au}{H:Hp}:∀{o:Plan}{ops:List Oper},jq P cfg ih f N E H o ops≠.fail->jq P cfg ih' f N E H o ops=jq P cfg ih f N E H o ops
 | .text,ops,hn=>E7 h hn
 | .perm ord,ops,hn=>by
   simp only[jq]at *;split
   .rename_i hp;simp only[hp]at hn;exact E7 h hn
   .rfl
 | .split p q a b,ops,hn=>by
   simp only[jq]at *;split
   .rfl
   .rename_i hp;simp only[hp]at hn;exact Na (fun i=>BG h i) (fun g=>BG h g) hn
theorem BH(h:zcc ih ih'){f:FuncId}{Y:List AV}{H:Hp}(U:mP P ih f Y H≠.fail):mP P ih' f Y H=mP P ih f Y H:=by
 unfold mP at *;split
 .rename_i I hf;simp only[hf]at U;split
  .rename_i c o;simp only[o]at U;cases hr:ih (.code f (max I.ntmps Y.length) c (zbj 0 Y (rN (max I.ntmps Y.length))) H)with
   |fail=>simp[hr]at U
   |val v H1=>rw[h _ vd,hr]
   |done x E1 H1=>rw[h _ vd,hr]
  .rfl
 .rfl
theorem Nb(h:zcc ih ih'){f:FuncId}{Y:List AV}{H:Hp}(U:mR P cfg ih f Y H≠.fail):mR P cfg ih' f Y H=mR P cfg ih f Y H:=by
 unfold mR at *;split
 .rename_i z;simp only[z]at U;unfold uD at *;split
  .rename_i i H' J;simp only[J]at U;split
   .rfl
   .rename_i Z;simp only[Z]at U;exact BH h U
  .rename_i J;simp only[J]at U;exact BH h U
 .rename_i z;simp only[z]at U;exact BH h U
theorem E8(h:zcc ih ih'){f N:Nat}{b:Code}{r z:Res}(hr:r≠.fail->z=r)(U:mQ ih f N b r≠.fail):mQ ih' f N b z=mQ ih f N b r:=by
 cases r with
 |fail=>simp[mQ]at U
 |val v H1=>rw[hr aw];rfl
 |done x E1 H1=>
  rw[hr aw];cases x with
  |normal=>exact h _ U
  |exit id=>rfl
  |ret=>rfl
theorem Nc(h:zcc ih ih'){t:Task}(U:step P cfg ih t≠.fail):step P cfg ih' t=step P cfg ih t:=by
 cases t with
 |call f Y H=>
  simp only[step]at *;split
  .rfl
  .rename_i hc;simp only[hc]at U;have z:mR P cfg ih f Y H≠.fail:=fun e=>U (by rw[e];unfold tg;split<;>simp_all);rw[Nb h z]
 |code f N c E H=>
  cases c with
  |region id ops draw=>cases draw with
   |false=>exact xU h U
   |true=>exact BG h U
  |seq a b=>exact E8 h (h _) U
  |loop a=>exact E8 h (h _) U
  |cond x a b=>
   simp only[step]at *;unfold rO at *;split
   .rename_i hc;simp only[hc]at U;exact h _ U
   .rename_i hc;simp only[hc]at U;exact h _ U
   .rfl
  |block id a=>
   simp only[step]at *;cases hr:ih (.code f N a E H)with
   |fail=>simp[hr,zdv]at U
   |val v H1=>rw[h _ vd,hr]
   |done x E1 H1=>rw[h _ vd,hr]
  |_=>rfl
theorem E9:∀n,zcc (zb2 P cfg n) (zb2 P cfg (n+1))
 |0=>fun _ hn=>(hn rfl).elim
 |n+1=>fun _ hn=>Nc (E9 n) hn
theorem BI{n m:Nat}(V:n<=m){t:Task}(U:zb2 P cfg n t≠.fail):zb2 P cfg m t=zb2 P cfg n t:=by
 induction m with
 |zero=>rw[show n=0 by omega]
 |succ m ih=>
  by_cases h:n=m+1
  .rw[h]
  .have:=ih ac;rw[E9 m t (by rw[this];exact U),this]
theorem xW{n m:Nat}(V:n<=m){t:Task}{r:Res}(h:zb2 P cfg n t=r)(hr:r≠.fail):zb2 P cfg m t=r:=by
 rw[BI V (by rw[h];exact hr),h]
def zbZ(P:Program)(cfg:Cfg)(t:Task)(r:Res):Prop:=r≠.fail/\∃n,zb2 P cfg n t=r
theorem zbZ.step{t:Task}{r:Res}(hr:r≠.fail){n:Nat}(h:Ab.step P cfg (zb2 P cfg n) t=r):zbZ P cfg t r:=⟨hr,n+1,h⟩
def jw:=@zbZ.step
section
variable {f N id:Nat} {a b:Code} {x:Operand} {E E1:au} {H H1:Hp} {r:Res} {ex:AX}
theorem zbZ.seq(h1:zbZ P cfg (.code f N a E H) (.done .normal E1 H1))(h2:zbZ P cfg (.code f N b E1 H1) r):zbZ P cfg (.code f N (.seq a b) E H) r:=by
 obtain⟨_,n,h1⟩:=h1;obtain⟨hr,m,h2⟩:=h2;refine jw hr (n:=max n m) ?_;show mQ (zb2 P cfg (max n m)) f N b (zb2 P cfg (max n m) (.code f N a E H))=r;rw[xW (xR n m) h1 aw];exact xW (xS n m) h2 hr
theorem Fa(h1:zbZ P cfg (.code f N a E H) (.done ex E1 H1))(I:ex≠.normal):zbZ P cfg (.code f N (.seq a b) E H) (.done ex E1 H1):=by
 obtain⟨hr,n,h1⟩:=h1;refine jw hr (n:=n) ?_;show mQ (zb2 P cfg n) f N b (zb2 P cfg n (.code f N a E H))=_;rw[h1];cases ex with
 |normal=>exact(I rfl).elim
 |exit id=>rfl
 |ret=>rfl
theorem zbZ.loop(h1:zbZ P cfg (.code f N a E H) (.done .normal E1 H1))(h2:zbZ P cfg (.code f N (.loop a) E1 H1) r):zbZ P cfg (.code f N (.loop a) E H) r:=by
 obtain⟨_,n,h1⟩:=h1;obtain⟨hr,m,h2⟩:=h2;refine jw hr (n:=max n m) ?_;show mQ (zb2 P cfg (max n m)) f N (.loop a) (zb2 P cfg (max n m) (.code f N a E H))=r;rw[xW (xR n m) h1 aw];exact xW (xS n m) h2 hr
theorem Fc(h1:zbZ P cfg (.code f N a E H) (.done ex E1 H1))(I:ex≠.normal):zbZ P cfg (.code f N (.loop a) E H) (.done ex E1 H1):=by
 obtain⟨hr,n,h1⟩:=h1;refine jw hr (n:=n) ?_;show mQ (zb2 P cfg n) f N (.loop a) (zb2 P cfg n (.code f N a E H))=_;rw[h1];cases ex with
 |normal=>exact(I rfl).elim
 |exit id=>rfl
 |ret=>rfl
theorem Nf(I:zaZ E x=some (.bool true))(h:zbZ P cfg (.code f N a E H) r):zbZ P cfg (.code f N (.cond x a b) E H) r:=by
 obtain⟨hr,n,h⟩:=h;refine jw hr (n:=n) ?_;show rO (zb2 P cfg n) f N x a b E H=r;unfold rO;rw[I];exact h
theorem Ng(I:zaZ E x=some (.bool false))(h:zbZ P cfg (.code f N b E H) r):zbZ P cfg (.code f N (.cond x a b) E H) r:=by
 obtain⟨hr,n,h⟩:=h;refine jw hr (n:=n) ?_;show rO (zb2 P cfg n) f N x a b E H=r;unfold rO;rw[I];exact h
theorem zbZ.block(h:zbZ P cfg (.code f N a E H) (.done (.exit id) E1 H1)):zbZ P cfg (.code f N (.block id a) E H) (.done .normal E1 H1):=by
 obtain⟨hr,n,h⟩:=h;refine jw aw (n:=n) ?_;show zdv id (zb2 P cfg n (.code f N a E H))=_;rw[h];simp[zdv]
theorem Nh(h:zbZ P cfg (.code f N a E H) (.done .normal E1 H1)):zbZ P cfg (.code f N (.block id a) E H) (.done .normal E1 H1):=by
 obtain⟨hr,n,h⟩:=h;refine jw aw (n:=n) ?_;show zdv id (zb2 P cfg n (.code f N a E H))=_;rw[h];rfl
theorem Nk(h:zbZ P cfg (.code f N a E H) (.done .ret E1 H1)):zbZ P cfg (.code f N (.block id a) E H) (.done .ret E1 H1):=by
 obtain⟨hr,n,h⟩:=h;refine jw aw (n:=n) ?_;show zdv id (zb2 P cfg n (.code f N a E H))=_;rw[h];rfl
theorem Nl{g:Nat}(L:Nat.beq g id=false)(h:zbZ P cfg (.code f N a E H) (.done (.exit g) E1 H1)):zbZ P cfg (.code f N (.block id a) E H) (.done (.exit g) E1 H1):=by
 obtain⟨hr,n,h⟩:=h;refine jw aw (n:=n) ?_;show zdv id (zb2 P cfg n (.code f N a E H))=_;rw[h];simp only[zdv,L]
theorem zbZ.skip:zbZ P cfg (.code f N .skip E H) (.done .normal E H):=jw aw (n:=0) rfl
theorem zbZ.exit:zbZ P cfg (.code f N (.exit id) E H) (.done (.exit id) E H):=jw aw (n:=0) rfl
theorem zbZ.ret:zbZ P cfg (.code f N .ret E H) (.done .ret E H):=jw aw (n:=0) rfl
theorem zbZ.region{ops:Array Oper}{n:Nat}(h:iX P cfg (zb2 P cfg n) f N ops.toList ops.toList E H=r)(hr:r≠.fail):zbZ P cfg (.code f N (.region id ops false) E H) r:=jw hr (n:=n) h
theorem zbZ.draw{ops:Array Oper}{n:Nat}(h:jq P cfg (zb2 P cfg n) f N E H (cfg.plan f id) ops.toList=r)(hr:r≠.fail):zbZ P cfg (.code f N (.region id ops true) E H) r:=jw hr (n:=n) h
theorem zbZ.call{Y:List AV}{I:Func}{c:Code}{v:AV}(j:cfg.call f Y=none)(z:cfg.ice f=false)(V:cfg.froz f=false)(U:P.funcs[f]?=some I)(o:I.body=some c)
 (h:zbZ P cfg (.code f (max I.ntmps Y.length) c (zbj 0 Y (rN (max I.ntmps Y.length))) H) (.done ex E1 H1)) (O:ex=.normal\/ex=.ret) (Z:tf P I.results.toList E1 H1=.val v H1):zbZ P cfg (.call f Y H) (.val v H1):=by
 obtain⟨_,n,h⟩:=h;refine jw aw (n:=n) ?_;simp only[Ab.step,j,z,V,mR,tg];unfold mP;simp only[U,o,h];rcases O with rfl|rfl<;>exact Z
end
end
noncomputable section
open Go
def ov(L:List (Nat×AV))(d:Nat->AV):Nat->AV:=
 List.rec (motive:=fun _=>Nat->AV) d (fun p _ C k=>jn (Nat.beq p.1 k) p.2 (C k)) L
end
structure SOp where
 d:Option Nat
 op:Op
 g:Option (Nat×Bool)
inductive SC where
 |skip|ret|bad
 |ops (l:List SOp)
 |draw (id:Nat) (l:List Oper)
 |seq (a b:SC)
 |cond (x:Operand) (a b:SC)
 |block (id:Nat) (a:SC)
 |loop (a:SC)
 |exit (id:Nat)
def zbA(N:Nat):Option Tmp->Option (Option Nat)
 |none=>some none
 |some d=>match Nat.blt d N with
  |true=>some (some d)
  |false=>none
def zbB(I:List Oper):Option (Nat×Bool)->Option (Option (Nat×Bool))
 |none=>some none
 |some (j,b)=>match (I[j]?).bind (·.dst)with
  |some d=>some (some (d,b))
  |none=>none
def zbt(N:Nat)(I:List Oper):List Oper->Option (List SOp)
 |[]=>some []
 |o::l=>match zbA N o.dst,zbB I o.guard,zbt N I l with
  |some d,some g,some r=>some (⟨d,o.op,g⟩::r)
  |_,_,_=>none
def zby(l:Option (List SOp)):SC:=match l with
 |some l=>.ops l
 |none=>.bad
def aD(N:Nat):Code->SC
 | .skip=>.skip
 | .region id ops draw=>match draw with
   |false=>zby (zbt N ops.toList ops.toList)
   |true=>.draw id ops.toList
 | .seq a b=>.seq (aD N a) (aD N b)
 | .cond x a b=>.cond x (aD N a) (aD N b)
 | .block id a=>.block id (aD N a)
 | .loop a=>.loop (aD N a)
 | .exit id=>.exit id
 | .ret=>.ret
 |_=>.bad
section
variable (P:Program) (cfg:Cfg) (f N:Nat)
def za9(g:FuncId)(Y:List AV)(H:Hp)(Q:AV->Hp->Prop):Prop:=∃v H',zbZ P cfg (.call g Y H) (.val v H')/\Q v H'
def gH(op:Op)(E:au)(H:Hp)(K:AV->Hp->Prop):Prop:=∃n v H',zcd P cfg (zb2 P cfg n) f E H op=.val v H'/\K v H'
noncomputable def za1(E:au):Option Nat->AV->au
 |some d,v=>T.set E d (some v)
 |none,_=>E
def ay:List SOp->au->Hp->(au->Hp->Prop)->Prop
 |[],E,H,Q=>Q E H
 |o::l,E,H,Q=>match o.g with
  |none=>gH P cfg f o.op E H fun v H'=>ay l (za1 E o.d v) H' Q
  |some (s,b)=>(E.at s=.bool b/\gH P cfg f o.op E H fun v H'=>ay l (za1 E o.d v) H' Q)\/((E.at s=.bool (!b)\/E.at s=zcb)/\ay l (za1 E o.d zcb) H Q)
def zbu(c:SC)(E:au)(H:Hp)(Q:AX->au->Hp->Prop):Prop:=∀code,aD N code=c->∃x E' H',zbZ P cfg (.code f N code E H) (.done x E' H')/\Q x E' H'
end
section
variable {P:Program} {cfg:Cfg} {f N:Nat}
theorem gH.mono{op:Op}{E:au}{H:Hp}{K g:AV->Hp->Prop}(h:∀v H',K v H'->g v H')(j:gH P cfg f op E H K):gH P cfg f op E H g:=by
 obtain⟨n,v,H',i,Z⟩:=j;exact⟨n,v,H',i,h v H' Z⟩
theorem zbu.mono{c:SC}{E:au}{H:Hp}{Q o:AX->au->Hp->Prop}(h:∀x E H,Q x E H->o x E H)(O:zbu P cfg f N c E H Q):zbu P cfg f N c E H o:=fun code hc=>by
 obtain⟨x,E',H',i,g⟩:=O code hc;exact⟨x,E',H',i,h _ _ _ g⟩
theorem zbu.skip{E:au}{H:Hp}{Q:AX->au->Hp->Prop}(h:Q .normal E H):zbu P cfg f N .skip E H Q:=fun code hc=>by
 cases code with
 |skip=>exact⟨_,_,_,zbZ.skip,h⟩
 |region id ops draw=>cases draw<;>simp only[aD,zby,reduceCtorEq]at hc;split at hc<;>simp at hc
 |_=>simp[aD]at hc
theorem zbu.ret{E:au}{H:Hp}{Q:AX->au->Hp->Prop}(h:Q .ret E H):zbu P cfg f N .ret E H Q:=fun code hc=>by
 cases code with
 |ret=>exact⟨_,_,_,zbZ.ret,h⟩
 |region id ops draw=>cases draw<;>simp only[aD,zby,reduceCtorEq]at hc;split at hc<;>simp at hc
 |_=>simp[aD]at hc
theorem zbu.exit{id:Nat}{E:au}{H:Hp}{Q:AX->au->Hp->Prop}(h:Q (.exit id) E H):zbu P cfg f N (.exit id) E H Q:=fun code hc=>by
 cases code with
 |exit g=>simp only[aD,SC.exit.injEq]at hc;subst hc;exact⟨_,_,_,zbZ.exit,h⟩
 |region id ops draw=>cases draw<;>simp only[aD,zby,reduceCtorEq]at hc;split at hc<;>simp at hc
 |_=>simp[aD]at hc
def kM(Q:AX->au->Hp->Prop)(K:au->Hp->Prop):AX->au->Hp->Prop
 | .normal,E,H=>K E H
 | .exit id,E,H=>Q (.exit id) E H
 | .ret,E,H=>Q .ret E H
theorem zbu.seq{a b:SC}{E:au}{H:Hp}{Q:AX->au->Hp->Prop}(h:zbu P cfg f N a E H (kM Q fun E H=>zbu P cfg f N b E H Q)):zbu P cfg f N (.seq a b) E H Q:=fun code hc=>by
 cases code with
 |seq p q=>
  simp only[aD,SC.seq.injEq]at hc;obtain⟨x,E1,H1,i,g⟩:=h p hc.1;cases x with
  |normal=>
   obtain⟨x,Z,m,Y,L⟩:=g q hc.2;exact⟨x,Z,m,zbZ.seq i Y,L⟩
  |exit id=>exact⟨_,_,_,Fa i aw,g⟩
  |ret=>exact⟨_,_,_,Fa i aw,g⟩
 |region id ops draw=>cases draw<;>simp only[aD,zby,reduceCtorEq]at hc;split at hc<;>simp at hc
 |_=>simp[aD]at hc
def aq:=@zbu.seq
theorem zbu.cond{x:Operand}{a b:SC}{E:au}{H:Hp}{Q:AX->au->Hp->Prop}{t:Bool}(I:zaZ E x=some (.bool t))(h1:t=true->zbu P cfg f N a E H Q)(h2:t=false->zbu P cfg f N b E H Q):
 zbu P cfg f N (.cond x a b) E H Q:=fun code hc=>by
 cases code with
 |cond y p q=>
  simp only[aD,SC.cond.injEq]at hc;obtain⟨rfl,m,L⟩:=hc;cases t with
  |true=>
   obtain⟨x,E1,H1,i,O⟩:=h1 rfl p m;exact⟨x,E1,H1,Nf I i,O⟩
  |false=>
   obtain⟨x,E1,H1,i,O⟩:=h2 rfl q L;exact⟨x,E1,H1,Ng I i,O⟩
 |region id ops draw=>cases draw<;>simp only[aD,zby,reduceCtorEq]at hc;split at hc<;>simp at hc
 |_=>simp[aD]at hc
def pN(id:Nat)(Q:AX->au->Hp->Prop):AX->au->Hp->Prop
 | .normal,E,H=>Q .normal E H
 | .exit g,E,H=>if g=id then Q .normal E H else Q (.exit g) E H
 | .ret,E,H=>Q .ret E H
theorem zbu.block{id:Nat}{a:SC}{E:au}{H:Hp}{Q:AX->au->Hp->Prop}(h:zbu P cfg f N a E H (pN id Q)):zbu P cfg f N (.block id a) E H Q:=fun code hc=>by
 cases code with
 |block g p=>
  simp only[aD,SC.block.injEq]at hc;obtain⟨rfl,m⟩:=hc;obtain⟨x,E1,H1,i,O⟩:=h p m;cases x with
  |normal=>exact⟨_,_,_,Nh i,O⟩
  |ret=>exact⟨_,_,_,Nk i,O⟩
  |exit k=>
   simp only[pN]at O;split at O
   .rename_i e;subst e;exact⟨_,_,_,zbZ.block i,O⟩
   .rename_i e;exact⟨_,_,_,Nl (by cases o:Nat.beq k g with|true=>exact(e (hM o)).elim|false=>rfl) i,O⟩
 |region id ops draw=>cases draw<;>simp only[aD,zby,reduceCtorEq]at hc;split at hc<;>simp at hc
 |_=>simp[aD]at hc
def aO:=@zbu.block
theorem zbu.loop{a:SC}{Q:AX->au->Hp->Prop}(I:Nat->au->Hp->Prop)(h:∀n E H,I n E H->zbu P cfg f N a E H (kM Q fun E H=>∃m,m<n/\I m E H)){n:Nat}{E:au}{H:Hp}(J:I n E H):zbu P cfg f N (.loop a) E H Q:=by
 induction n using Nat.strongRecOn generalizing E H with
 |_ n ih=>
  intro code hc;cases code with
  |loop p=>
   simp only[aD,SC.loop.injEq]at hc;obtain⟨x,E1,H1,i,O⟩:=h n E H J p hc;cases x with
   |normal=>
    obtain⟨m,V,o⟩:=O;obtain⟨x,Z,Y,U,M⟩:=ih m V o (.loop p) (by simp[aD,hc]);exact⟨x,Z,Y,zbZ.loop i U,M⟩
   |exit id=>exact⟨_,_,_,Fc i aw,O⟩
   |ret=>exact⟨_,_,_,Fc i aw,O⟩
  |region id ops draw=>cases draw<;>simp only[aD,zby,reduceCtorEq]at hc;split at hc<;>simp at hc
  |_=>simp[aD]at hc
def vj:=@zbu.loop
theorem nT{a:SC}{Q:AX->au->Hp->Prop}(I:Nat->au->Hp->Prop)(m:Nat)(h:∀i E H,i<=m->I i E H->zbu P cfg f N a E H (kM Q fun E H=>i<m/\I (i+1) E H)){E:au}{H:Hp}(J:I 0 E H):zbu P cfg f N (.loop a) E H Q:=
 vj (fun n E H=>n<=m/\I (m-n) E H) (fun n E H o=>zbu.mono (fun x E' H' Z=>by
  cases x with
  |normal=>
   obtain⟨Y,g⟩:=Z;have:=o.1;refine⟨n-1,ac,ac,?_⟩;rw[show m-(n-1)=m-n+1 by omega];exact g
  |exit id=>exact Z
  |ret=>exact Z) (h (m-n) E H (Nat.sub_le _ _) o.2)) (n:=m) ⟨aA _,by rw[qI];exact J⟩
theorem xX{N:Nat}{K:Option Tmp}{d:Option Nat}(h:zbA N K=some d)(E:au)(v:AV):ei N E K v=some (za1 E d v):=by
 cases K with
 |none=>simp only[zbA,az]at h;subst h;rfl
 |some t=>
  simp only[zbA]at h;split at h
  .rename_i o;simp only[az]at h;subst h;simp only[ei,o,za1]
  .simp at h
theorem Fe{I:List Oper}{E:au}{o:Oper}{g:Option (Nat×Bool)}(h:zbB I o.guard=some g):
 (g=none->zc6 I E o=true)/\∀s b,g=some (s,b)->(E.at s=.bool b->zc6 I E o=true)/\(E.at s=.bool (!b)\/E.at s=zcb->zc6 I E o=false):=by
 unfold zc6;cases C:o.guard with
 |none=>
  rw[C]at h;simp only[zbB,az]at h;subst h;exact⟨fun _=>rfl,fun s b e=>by simp at e⟩
 |some J=>
  obtain⟨j,b⟩:=J;rw[C]at h;simp only[zbB]at h;split at h
  .rename_i d hd;simp only[az]at h;subst h;refine⟨fun e=>by simp at e,fun s Y e=>?_⟩;simp only[ce]at e;obtain⟨rfl,rfl⟩:=e;simp only[xg,hd];refine⟨fun e=>by rw[e];simp,fun e=>by rcases e with e|e<;>rw[e]<;>simp[zcb]⟩
  .simp at h
theorem ay.run{Z:List Oper}{Q:au->Hp->Prop}:∀{l:List Oper}{r:List SOp}{E:au}{H:Hp},zbt N Z l=some r->ay P cfg f r E H Q ->
 ∃n E' H',iX P cfg (zb2 P cfg n) f N Z l E H=.done .normal E' H'/\Q E' H'
 |[],r,E,H,hs,I=>by
  simp only[zbt,az]at hs;subst hs;exact⟨0,E,H,rfl,I⟩
 |o::l,r,E,H,hs,I=>by
  simp only[zbt]at hs;split at hs
  .rename_i d g r' J h2 z;simp only[az]at hs;subst hs;obtain⟨zbM,j⟩:=Fe (E:=E) h2;have V:∀{K:Prop},gH P cfg f o.op E H (fun v H'=>ay P cfg f r' (za1 E d v) H' Q)->zc6 Z E o=true->∃n E' H',iX P cfg (zb2 P cfg n) f N Z (o::l) E H=.done .normal E' H'/\Q E' H':=fun{K} hw Y=>by
    obtain⟨n,v,H1,g1,g2⟩:=hw;obtain⟨m,i,M,O,L⟩:=ay.run z g2;refine⟨max n m,i,M,?_,L⟩;have U:∀k k',k<=k'->zcc (zb2 P cfg k) (zb2 P cfg k'):=fun k k' hk t ht=>BI hk ht;rw[vi,Y];simp only[];rw[xT (U n (max n m) (xR _ _)) (by rw[g1];simp),g1];simp only[xX J,zdc];rw[xU (U m (max n m) (xS _ _)) (by rw[O];simp),O]
   unfold ay at I;cases C:g with
   |none=>
    rw[C]at I;exact V (K:=True) I (zbM C)
   |some sb=>
    obtain⟨s,b⟩:=sb;rw[C]at I;simp only[]at I;rcases I with⟨e,I⟩|⟨e,I⟩
    .exact V (K:=True) I ((j s b C).1 e)
    .obtain⟨m,i,M,O,L⟩:=ay.run z I;refine⟨m,i,M,?_,L⟩;rw[vi,(j s b C).2 e];simp only[xX J,zdc];exact O
  .simp at hs
theorem zbu.ops{l:List SOp}{E:au}{H:Hp}{Q:AX->au->Hp->Prop}(h:ay P cfg f l E H (Q .normal)):zbu P cfg f N (.ops l) E H Q:=fun code hc=>by
 cases code with
 |region id ops draw=>
  cases draw with
  |true=>simp[aD]at hc
  |false=>
   simp only[aD,zby]at hc;split at hc
   .rename_i r hr;simp only[SC.ops.injEq]at hc;subst hc;obtain⟨n,E',H',i,g⟩:=ay.run hr h;exact⟨_,_,_,zbZ.region i aw,g⟩
   .simp at hc
 |_=>simp[aD]at hc
theorem zaW{l:List SOp}{E:au}{H:Hp}{Q:AX->au->Hp->Prop}(h:∀K:au->Hp->Prop,(∀E' H',Q .normal E' H'->K E' H')->ay P cfg f l E H K):zbu P cfg f N (.ops l) E H Q:=
 zbu.ops (h _ fun _ _ h=>h)
theorem ay.nil{E:au}{H:Hp}{Q:au->Hp->Prop}(h:Q E H):ay P cfg f [] E H Q:=h
def vk:=@ay.nil
theorem gH.plain{op:Op}{E:au}{H H':Hp}{v:AV}{K:AV->Hp->Prop}(h:cH P cfg.dec E H op=some (v,H'))(U:∀c,op≠.call c)(j:K v H'):gH P cfg f op E H K:=
 ⟨0,v,H',(r0 U).2 h,j⟩
def xY:Op->Bool
 | .call _=>false
 |_=>true
theorem Fh{op:Op}(h:xY op=true):∀c,op≠.call c:=fun c e=>by subst e;simp[xY]at h
theorem ay.op{d:Nat}{op:Op}{l:List SOp}{E:au}{H H':Hp}{v:AV}{Q:au->Hp->Prop}(U:xY op=true)(h:cH P cfg.dec E H op=some (v,H'))(j:ay P cfg f l (T.set E d (some v)) H' Q):ay P cfg f (⟨some d,op,none⟩::l) E H Q:=
 gH.plain h (Fh U) j
def gT:=@ay.op
theorem Fk{op:Op}{l:List SOp}{E:au}{H H':Hp}{v:AV}{Q:au->Hp->Prop}(U:xY op=true)(h:cH P cfg.dec E H op=some (v,H'))(j:ay P cfg f l E H' Q):ay P cfg f (⟨none,op,none⟩::l) E H Q:=
 gH.plain h (Fh U) j
theorem ay.guard{d:Option Nat}{op:Op}{s:Nat}{b t:Bool}{l:List SOp}{E:au}{H:Hp}{Q:au->Hp->Prop}(h:E.at s=.bool t)(h1:t=b->ay P cfg f (⟨d,op,none⟩::l) E H Q)(h2:t=!b->ay P cfg f l (za1 E d zcb) H Q):
 ay P cfg f (⟨d,op,some (s,b)⟩::l) E H Q:=by
 unfold ay;by_cases e:t=b
 .exact .inl ⟨by rw[h,e],h1 e⟩
 .have:t=!b:=by cases t<;>cases b<;>simp_all
  exact .inr ⟨.inl (by rw[h,this]),h2 this⟩
theorem Fl{d:Option Nat}{op:Op}{s:Nat}{b:Bool}{l:List SOp}{E:au}{H:Hp}{Q:au->Hp->Prop}{v:AV}(h:some (E.at s)=some v)(M:v=zcb)(h2:ay P cfg f l (za1 E d zcb) H Q):
 ay P cfg f (⟨d,op,some (s,b)⟩::l) E H Q:=by
 subst M;unfold ay;exact .inr ⟨.inr j5,h2⟩
theorem ay.call{d:Option Nat}{c:Call}{g:Operand}{k:FuncId}{cap vs:List AV}{l:List SOp}{E:au}{H:Hp}{Q:au->Hp->Prop}(V:c.callee=.value g)(C:zaZ E g=some (.clo k cap))(M:zcY E c.args.toList=some vs)
 (h:za9 P cfg k (vs++cap) H fun v H'=>ay P cfg f l (za1 E d v) H' Q):ay P cfg f (⟨d,.call c,none⟩::l) E H Q:=by
 obtain⟨v,H',⟨_,n,i⟩,Z⟩:=h;refine⟨n,v,H',?_,Z⟩;simp only[zcd,qA,V,C,M];exact i
def aK:=@ay.call
theorem ay.builtin{d:Option Nat}{c:Call}{b:Builtin}{vs:List AV}{v:AV}{l:List SOp}{E:au}{H H':Hp}{Q:au->Hp->Prop}(V:c.callee=.builtin b)(M:zcY E c.args.toList=some vs)
 (h:oA P (cfg.keep f) H b c.argTypes.toList vs=some (v,H')) (j:ay P cfg f l (za1 E d v) H' Q):ay P cfg f (⟨d,.call c,none⟩::l) E H Q:=by
 refine⟨0,v,H',?_,j⟩;simp only[zcd,qA,V,M,h]
def xZ:=@ay.builtin
theorem Nm{g:FuncId}{Y:List AV}{r:AV}{H:Hp}{Q:AV->Hp->Prop}(h:cfg.call g Y=some r)(I:Q r H):za9 P cfg g Y H Q:=
 ⟨r,H,jw aw (n:=0) (by simp only[step,h]),I⟩
theorem Nn{g:FuncId}{Y i:List AV}{r:AV}{H H':Hp}{Q:AV->Hp->Prop}(J:cfg.call g Y=none)(z:cfg.ice g=true)(j:cfg.froz g=false)(O:kG (iY 100) Y H=some (i,H'))(h:cfg.call g i=some r)(I:Q r H'):za9 P cfg g Y H Q:=
 ⟨r,H',jw aw (n:=0) (by simp only[step,J,mR,z,j,tg,uD,O,h]),I⟩
theorem za9.mono{g:FuncId}{Y:List AV}{H:Hp}{Q o:AV->Hp->Prop}(h:∀v H',Q v H'->o v H')(O:za9 P cfg g Y H Q):za9 P cfg g Y H o:=by
 obtain⟨v,H',i,Z⟩:=O;exact⟨v,H',i,h _ _ Z⟩
def aI:=@za9.mono
theorem za9.body{g:FuncId}{Y:List AV}{H:Hp}{I:Func}{c:Code}{Q:AV->Hp->Prop}(j:cfg.call g Y=none)(z:cfg.ice g=false)(Z:cfg.froz g=false)(V:P.funcs[g]?=some I)(o:I.body=some c)
 (h:zbu P cfg g (max I.ntmps Y.length) (aD (max I.ntmps Y.length) c) (zbj 0 Y (rN (max I.ntmps Y.length))) H (fun x E' H'=>(x=.normal\/x=.ret)/\∃vs,zb9 P E' H' I.results.toList=some vs/\Q (za0 vs) H')):za9 P cfg g Y H Q:=by
 obtain⟨x,E',H',i,U,vs,O,m⟩:=h c rfl;exact⟨za0 vs,H',zbZ.call j z Z V o i U (by unfold tf;rw[O]),m⟩
theorem zbs{g:FuncId}{Y:List AV}{H:Hp}{I:Func}{c:Code}{s:SC}{M:Nat}{rs:List ResultVar}{Q:AV->Hp->Prop}(j:cfg.call g Y=none)(z:cfg.ice g=false)(Z:cfg.froz g=false)(V:P.funcs[g]?=some I)(o:I.body=some c)(U:max I.ntmps Y.length=M)
 (J:aD M c=s) (hr:I.results.toList=rs) (h:zbu P cfg g M s (zbj 0 Y (rN M)) H (fun x E' H'=>(x=.normal\/x=.ret)/\∃vs,zb9 P E' H' rs=some vs/\Q (za0 vs) H')):za9 P cfg g Y H Q:=by
 subst U J hr;exact za9.body j z Z V o h
theorem Fm(fit:Fit P){ρ:Nat->Int}(i:l4 cfg.dec ρ)(V:∀f Y r,cfg.call f Y=some r->cn P ρ f Y r){g:FuncId}{Y:List AV}{r:AV}{k m:Nat}
 (I:pA k Y=true) (h:za9 P cfg g Y zbk fun v H'=>iceV H' m v=some r):cn P ρ g Y r:=by
 obtain⟨v,H',⟨_,n,Z⟩,U⟩:=h;exact BC fit i V (n:=n) (m:=m) I (by unfold uE;rw[Z];exact U)
section
variable {l:List SOp} {E:au} {H H':Hp} {Q:au -> Hp -> Prop} {d:Nat} {v a b:AV} {x y:Operand} {t u:TypeId}
theorem ay.move(h:zaZ E x=some v)(j:ay P cfg f l (T.set E d (some v)) H Q):ay P cfg f (⟨some d,.move x,none⟩::l) E H Q:=gT rfl (by simp only[cH,Go.Ab.ret,h]) j
theorem ay.assign(h:zaZ E x=some v)(j:ay P cfg f l (T.set E d (some v)) H Q):ay P cfg f (⟨some d,.assign x,none⟩::l) E H Q:=gT rfl (by simp only[cH,Go.Ab.ret,h]) j
theorem ay.pick{z:Operand}{t:Bool}(h:zaZ E x=some (.bool t))(h1:zaZ E y=some a)(h2:zaZ E z=some b)(j:ay P cfg f l (T.set E d (some (jn t a b))) H Q):ay P cfg f (⟨some d,.pick x y z,none⟩::l) E H Q:=
 gT rfl (by cases t<;>simp only[cH,wX,Go.Ab.ret,h,h1,h2]<;>rfl) j
theorem ay.load(h:zaZ E x=some a)(h1:ip P H t a=some v)(j:ay P cfg f l (T.set E d (some v)) H Q):ay P cfg f (⟨some d,.load t x,none⟩::l) E H Q:=gT rfl (by simp only[cH,ut,Go.Ab.ret,h,h1]) j
theorem ay.store(h:zaZ E x=some a)(h1:zaZ E y=some b)(h2:lV P H t a b=some H')(j:ay P cfg f l E H' Q):ay P cfg f (⟨none,.store t x y,none⟩::l) E H Q:=Fk rfl (by simp only[cH,wZ,h,h1,h2];rfl) j
def BJ:=@ay.store
theorem ay.nilCheck{r o:Nat}(h:zaZ E x=some (.ptr r o))(j:ay P cfg f l (T.set E d (some (.ptr r o))) H Q):ay P cfg f (⟨some d,.nilCheck x,none⟩::l) E H Q:=gT rfl (by simp only[cH,w1,h]) j
theorem ay.bin{op:BinOp}(h:zaZ E x=some a)(h1:zaZ E y=some b)(h2:zcq P cfg.dec op t a b=some v)(j:ay P cfg f l (T.set E d (some v)) H Q):ay P cfg f (⟨some d,.binOp op t x y u,none⟩::l) E H Q:=
 gT rfl (by simp only[cH,w5,Go.Ab.ret,h,h1,h2]) j
theorem ay.un{op:UnOp}(h:zaZ E x=some a)(h2:qy op a=some v)(j:ay P cfg f l (T.set E d (some v)) H Q):ay P cfg f (⟨some d,.unOp op t x,none⟩::l) E H Q:=gT rfl (by simp only[cH,w6,Go.Ab.ret,h,h2]) j
theorem ay.convert(h:zaZ E x=some a)(h2:zdg P H t u a=some v)(j:ay P cfg f l (T.set E d (some v)) H Q):ay P cfg f (⟨some d,.convert t u x,none⟩::l) E H Q:=gT rfl (by simp only[cH,uu,Go.Ab.ret,h,h2]) j
theorem ay.fieldAddr{i:Nat}(h:zaZ E x=some a)(h2:za6 P t a i=some v)(j:ay P cfg f l (T.set E d (some v)) H Q):ay P cfg f (⟨some d,.fieldAddr t x i,none⟩::l) E H Q:=gT rfl (by simp only[cH,w8,Go.Ab.ret,h,h2]) j
def Fo:=@ay.fieldAddr
theorem ay.field{i:Nat}(h:zaZ E x=some a)(h2:zbG P t a i=some v)(j:ay P cfg f l (T.set E d (some v)) H Q):ay P cfg f (⟨some d,.field t x i,none⟩::l) E H Q:=gT rfl (by simp only[cH,w9,Go.Ab.ret,h,h2]) j
theorem ay.indexAddr(h:zaZ E x=some a)(h1:zaZ E y=some b)(h2:zb1 P t a b=some v)(j:ay P cfg f l (T.set E d (some v)) H Q):ay P cfg f (⟨some d,.indexAddr t x y,none⟩::l) E H Q:=gT rfl (by simp only[cH,xc,Go.Ab.ret,h,h1,h2]) j
def Fp:=@ay.indexAddr
theorem ay.index(h:zaZ E x=some a)(h1:zaZ E y=some b)(h2:nH P t a b=some v)(j:ay P cfg f l (T.set E d (some v)) H Q):ay P cfg f (⟨some d,.index t x y,none⟩::l) E H Q:=gT rfl (by simp only[cH,xd,Go.Ab.ret,h,h1,h2]) j
theorem ay.extract{i:Nat}(h:zaZ E x=some a)(h2:Ab.extract a i=some v)(j:ay P cfg f l (T.set E d (some v)) H Q):ay P cfg f (⟨some d,.extract x i,none⟩::l) E H Q:=gT rfl (by simp only[cH,xf,Go.Ab.ret,h,h2]) j
theorem ay.alloc{z:List AV}{n:Nat}(h:zbU P t=some z)(U:some H.next=some n)(j:ay P cfg f l (T.set E d (some (.ptr n 0))) (H.alloc (.cells z 0 true)) Q):ay P cfg f (⟨some d,.alloc t,none⟩::l) E H Q:=by
 simp only[az]at U;subst U;exact gT rfl (by simp only[cH,uq,h]) j
theorem ay.box{cs:List AV}{n:Nat}(h:zaZ E x=some a)(V:some a.cells=some cs)(U:some H.next=some n)(j:ay P cfg f l (T.set E d (some (.ptr n 0))) (H.alloc (.cells cs 0 true)) Q):ay P cfg f (⟨some d,.box t x,none⟩::l) E H Q:=by
 simp only[az]at V U;subst V U;exact gT rfl (by simp only[cH,ur,h]) j
theorem ay.build{J:Array (Nat×Operand)}{ps:List (Nat×AV)}(h:zde E J.toList=some ps)(h2:zb5 P t ps=some v)(j:ay P cfg f l (T.set E d (some v)) H Q):ay P cfg f (⟨some d,.build t J,none⟩::l) E H Q:=gT rfl (by simp only[cH,wY,Go.Ab.ret,h,h2]) j
theorem ay.buildSlice{n:Nat}{J:Array (Nat×Operand)}{ps:List (Nat×AV)}(h:zde E J.toList=some ps)(h2:zcv P H t n ps=some (v,H'))(j:ay P cfg f l (T.set E d (some v)) H' Q):ay P cfg f (⟨some d,.buildSlice t n J,none⟩::l) E H Q:=
 gT rfl (by simp only[cH,us,h,h2]) j
def Fq:=@ay.buildSlice
theorem ay.makeMap{n:Nat}(U:some H.next=some n)(j:ay P cfg f l (T.set E d (some (.map n))) (H.alloc (.map [])) Q):ay P cfg f (⟨some d,.makeMap t none,none⟩::l) E H Q:=by
 simp only[az]at U;subst U;exact gT rfl (by simp only[cH,uw]) j
theorem ay.lookup{ok:Bool}(h:zaZ E x=some a)(h1:zaZ E y=some b)(h2:jd P H t a b ok=some v)(j:ay P cfg f l (T.set E d (some v)) H Q):ay P cfg f (⟨some d,.lookup t x y ok,none⟩::l) E H Q:=gT rfl (by simp only[cH,uz,Go.Ab.ret,h,h1,h2]) j
theorem ay.mapUpdate{z:Operand}{c:AV}(h:zaZ E x=some a)(h1:zaZ E y=some b)(h2:zaZ E z=some c)(m:zdu P H t a b c=some H')(j:ay P cfg f l E H' Q):ay P cfg f (⟨none,.mapUpdate t x y z,none⟩::l) E H Q:=
 Fk rfl (by simp only[cH,xe,h,h1,h2,m];rfl) j
def Fs:=@ay.mapUpdate
theorem ay.makeFunc{g:FuncId}{cap:Array Operand}{vs:List AV}(h:zcY E cap.toList=some vs)(j:ay P cfg f l (T.set E d (some (.clo g vs))) H Q):ay P cfg f (⟨some d,.makeFunc (.func g) #[] cap,none⟩::l) E H Q:=gT rfl (by simp only[cH,w7,h]) j
theorem ay.slice{lo z:Option Operand}{V M:Option AV}(h:zaZ E x=some a)(h1:zdb E lo=some V)(h2:zdb E z=some M)(m:mJ P H t a V M=some v)(j:ay P cfg f l (T.set E d (some v)) H Q):ay P cfg f (⟨some d,.slice t x lo z none,none⟩::l) E H Q:=
 gT rfl (by simp only[cH,uy,Go.Ab.ret,h,h1,h2,m]) j
theorem ay.makeSlice(h:zaZ E x=some a)(h1:zaZ E y=some b)(h2:zdC P H t a b=some (v,H'))(j:ay P cfg f l (T.set E d (some v)) H' Q):ay P cfg f (⟨some d,.makeSlice t x y,none⟩::l) E H Q:=gT rfl (by simp only[cH,ux,h,h1,h2]) j
def Ft:=@ay.makeSlice
theorem ay.len{c:AV}(h:zaZ E x=some a)(h1:zbO P H t a=some c)(j:ay P cfg f l (T.set E d (some c)) H Q):ay P cfg f (⟨some d,.call ⟨.builtin .len,#[x],#[t]⟩,none⟩::l) E H Q:=
 xZ (c:=⟨.builtin .len,#[x],#[t]⟩) rfl (vs:=[a]) (by simp only[zcY,h]) (by simp only[oA,h1]) j
theorem ay.append(h:zaZ E x=some a)(h1:zaZ E y=some b)(h2:zcg P (cfg.keep f) H t u a b=some (v,H'))(j:ay P cfg f l (T.set E d (some v)) H' Q):ay P cfg f (⟨some d,.call ⟨.builtin .append,#[x,y],#[t,u]⟩,none⟩::l) E H Q:=
 xZ (c:=⟨.builtin .append,#[x,y],#[t,u]⟩) rfl (vs:=[a,b]) BF (by simp only[oA,h2]) j
def qL:=@ay.append
end
theorem iF(E:au)(d t:Nat)(v:AV):au.at (T.set E d (some v)) t=bif t == d then v else E.at t:=by
 rw[tl];by_cases h:t=d
 .simp[h]
 .have:(t == d)=false:=by simpa using h
  rw[af h,this,nS]
theorem get_set(H:Hp)(d t:Nat)(b:HB):(H.set d b).get t=bif t == d then some b else H.get t:=by
 rw[aC];by_cases h:t=d
 .simp[h]
 .have:(t == d)=false:=by simpa using h
  rw[af h,this,nS]
theorem No(E:au)(t:Nat):zaZ E (.tmp t)=some (E.at t):=rfl
theorem Np(E:au)(k:IntKind)(n:Int):zaZ E (.const (.int k n))=some (.int k n):=rfl
theorem Nq(E:au)(b:Bool):zaZ E (.const (.bool b))=some (.bool b):=rfl
theorem Nr(E:au)(g:FuncId):zaZ E (.func g)=some (.clo g []):=rfl
theorem Ns(E:au)(s:ByteArray):zaZ E (.const (.string s))=some (.str s.data.toList):=rfl
section
variable {D:BinOp -> Sx -> Sx -> Option Bool} {t:TypeId} {k:IntKind} {a b:Int} {s u:List UInt8}
theorem Nt:zcq P D .add t (.int k a) (.int k b)=some (.int k (k.wrap (a+b))):=oJ
theorem Nu:zcq P D .sub t (.int k a) (.int k b)=some (.int k (k.wrap (a-b))):=oJ
theorem Nv:zcq P D .mul t (.int k a) (.int k b)=some (.int k (k.wrap (a*b))):=oJ
theorem x3(h:b≠0):zcq P D .quo t (.int k a) (.int k b)=some (.int k (k.wrap (a.tdiv b))):=by simp[zcq,qx,zc9,h]
theorem vm(h:b≠0):zcq P D .rem t (.int k a) (.int k b)=some (.int k (a.tmod b)):=by simp[zcq,qx,zc9,h]
theorem Nw:zcq P D .and t (.int k a) (.int k b)=some (.int k (k.wrap (BitVec.ofInt k.bits a &&& BitVec.ofInt k.bits b).toNat)):=oJ
theorem Nx:zcq P D .or t (.int k a) (.int k b)=some (.int k (k.wrap (BitVec.ofInt k.bits a |||BitVec.ofInt k.bits b).toNat)):=oJ
theorem Ny:zcq P D .xor t (.int k a) (.int k b)=some (.int k (k.wrap (BitVec.ofInt k.bits a^^^ BitVec.ofInt k.bits b).toNat)):=oJ
theorem Nz:zcq P D .eql t (.int k a) (.int k b)=some (.bool (decide (a=b))):=by simp[zcq,qx,zc9];rfl
theorem NA:zcq P D .neq t (.int k a) (.int k b)=some (.bool (!decide (a=b))):=by simp[zcq,qx,zc9];rfl
theorem NB:zcq P D .lss t (.int k a) (.int k b)=some (.bool (decide (a<b))):=oJ
theorem NC:zcq P D .leq t (.int k a) (.int k b)=some (.bool (decide (a<=b))):=oJ
theorem ND:zcq P D .gtr t (.int k a) (.int k b)=some (.bool (decide (b<a))):=oJ
theorem NE:zcq P D .geq t (.int k a) (.int k b)=some (.bool (decide (b<=a))):=oJ
theorem NF:zcq P D .eql t (.str s) (.str u)=some (.bool (decide (s=u))):=by
 simp only[zcq,rG];by_cases h:s=u<;>simp[h]
theorem NG:zcq P D .neq t (.str s) (.str u)=some (.bool (!decide (s=u))):=by
 simp only[zcq,rG];by_cases h:s=u<;>simp[h]
theorem NH{x:Bool}:qy .not (.bool x)=some (.bool !x):=rfl
theorem NI:qy .neg (.int k a)=some (.int k (k.wrap (0-a))):=rfl
end
theorem zcL{i:Nat}(h:i<2^62):IntKind.wrap .i64 ((i:Int)+1)=((i+1:Nat):Int):=by
 rw[rW _ ac];rfl
theorem zdr{H:Hp}{t e:TypeId}(h:P.underlying t=some (.slice e))(xs:List (List AV)):zbO P H t (.lst xs)=some (.int .i64 xs.length):=xN
theorem zdk{H:Hp}{t e:TypeId}(h:P.underlying t=some (.slice e))(r o n z:Nat):zbO P H t (.sl r o n z)=some (.int .i64 n):=xN
theorem zdo{H:Hp}{t e:TypeId}(h:P.underlying t=some (.slice e)):zbO P H t .nilS=some (.int .i64 0):=xN
theorem NJ{H:Hp}{t:TypeId}(h:P.underlying t=some .string)(s:List UInt8):zbO P H t (.str s)=some (.int .i64 s.length):=xN
theorem x4{t e:TypeId}{s:Nat}(h:P.underlying t=some (.slice e))(J:zbh P e=some s){r o n z i:Nat}(Z:i<n):zb1 P t (.sl r o n z) (.int .i64 (i:Int))=some (.ptr r (o+i*s)):=by
 show zb1 P t (.sl r o n z) (.int .i64 (Int.ofNat i))=_;simp only[zb1,h,J,Z,cZ]
def vn:TypeDesc->Bool
 | .struct _|.array _ _=>false
 |_=>true
theorem zcT{t:TypeId}{d:TypeDesc}(h:P.underlying t=some d)(hd:vn d=true)(cs:List AV)(o:Nat):zba P t cs o=cs[o]?:=by
 unfold zba;rw[h];cases d<;>simp_all[vn]
theorem BK{H:Hp}{t:TypeId}{d:TypeDesc}(h:P.underlying t=some d)(hd:vn d=true){r o:Nat}{cs:List AV}{imm:Nat}{tip:Bool}(C:H.get r=some (.cells cs imm tip)):ip P H t (.ptr r o)=cs[o]?:=by
 simp only[ip,C,zcT h hd]
def kg(z:Nat):Option (List AV)->Option AV
 |some K=>if K.length=z then some (.iptr K)else none
 |none=>none
theorem NK(z:Nat)(row:List AV):kg z (some row)=if row.length=z then some (.iptr row)else none:=rfl
def x5:Option UInt8->Option AV
 |some b=>some (.int .u8 b.toNat)
 |none=>none
theorem NL(b:UInt8):x5 (some b)=some (.int .u8 b.toNat):=rfl
def zbJ(s:Nat)(cs:List AV):Option AV:=if (cs.take s).length=s then some (.agg (cs.take s))else none
theorem zdp{t:TypeId}{d:TypeDesc}{s:Nat}(h:P.underlying t=some d)(hd:vn d=false)(J:zbh P t=some s)(cs:List AV)(o:Nat):zba P t cs o=zbJ s (cs.drop o):=by
 unfold zba zbJ;rw[h];cases d<;>simp_all[vn]
theorem zdw{t e:TypeId}{s:Nat}(h:P.underlying t=some (.slice e))(J:zbh P e=some s)(xs:List (List AV)){n:Int}(U:0<=n)(k:IntKind):zb1 P t (.lst xs) (.int k n)=kg s (xs[n.toNat]?):=by
 obtain⟨m,rfl⟩:=sc U;show zb1 P t (.lst xs) (.int k (Int.ofNat m))=kg s (xs[m]?);simp only[zb1,h,J];cases xs[m]? <;>rfl
theorem zdx{t e:TypeId}{s:Nat}(h:P.underlying t=some (.slice e))(J:zbh P e=some s)(r o l z:Nat){n:Int}(U:0<=n)(k:IntKind):zb1 P t (.sl r o l z) (.int k n)=bif decide (n.toNat<l)then some (.ptr r (o+n.toNat*s))else none:=by
 obtain⟨m,rfl⟩:=sc U;show zb1 P t (.sl r o l z) (.int k (Int.ofNat m))=bif decide (m<l)then some (.ptr r (o+m*s))else none
 simp only[zb1,h,J];by_cases V:m<l<;>simp[V]
theorem NM{t:TypeId}(h:P.underlying t=some .string)(s:List UInt8){n:Int}(U:0<=n)(k:IntKind):nH P t (.str s) (.int k n)=x5 (s[n.toNat]?):=by
 obtain⟨m,rfl⟩:=sc U;show nH P t (.str s) (.int k (Int.ofNat m))=x5 (s[m]?);simp only[nH,h];cases s[m]? <;>rfl
def Fv(P:Program)(t:TypeId)(o:Nat):Option HB->Option AV
 |some (.cells Z _ _)=>zba P t Z o
 |_=>none
theorem NN(t:TypeId)(o:Nat)(cs:List AV)(imm:Nat)(tip:Bool):Fv P t o (some (.cells cs imm tip))=zba P t cs o:=rfl
theorem NO(H:Hp)(t:TypeId)(r o:Nat):ip P H t (.ptr r o)=Fv P t o (H.get r):=rfl
theorem NP(H:Hp)(t:TypeId)(cs:List AV):ip P H t (.iptr cs)=zba P t cs 0:=rfl
theorem sd(H:Hp)(b:HB)(t:Nat):(H.alloc b).get t=bif t == H.next then some b else H.get t:=by
 rw[zaY];by_cases h:t=H.next
 .simp[h]
 .have:(t == H.next)=false:=by simpa using h
  rw[af h,this,nS]
noncomputable def Fw(H:Hp)(r o:Nat)(i:List AV):Option Nat->Option HB->Option Hp
 |some s,some (.cells Z L g)=>if i.length=s/\L<=o/\o+s<=Z.length/\i.all AV.one=true then some (H.set r (.cells (splice Z o i) L g))else none
 |_,_=>none
theorem BL(H:Hp)(r o:Nat)(i:List AV)(s:Nat)(cs:List AV)(imm:Nat)(tip:Bool):Fw H r o i (some s) (some (.cells cs imm tip))=if i.length=s/\imm<=o/\o+s<=cs.length/\i.all AV.one=true then some (H.set r (.cells (splice cs o i) imm tip))else none:=rfl
theorem BM(H:Hp)(t:TypeId)(r o:Nat)(v:AV):lV P H t (.ptr r o) v=Fw H r o v.cells (zbh P t) (H.get r):=by
 unfold lV;simp only[];cases i:H.get r with
 |none=>cases zbh P t<;>rfl
 |some b=>cases b with
  |map j=>cases zbh P t<;>rfl
  |cells Z L g=>cases zbh P t with
   |none=>rfl
   |some s=>rfl
theorem Fx(cs:List AV)(o:Nat)(M:List AV):splice cs o M=cs.take o++M++cs.drop (o+M.length):=rfl
theorem NQ(cs:List AV):AV.cells (.agg cs)=cs:=rfl
theorem cells_int(k:IntKind)(n:Int):AV.cells (.int k n)=[.int k n]:=rfl
theorem Fy(b:Bool):AV.cells (.bool b)=[.bool b]:=rfl
theorem NR(b:List UInt8):AV.cells (.str b)=[.str b]:=rfl
theorem NS(b:List (List AV)):AV.cells (.lst b)=[.lst b]:=rfl
theorem NT(r o l z:Nat):AV.cells (.sl r o l z)=[.sl r o l z]:=rfl
theorem NU:AV.cells .nilS=[.nilS]:=rfl
theorem NV(r o:Nat):AV.cells (.ptr r o)=[.ptr r o]:=rfl
theorem NW(r:Nat):AV.cells (.map r)=[.map r]:=rfl
theorem NX(g:Nat)(cap:List AV):AV.cells (.clo g cap)=[.clo g cap]:=rfl
theorem NY(k:IntKind)(n:Int):AV.one (.int k n)=true:=rfl
theorem NZ(b:Bool):AV.one (.bool b)=true:=rfl
theorem N0(b:List UInt8):AV.one (.str b)=true:=rfl
theorem N2(b:List (List AV)):AV.one (.lst b)=true:=rfl
theorem N4(r o l z:Nat):AV.one (.sl r o l z)=true:=rfl
theorem N8:AV.one .nilS=true:=rfl
theorem N9(r o:Nat):AV.one (.ptr r o)=true:=rfl
theorem Oa(r:Nat):AV.one (.map r)=true:=rfl
theorem Ob(g:Nat)(cap:List AV):AV.one (.clo g cap)=true:=rfl
theorem zb4:zbk.next=0:=rfl
theorem Oc(H:Hp)(t:TypeId)(s:List UInt8)(lo z:Option AV):mJ P H t (.str s) lo z=jo P t (.str s) lo z:=rfl
theorem Od(H:Hp)(t:TypeId)(s:List (List AV))(lo z:Option AV):mJ P H t (.lst s) lo z=jo P t (.lst s) lo z:=rfl
theorem Oe(H:Hp)(t:TypeId)(r o n z:Nat)(lo Z:Option AV):mJ P H t (.sl r o n z) lo Z=jo P t (.sl r o n z) lo Z:=rfl
theorem Of(H:Hp)(t:TypeId)(lo z:Option AV):mJ P H t .nilS lo z=jo P t .nilS lo z:=rfl
theorem BN(n k:Nat):(n == n+(k+1))=false:=aw
theorem BO(n k:Nat):(n+(k+1) == n)=false:=aw
theorem Fz(n a b:Nat):(n+a == n+b)=(a == b):=by
 by_cases h:a=b
 .simp[h]
 .have i:(a == b)=false:=by simpa using h
  rw[i];simp;omega
end
attribute [irreducible] ay zbu za9 gH
theorem Sx.beq_refl:∀a:Sx,Sx.beq a a=true
 | .var i=>by simp[Sx.beq]
 | .lit n=>by simp[Sx.beq]
 | .bin o k a b=>by simp[Sx.beq,Sx.beq_refl a,Sx.beq_refl b]
 | .conv k a=>by simp[Sx.beq,Sx.beq_refl a]
mutual
theorem AV.beq_refl:∀a:AV,AV.beq a a=true
 | .int k n=>by simp[AV.beq]
 | .sx k e=>by simp[AV.beq,Sx.beq_refl]
 | .bool b=>by simp[AV.beq]
 | .str s=>by simp[AV.beq]
 | .nilP=>rfl
 | .nilM=>rfl
 | .nilF=>rfl
 | .nilS=>rfl
 | .ptr r o=>by simp[AV.beq]
 | .iptr Z=>by simp only[AV.beq];exact zdL Z
 | .sl r o l z=>by simp[AV.beq]
 | .lst M=>by simp only[AV.beq];exact FA M
 | .map r=>by simp[AV.beq]
 | .clo f Z=>by simp only[AV.beq,zdL Z,gm];simp
 | .agg Z=>by simp only[AV.beq];exact zdL Z
 | .tup Z=>by simp only[AV.beq];exact zdL Z
theorem zdL:∀a:List AV,zdh a a=true
 |[]=>rfl
 |a::l=>by simp only[zdh,AV.beq_refl a,zdL l,gm]
theorem FA:∀a:List (List AV),rJ a a=true
 |[]=>rfl
 |a::l=>by simp only[rJ,zdL a,FA l,gm]
end
def se(o:Oper):Bool:=pI o.op||oH o.op
def x6(o:Oper):Bool:=se o||(match o.op with|.store ..|.mapUpdate ..=>true |_=>false)
def x7(ops:List Oper):Bool:=
 oB ops&&(List.range ops.length).all (fun i=>match ops[i]? with|some o=>if Nat.blt (i+1) ops.length then se o else x6 o|none=>true)&&(mO ops).all (fun p=>Nat.blt p.2 ops.length)
section
variable {P:Program} {cfg:Cfg} {f N:Nat}
theorem BP{ih:Task->Res}{I:List Oper}:∀{l:List Oper}{E E':au}{H H':Hp},iX P cfg ih f N I l E H=.done .normal E' H'->∃rs,iu P cfg ih f N I l E H=.done E' H' rs
 |[],E,E',H,H',h=>by
  simp only[iX,Res.done.injEq,kK]at h;obtain⟨rfl,rfl⟩:=h;exact⟨[],rfl⟩
 |o::l,E,E',H,H',h=>by
  rw[vi]at h;simp only[iu];cases O:zc6 I E o with
  |true=>
   rw[O]at h;simp only[]at h⊢;cases Z:zcd P cfg ih f E H o.op with
   |val v H1=>
    rw[Z]at h;simp only[]at h⊢;cases hp:ei N E o.dst v with
    |none=>rw[hp]at h;simp[zdc]at h
    |some E1=>
     rw[hp]at h;simp only[zdc]at h;obtain⟨rs,hr⟩:=BP h;exact⟨_,by simp only[zdA,hr,mM];rfl⟩
   |done _ _ _=>rw[Z]at h;simp at h
   |fail=>rw[Z]at h;simp at h
  |false=>
   rw[O]at h;simp only[]at h⊢;cases hp:ei N E o.dst zcb with
   |none=>rw[hp]at h;simp[zdc]at h
   |some E1=>
    rw[hp]at h;simp only[zdc]at h;obtain⟨rs,hr⟩:=BP h;exact⟨_,by simp only[zdA,hr,mM];rfl⟩
theorem BQ{ih:Task->Res}{E:au}{o:Oper}{v:AV}{H H':Hp}(j:se o=true)(h:zcd P cfg ih f E H o.op=.val v H'):H'=H:=by
 unfold se at j;rw[pK]at j;rcases j with j|j
 .have hn:∀c,o.op≠.call c:=fun c e=>by
   rw[e]at j;simp only[pI,zcN]at j;split at j
   .rename_i i;split at i<;>simp at i
   .simp at j
  exact(Bc j ((r0 hn).1 h)).1
 .exact Be j h
theorem Og{ih:Task->Res}{E:au}{o:Oper}{v:AV}{H H':Hp}(j:x6 o=true)(h:zcd P cfg ih f E H o.op=.val v H'):H.next<=H'.next:=by
 unfold x6 at j;rw[pK]at j;rcases j with j|j
 .rw[BQ j h];exact aA _
 .obtain⟨Z,O,I,Y,K,guard⟩:=o;simp only[]at j h;cases O<;>simp only[cK]at j
  case store t a x=>
   simp only[zcd,cH,wZ]at h;split at h
   .split at h
    .rename_i J;simp only[zcP,Res.val.injEq]at h;obtain⟨rfl,rfl⟩:=h;unfold lV at J;split at J
     .split at J
      .split at J
       .simp only[az]at J;rw[<-J];exact aA _
       .simp at J
      .simp at J
     .simp at J
    .simp[zcP]at h
   .simp[zcP]at h
  case mapUpdate t m k x=>
   simp only[zcd,cH,xe]at h;split at h
   .split at h
    .rename_i J;simp only[zcP,Res.val.injEq]at h;obtain⟨rfl,rfl⟩:=h;unfold zdu at J;split at J
     .split at J
      .split at J
       .split at J
        .simp only[az]at J;rw[<-J];exact aA _
        .simp only[az]at J;rw[<-J];exact aA _
        .simp at J
       .simp at J
      .simp at J
     .simp at J
    .simp[zcP]at h
   .simp[zcP]at h
theorem Oh{ih ih':Task->Res}{f':FuncId}{E:au}{op:Op}{H:Hp}(j:oH op=true):zcd P cfg ih f E H op=zcd P cfg ih' f' E H op:=by
 cases op<;>simp only[oH,zcN,cK]at j<;>try rfl
 rename_i c;simp only[zcd,qA];cases hc:c.callee with
 |value g=>rw[hc]at j;simp at j
 |invoke g m=>rfl
 |builtin b=>
  rw[hc]at j;simp only[];cases b<;>simp only[cK]at j<;>rfl
theorem Oi{ih:Task->Res}{ops:List Oper}{E E':au}{H H':Hp}(g:x7 ops=true)(h:iX P cfg ih f N ops ops E H=.done .normal E' H'):li P cfg ih f N ops E H=.done .normal E' H':=by
 unfold x7 at g;simp only[bT,iB,nP]at g;obtain⟨⟨U,O⟩,M⟩:=g;obtain⟨rs,hr⟩:=BP h;have I:=uV hr;have hlen:=Ba I;obtain⟨_,z2⟩:=Bb I;have Z:∀(i:Nat) o,ops[i]?=some o->i+1<ops.length->se o=true:=fun i o V J=>by
  have:=O i ac;rw[V]at this;simp only[show Nat.blt (i+1) ops.length=true by simpa [i4]using J,cZ]at this;exact this
 have z:∀i,i+1<=ops.length->zbE rs H' i=H:=fun i=>by
  induction i with
  |zero=>intro _;exact z2
  |succ i ih=>
   intro J;have hri:=aY (show i<rs.length by omega);obtain⟨o,V,ha⟩:=rZ I hri;have h1:=ih ac;have h2:zbE rs H' (i+1)=zbE rs H' i:=by
    cases hd:(rs[i]' ac).did with
    |true=>exact BQ (Z i o V ac) (ha.yes hd)
    |false=>exact(ha.no hd).2
   rw[h2,h1]
 unfold li;rw[U];simp only[hr];have L:rK P cfg (mO ops) rs H'=true:=by
  unfold rK;simp only[bT,iB];refine⟨fun r hm=>?_,fun p hpm=>?_⟩
  .obtain⟨i,J⟩:=Bj.1 hm;obtain⟨o,V,ha⟩:=rZ I J;have C:i<ops.length:=(ej.1 V).1;rw[ha.eH,ha.eH'];refine Nat.ble_eq_true_of_le ?_;cases hd:r.did with
   |false=>rw[(ha.no hd).2];exact aA _
   |true=>
    by_cases K:i+1<ops.length
    .rw[BQ (Z i o V K) (ha.yes hd)];exact aA _
    .have:=O i C;rw[V]at this;have hb:Nat.blt (i+1) ops.length=false:=by
      cases hx:Nat.blt (i+1) ops.length with
      |false=>rfl
      |true=>exact(K (by simpa [i4]using hx)).elim
     simp only[hb,cK,de]at this;exact Og this (ha.yes hd)
  .have hm:p.2<ops.length:=by simpa [i4]using M p hpm
   cases hrp:rs[p.1]? with
   |none=>rfl
   |some r=>
    obtain⟨o,V,ha⟩:=rZ I hrp;have C:p.1<ops.length:=(ej.1 V).1;simp only[];cases hd:r.did with
    |false=>rfl
    |true=>
     simp only[mc,jv];have hH:r.H=zbE rs H' p.2:=by rw[ha.eH,z _ ac,z _ ac]
     unfold zdd;cases j:zcN r.o.op with
     |calm=>rfl
     |act=>rfl
     |read=>
      simp only[];have Y:=ha.yes hd;rw[<-ha.eE,<-ha.eo,<-ha.eH,hH]at Y;rw[Oh (P:=P) (cfg:=cfg) (f:=f) (ih:=ih) (ih':=fun _=>.fail) (f':=0) (by simp[oH,j])]at Y;rw[Y];simp only[AV.beq_refl]
     |make=>
      exfalso;rw[ha.eo]at j;by_cases K:p.1+1<ops.length
      .have:=Z _ o V K;unfold se pI oH at this;rw[j]at this;simp at this
      .have m:=O p.1 C;rw[V]at m;have hb:Nat.blt (p.1+1) ops.length=false:=by
        cases hx:Nat.blt (p.1+1) ops.length with
        |false=>rfl
        |true=>exact(K (by simpa [i4]using hx)).elim
       simp only[hb,cK,de,x6,se,pI,oH,j,Bool.or_self,jv]at m;split at m
       .rename_i Y;rw[Y]at j;simp[zcN]at j
       .rename_i Y;rw[Y]at j;simp[zcN]at j
       .simp at m
 rw[L]
theorem zbu.draw{id:Nat}{ops:List Oper}{l:List SOp}{E:au}{H:Hp}{Q:AX->au->Hp->Prop}(C:cfg.plan f id=.text)(I:x7 ops=true)(J:zbt N ops ops=some l)
 (h:∀K:au->Hp->Prop,(∀E' H',Q .normal E' H'->K E' H')->ay P cfg f l E H K):zbu P cfg f N (.draw id ops) E H Q:=by
 unfold zbu;intro code hc;cases code with
 |region Z j draw=>
  cases draw with
  |false=>simp only[aD,zby]at hc;split at hc<;>simp at hc
  |true=>
   simp only[aD,SC.draw.injEq]at hc;obtain⟨rfl,rfl⟩:=hc;obtain⟨n,E',H',i,g⟩:=ay.run J (h (Q .normal) fun _ _ h=>h);refine⟨_,_,_,zbZ.draw (n:=n) (r:=.done .normal E' H') ?_ aw,g⟩;rw[C];simp only[jq];exact Oi I i
 |_=>simp[aD]at hc
end
section
variable {P:Program} {H:Hp} {t u e:TypeId} {keep:Bool}
theorem Oj{D:BinOp->Sx->Sx->Option Bool}{t:TypeId}{s u:List UInt8}:zcq P D .leq t (.str s) (.str u)=some (.bool (qu s u||s == u)):=rfl
theorem sf{r o n z s:Nat}{cs:List AV}{imm:Nat}{tip:Bool}(C:H.get r=some (.cells cs imm tip))(K:((cs.drop o).take (n*s)).length=n*s):zcM H s (.sl r o n z)=some (n,(cs.drop o).take (n*s)):=by
 unfold zcM;simp only[C,K,cZ]
theorem BR{k:IntKind}{s:List UInt8}{m:Nat}(M:P.underlying t=some .string)(V:m<=s.length):jo P t (.str s) none (some (.int k (m:Int)))=some (.str (s.take m)):=by
 show jo P t (.str s) none (some (.int k (Int.ofNat m)))=_;simp[jo,M,zcS,V]
theorem FB{k:IntKind}{s:List UInt8}{m:Nat}(M:P.underlying t=some .string)(V:m<=s.length):jo P t (.str s) (some (.int k (m:Int))) none=some (.str (s.drop m)):=by
 show jo P t (.str s) (some (.int k (Int.ofNat m))) none=_;simp only[jo,M,zcS];rw[aj ⟨V,aA _⟩];rw[eI aw]
theorem append_nil{s b n:Nat}{z M:List AV}{x:AV}(Y:P.underlying t=some (.slice e))(J:zbh P e=some s)(o:zb3 P e=some b)(j:zbU P e=some z)(V:jp P u=true)
 (I:zcM H s x=some (n+1,M)) (Z:M.all AV.one=true) (U:z.length=s) (h1:(n+1)*b<=zcw) (h2:n+1<=zcw) :
 zcg P keep H t u .nilS x=some (.sl H.next 0 (n+1) s,H.alloc (.cells M 0 true)):=by
 simp only[zcg,Y,J,o,j,V,I,Z,U,oK,cZ,gR,zdB,h1,h2]
theorem Ok{s b n r len:Nat}{z M cs:List AV}{x:AV}(Y:P.underlying t=some (.slice e))(J:zbh P e=some s)(o:zb3 P e=some b)(j:zbU P e=some z)(O:jp P u=true)
 (I:zcM H s x=some (n+1,M)) (Z:M.all AV.one=true) (U:z.length=s) (C:H.get r=some (.cells cs 0 true)) (K:cs.length=len*s) (h1:(len+(n+1))*b<=zcw) (h2:len+(n+1)<=zcw) :
 zcg P false H t u (.sl r 0 len s) x=some (.sl H.next 0 (len+(n+1)) s,(H.kill r).alloc (.cells (cs++M) 0 true)):=by
 have V:gR false H s (.sl r 0 len s)=H:=by
  unfold gR;simp only[C,b4];have:Nat.blt (len*s) cs.length=false:=by
   cases o:Nat.blt (len*s) cs.length with
   |false=>rfl
   |true=>rw[i4]at o;omega
  simp[this]
 simp only[zcg,Y,J,o,j,O,I,Z,U,oK,cZ,V,zdB,C,h1,h2,b4,K,dg,qI,fT,cK,de]
end
theorem Ol(E:au):zaZ E (.const (.slice none 0 0))=some .nilS:=rfl
theorem FC(E:au):zaZ E (.const (.map none))=some .nilM:=rfl
structure Rc where
 op:Op
 did:Bool
 E:au
 H:Hp
 val:AV
 H':Hp
section
variable (P:Program) (cfg:Cfg) (f:FuncId)
def dG:List SOp->List Rc->au->Hp->(List Rc->au->Hp->Prop)->Prop
 |[],tr,E,H,Q=>Q tr E H
 |o::l,tr,E,H,Q=>match o.g with
  |none=>gH P cfg f o.op E H fun v H'=>dG l (tr++[⟨o.op,true,E,H,v,H'⟩]) (za1 E o.d v) H' Q
  |some (s,b)=>(E.at s=.bool b/\gH P cfg f o.op E H fun v H'=>dG l (tr++[⟨o.op,true,E,H,v,H'⟩]) (za1 E o.d v) H' Q)\/((E.at s=.bool (!b)\/E.at s=zcb)/\dG l (tr++[⟨o.op,false,E,H,zcb,H⟩]) (za1 E o.d zcb) H Q)
def vo(O:List Rc)(H':Hp)(m:Nat):Hp:=match O[m]? with
 |some r=>r.H
 |none=>H'
def oL(r:Rc)(H:Hp):Prop:=match zcN r.op with
 | .read=>∃m,zcd P cfg (fun _=>.fail) 0 r.E H r.op=.val r.val m
 | .make=>∃b,H.get r.H.next=some b/\r.H'.get r.H.next=some b
 |_=>True
def x8(O:List Rc)(H':Hp)(i m:Nat):Prop:=match O[i]? with
 |some r=>r.did=true->oL P cfg r (vo O H' m)
 |none=>True
def pP(m:List (Nat×Nat))(O:List Rc)(H':Hp):Prop:=(∀r∈O,r.H.next<=r.H'.next)/\∀p∈m,x8 P cfg O H' p.1 p.2
end
section
variable {P:Program} {cfg:Cfg} {f N:Nat}
def sg(r:Rec):Rc:=⟨r.o.op,r.did,r.E,r.H,r.val,r.H'⟩
theorem HB.beq_refl(b:HB):HB.beq b b=true:=by
 cases b with
 |cells a i t=>simp[HB.beq,zdL]
 |map j=>simp[HB.beq,zdL]
theorem dG.run{Z:List Oper}{Q:List Rc->au->Hp->Prop}:∀{l:List Oper}{r:List SOp}{O:List Rc}{E:au}{H:Hp},zbt N Z l=some r->dG P cfg f r O E H Q ->
 ∃n E' H' rs,iu P cfg (zb2 P cfg n) f N Z l E H=.done E' H' rs/\Q (O++rs.map sg) E' H'
 |[],r,O,E,H,hs,I=>by
  simp only[zbt,az]at hs;subst hs;unfold dG at I;exact⟨0,E,H,[],rfl,xl⟩
 |o::l,r,O,E,H,hs,I=>by
  simp only[zbt]at hs;split at hs
  .rename_i d g r' z h2 j;simp only[az]at hs;subst hs;obtain⟨zbM,w2⟩:=Fe (E:=E) h2;have V:∀k k',k<=k'->zcc (zb2 P cfg k) (zb2 P cfg k'):=fun k k' hk t ht=>BI hk ht;have U:gH P cfg f o.op E H (fun v H'=>dG P cfg f r' (O++[⟨o.op,true,E,H,v,H'⟩]) (za1 E d v) H' Q)->zc6 Z E o=true->∃n E' H' rs,iu P cfg (zb2 P cfg n) f N Z (o::l) E H=.done E' H' rs/\Q (O++rs.map sg) E' H':=fun J Y=>by
    unfold gH at J;obtain⟨n,v,H1,g1,g2⟩:=J;obtain⟨m,i,L,rs,M,K⟩:=dG.run j g2;refine⟨max n m,i,L,⟨o,true,E,H,v,H1⟩::rs,?_,by simpa [sg]using K⟩;simp only[iu,Y];rw[xT (V n (max n m) (xR _ _)) (by rw[g1];simp),g1];simp only[xX z,zdA];rw[xV (V m (max n m) (xS _ _)) (by rw[M];simp),M];rfl
   unfold dG at I;cases C:g with
   |none=>
    rw[C]at I;exact U I (zbM C)
   |some sb=>
    obtain⟨s,b⟩:=sb;rw[C]at I;simp only[]at I;rcases I with⟨e,I⟩|⟨e,I⟩
    .exact U I ((w2 s b C).1 e)
    .obtain⟨m,i,L,rs,M,K⟩:=dG.run j I;refine⟨m,i,L,⟨o,false,E,H,zcb,H⟩::rs,?_,by simpa [sg]using K⟩;simp only[iu,(w2 s b C).2 e,xX z,zdA,M,mM]
  .simp at hs
theorem Om{m:List (Nat×Nat)}{rs:List Rec}{H':Hp}(h:pP P cfg m (rs.map sg) H'):rK P cfg m rs H'=true:=by
 unfold rK;simp only[bT,iB];refine⟨fun r V=>Nat.ble_eq_true_of_le (h.1 _ (kJ.2 ⟨r,V,rfl⟩)),fun p hp=>?_⟩;have J:=h.2 p hp;have z:vo (rs.map sg) H' p.2=zbE rs H' p.2:=by
  unfold vo zbE;rw[gl];cases rs[p.2]? <;>rfl
 unfold x8 at J;rw[gl,z]at J;cases hr:rs[p.1]? with
 |none=>rfl
 |some r=>
  rw[hr]at J;simp only[i8,sg]at J;simp only[pK,r8];cases hd:r.did with
  |false=>exact .inl rfl
  |true=>
   right
   have J:=J hd;unfold oL at J;unfold zdd;cases j:zcN r.o.op with
   |calm=>rfl
   |act=>rfl
   |read=>
    rw[j]at J;simp only[]at J⊢;obtain⟨Z,g⟩:=J;rw[g];exact AV.beq_refl _
   |make=>
    rw[j]at J;simp only[]at J⊢;obtain⟨b,i,g⟩:=J;rw[i,g];exact HB.beq_refl b
theorem FD{id:Nat}{ops z:List Oper}{l:List SOp}{m:List (Nat×Nat)}{E:au}{H:Hp}{Q:AX->au->Hp->Prop}
 (C:∀ih:Task->Res,jq P cfg ih f N E H (cfg.plan f id) ops=li P cfg ih f N z E H) (I:oB z=true) (J:zbt N z z=some l) (U:mO z=m)
 (h:∀K:List Rc->au->Hp->Prop,(∀O E' H',pP P cfg m O H'->Q .normal E' H'->K O E' H')->dG P cfg f l [] E H K):zbu P cfg f N (.draw id ops) E H Q:=by
 unfold zbu;intro code hc;cases code with
 |region V j draw=>
  cases draw with
  |false=>simp only[aD,zby]at hc;split at hc<;>simp at hc
  |true=>
   simp only[aD,SC.draw.injEq]at hc;obtain⟨rfl,rfl⟩:=hc;obtain⟨n,E',H',rs,i,g,Y⟩:=dG.run J (h (fun O E' H'=>pP P cfg m O H'/\Q .normal E' H') fun _ _ _ h Z=>⟨h,Z⟩);refine⟨_,_,_,zbZ.draw (n:=n) (r:=.done .normal E' H') ?_ aw,Y⟩;rw[C];unfold li;rw[I];simp only[i];rw[U,Om rR]
 |_=>simp[aD]at hc
theorem On{id:Nat}{ops:List Oper}{l:List SOp}{m:List (Nat×Nat)}{E:au}{H:Hp}{Q:AX->au->Hp->Prop}(C:cfg.plan f id=.text)(I:oB ops=true)(J:zbt N ops ops=some l)(U:mO ops=m)
 (h:∀K:List Rc->au->Hp->Prop,(∀O E' H',pP P cfg m O H'->Q .normal E' H'->K O E' H')->dG P cfg f l [] E H K):zbu P cfg f N (.draw id ops) E H Q:=
 FD (fun ih=>by rw[C];rfl) I J U h
theorem Oo{id:Nat}{ops:List Oper}{Z:List Nat}{l:List SOp}{m:List (Nat×Nat)}{E:au}{H:Hp}{Q:AX->au->Hp->Prop}(C:cfg.plan f id=.perm Z)(o:uB Z ops=true)(I:oB (gh Z ops)=true)(J:zbt N (gh Z ops) (gh Z ops)=some l)(U:mO (gh Z ops)=m)
 (h:∀K:List Rc->au->Hp->Prop,(∀O E' H',pP P cfg m O H'->Q .normal E' H'->K O E' H')->dG P cfg f l [] E H K):zbu P cfg f N (.draw id ops) E H Q:=
 FD (fun ih=>by rw[C];simp only[jq,o]) I J U h
theorem dG.nil{O:List Rc}{E:au}{H:Hp}{Q:List Rc->au->Hp->Prop}(h:Q O E H):dG P cfg f [] O E H Q:=h
theorem dG.step{d:Nat}{op:Op}{l:List SOp}{O:List Rc}{E:au}{H:Hp}{Q:List Rc->au->Hp->Prop}
 (h:ay P cfg f [⟨some d,op,none⟩] E H fun E' H'=>dG P cfg f l (O++[⟨op,true,E,H,E'.at d,H'⟩]) E' H' Q):dG P cfg f (⟨some d,op,none⟩::l) O E H Q:=by
 unfold ay at h;simp only[]at h;unfold dG;refine gH.mono (fun v H' I=>?_) h;unfold ay at I;have:(za1 E (some d) v).at d=v:=EZ;rw[this]at I;exact I
def cr:=@dG.step
theorem zcX{op:Op}{l:List SOp}{O:List Rc}{E:au}{H:Hp}{Q:List Rc->au->Hp->Prop}(j:zcN op=.act)
 (h:ay P cfg f [⟨none,op,none⟩] E H fun E' H'=>∀v,dG P cfg f l (O++[⟨op,true,E,H,v,H'⟩]) E' H' Q):dG P cfg f (⟨none,op,none⟩::l) O E H Q:=by
 unfold ay at h;simp only[]at h;unfold dG;refine gH.mono (fun v H' I=>?_) h;unfold ay at I;exact I v
theorem dG.guard{d:Option Nat}{op:Op}{s:Nat}{b t:Bool}{l:List SOp}{O:List Rc}{E:au}{H:Hp}{Q:List Rc->au->Hp->Prop}(h:E.at s=.bool t)(h1:t=b->dG P cfg f (⟨d,op,none⟩::l) O E H Q)(h2:t=!b->dG P cfg f l (O++[⟨op,false,E,H,zcb,H⟩]) (za1 E d zcb) H Q):
 dG P cfg f (⟨d,op,some (s,b)⟩::l) O E H Q:=by
 unfold dG;simp only[];by_cases e:t=b
 .left
  refine⟨by rw[h,e],?_⟩;have:=h1 e;unfold dG at this;exact this
 .right
  have C:t=!b:=by cases t<;>cases b<;>simp_all
  exact⟨.inl (by rw[h,C]),h2 C⟩
theorem Oq{t:TypeId}{x:Operand}{E:au}{zbk m H:Hp}{v a:AV}(h:zaZ E x=some a)(h1:ip P H t a=some v):oL P cfg ⟨.load t x,true,E,zbk,v,m⟩ H:=
 ⟨H,by simp only[zcd,cH,ut,Go.Ab.ret,h,h1,zcP]⟩
theorem Ot{t:TypeId}{x y:Operand}{ok:Bool}{E:au}{zbk m H:Hp}{v a b:AV}(h:zaZ E x=some a)(h1:zaZ E y=some b)(h2:jd P H t a b ok=some v):oL P cfg ⟨.lookup t x y ok,true,E,zbk,v,m⟩ H:=
 ⟨H,by simp only[zcd,cH,uz,Go.Ab.ret,h,h1,h2,zcP]⟩
theorem Ou{t:TypeId}{x:Operand}{E:au}{zbk m H:Hp}{v a:AV}(h:zaZ E x=some a)(h1:zbO P H t a=some v):oL P cfg ⟨.call ⟨.builtin .len,#[x],#[t]⟩,true,E,zbk,v,m⟩ H:=
 ⟨H,by simp only[zcd,qA,zcY,h,oA,h1]⟩
theorem Ov{s t:TypeId}{x:Operand}{E:au}{zbk m H:Hp}{v a:AV}(h:zaZ E x=some a)(h1:zdg P H s t a=some v):oL P cfg ⟨.convert s t x,true,E,zbk,v,m⟩ H:=
 ⟨H,by simp only[zcd,cH,uu,Go.Ab.ret,h,h1,zcP]⟩
theorem Ow{t:TypeId}{x:Operand}{lo z:Option Operand}{V M:Option AV}{E:au}{zbk m H:Hp}{v a:AV}(h:zaZ E x=some a)(h1:zdb E lo=some V)(h2:zdb E z=some M)(Z:mJ P H t a V M=some v):oL P cfg ⟨.slice t x lo z none,true,E,zbk,v,m⟩ H:=
 ⟨H,by simp only[zcd,cH,uy,Go.Ab.ret,h,h1,h2,Z,zcP]⟩
theorem Oz{op:Op}{E:au}{zbk m H:Hp}{v:AV}{b:HB}(j:zcN op=.make)(h:H.get zbk.next=some b)(h2:m.get zbk.next=some b):oL P cfg ⟨op,true,E,zbk,v,m⟩ H:=by
 unfold oL;rw[j];exact⟨b,h,h2⟩
theorem OA{O:List Rc}{H':Hp}{i m:Nat}{r:Rc}(h:O[i]?=some r)(J:r.did=true->oL P cfg r (vo O H' m)):x8 P cfg O H' i m:=by
 unfold x8;rw[h];exact J
end
section
variable {P:Program} {cfg:Cfg} {f:FuncId} {l:List SOp} {E:au} {H:Hp} {Q:au -> Hp -> Prop} {d:Nat} {x y:Operand} {ts:Array TypeId} {k k':IntKind} {a b:Int}
theorem ay.min2(h:zaZ E x=some (.int k a))(h1:zaZ E y=some (.int k' b))(j:ay P cfg f l (T.set E d (some (.int k (min a b)))) H Q):ay P cfg f (⟨some d,.call ⟨.builtin .min,#[x,y],ts⟩,none⟩::l) E H Q:=
 xZ (c:=⟨.builtin .min,#[x,y],ts⟩) rfl (vs:=[.int k a,.int k' b]) BF (v:=.int k (min a b)) (by
  simp only[oA,qz,mm,cK,de,oG]
  congr 3;omega) j
theorem ay.max2(h:zaZ E x=some (.int k a))(h1:zaZ E y=some (.int k' b))(j:ay P cfg f l (T.set E d (some (.int k (max a b)))) H Q):ay P cfg f (⟨some d,.call ⟨.builtin .max,#[x,y],ts⟩,none⟩::l) E H Q:=
 xZ (c:=⟨.builtin .max,#[x,y],ts⟩) rfl (vs:=[.int k a,.int k' b]) BF (v:=.int k (max a b)) (by
  simp only[oA,qz,mm,cZ,oG]
  congr 3;omega) j
end
attribute [irreducible] dG
abbrev zbP(l:List (List UInt8)):AV:=.lst (l.map fun s=>[.str s])
abbrev x9(l:List Int):AV:=.lst (l.map fun n=>[.int .i64 n])
def str(s:String):List UInt8:=s.toUTF8.data.toList
inductive Ex where
 |mk (kind:Int) (n:Int) (name:List UInt8) (op:Int) (kids:List Ex)
def Ex.kind:Ex->Int|.mk x _ _ _ _=>x
def Ex.n:Ex->Int|.mk _ x _ _ _=>x
def Ex.name:Ex->List UInt8|.mk _ _ x _ _=>x
def Ex.op:Ex->Int|.mk _ _ _ x _=>x
def Ex.kids:Ex->List Ex|.mk _ _ _ _ x=>x
mutual
def Ex.cells:Ex->List AV
 | .mk zbp C z Z o=>[.int .i64 zbp,.int .i64 C,.str z,.int .i64 Z,.lst (ya o)]
def ya:List Ex->List (List AV)
 |[]=>[]
 |x::xs=>Ex.cells x::ya xs
end
theorem FE:∀l:List Ex,ya l=l.map Ex.cells
 |[]=>rfl
 |x::xs=>by rw[ya,FE xs];rfl
theorem Ex.cells_eq(x:Ex):x.cells=[.int .i64 x.kind,.int .i64 x.n,.str x.name,.int .i64 x.op,.lst (x.kids.map Ex.cells)]:=by
 cases x;simp only[Ex.cells,FE,Ex.kind,Ex.n,Ex.name,Ex.op,Ex.kids]
def mh:=@Ex.cells_eq
theorem Ex.clen(x:Ex):x.cells.length=5:=pM
def sh:=@Ex.clen
theorem Ex.c0(x:Ex):x.cells[0]?=some (.int .i64 x.kind):=pM
theorem Ex.c1(x:Ex):x.cells[1]?=some (.int .i64 x.n):=pM
theorem Ex.c2(x:Ex):x.cells[2]?=some (.str x.name):=pM
theorem Ex.c3(x:Ex):x.cells[3]?=some (.int .i64 x.op):=pM
theorem Ex.c4(x:Ex):x.cells[4]?=some (.lst (x.kids.map Ex.cells)):=pM
theorem Ex.whole(x:Ex):zbJ 5 x.cells=some (.agg x.cells):=by unfold zbJ;rw[mh];rfl
theorem Ex.one(x:Ex):x.cells.all AV.one=true:=pM
def sk:=@Ex.one
inductive St where
 |mk (kind:Int) (name:List UInt8) (to:List UInt8) (n:Int) (at_:Ex) (value:Ex) (args:List Ex) (thn:List St) (els:List St)
def St.kind:St->Int|.mk x _ _ _ _ _ _ _ _=>x
def St.name:St->List UInt8|.mk _ x _ _ _ _ _ _ _=>x
def St.to:St->List UInt8|.mk _ _ x _ _ _ _ _ _=>x
def St.n:St->Int|.mk _ _ _ x _ _ _ _ _=>x
def St.at_:St->Ex|.mk _ _ _ _ x _ _ _ _=>x
def St.value:St->Ex|.mk _ _ _ _ _ x _ _ _=>x
def St.args:St->List Ex|.mk _ _ _ _ _ _ x _ _=>x
def St.thn:St->List St|.mk _ _ _ _ _ _ _ x _=>x
def St.els:St->List St|.mk _ _ _ _ _ _ _ _ x=>x
mutual
def St.cells:St->List AV
 | .mk zbp Z z Y o C O V U=>[.int .i64 zbp,.str Z,.str z,.int .i64 Y,.int .i64 o.kind,.int .i64 o.n,.str o.name,.int .i64 o.op,.lst (o.kids.map Ex.cells),.int .i64 C.kind,.int .i64 C.n,.str C.name,.int .i64 C.op,.lst (C.kids.map Ex.cells),.lst (O.map Ex.cells),.lst (vq V),.lst (vq U)]
def vq:List St->List (List AV)
 |[]=>[]
 |x::xs=>St.cells x::vq xs
end
theorem FF:∀l:List St,vq l=l.map St.cells
 |[]=>rfl
 |x::xs=>by rw[vq,FF xs];rfl
theorem St.cells_eq(x:St):x.cells=[.int .i64 x.kind,.str x.name,.str x.to,.int .i64 x.n,.int .i64 x.at_.kind,.int .i64 x.at_.n,.str x.at_.name,.int .i64 x.at_.op,.lst (x.at_.kids.map Ex.cells),.int .i64 x.value.kind,.int .i64 x.value.n,.str x.value.name,.int .i64 x.value.op,.lst (x.value.kids.map Ex.cells),.lst (x.args.map Ex.cells),.lst (x.thn.map St.cells),.lst (x.els.map St.cells)]:=by
 cases x;simp only[St.cells,FF,St.kind,St.name,St.to,St.n,St.at_,St.value,St.args,St.thn,St.els]
def qM:=@St.cells_eq
theorem St.clen(x:St):x.cells.length=17:=iE
theorem St.c0(x:St):x.cells[0]?=some (.int .i64 x.kind):=iE
theorem St.c1(x:St):x.cells[1]?=some (.str x.name):=iE
theorem St.c2(x:St):x.cells[2]?=some (.str x.to):=iE
theorem St.c3(x:St):x.cells[3]?=some (.int .i64 x.n):=iE
theorem St.c4(x:St):x.cells[4]?=some (.int .i64 x.at_.kind):=iE
theorem St.c5(x:St):x.cells[5]?=some (.int .i64 x.at_.n):=iE
theorem St.c6(x:St):x.cells[6]?=some (.str x.at_.name):=iE
theorem St.c7(x:St):x.cells[7]?=some (.int .i64 x.at_.op):=iE
theorem St.c8(x:St):x.cells[8]?=some (.lst (x.at_.kids.map Ex.cells)):=iE
theorem St.c9(x:St):x.cells[9]?=some (.int .i64 x.value.kind):=iE
theorem St.c10(x:St):x.cells[10]?=some (.int .i64 x.value.n):=iE
theorem St.c11(x:St):x.cells[11]?=some (.str x.value.name):=iE
theorem St.c12(x:St):x.cells[12]?=some (.int .i64 x.value.op):=iE
theorem St.c13(x:St):x.cells[13]?=some (.lst (x.value.kids.map Ex.cells)):=iE
theorem St.c14(x:St):x.cells[14]?=some (.lst (x.args.map Ex.cells)):=iE
theorem St.c15(x:St):x.cells[15]?=some (.lst (x.thn.map St.cells)):=iE
theorem St.c16(x:St):x.cells[16]?=some (.lst (x.els.map St.cells)):=iE
theorem St.whole(x:St):zbJ 17 x.cells=some (.agg x.cells):=by unfold zbJ;rw[qM];rfl
theorem St.one(x:St):x.cells.all AV.one=true:=iE
theorem OB(x:St):zbJ 5 (x.cells.drop 4)=some (.agg x.at_.cells):=by unfold zbJ;rw[qM,mh];rfl
theorem St.part_value(x:St):zbJ 5 (x.cells.drop 9)=some (.agg x.value.cells):=by unfold zbJ;rw[qM,mh];rfl
structure Fu where
 name:List UInt8
 params:List (List UInt8)
 locals:List (List UInt8)
 body:List St
 value:Ex
def Fu.cells(x:Fu):List AV:=[.str x.name,zbP x.params,zbP x.locals,.lst (x.body.map St.cells),.int .i64 x.value.kind,.int .i64 x.value.n,.str x.value.name,.int .i64 x.value.op,.lst (x.value.kids.map Ex.cells)]
theorem Fu.cells_eq(x:Fu):x.cells=[.str x.name,zbP x.params,zbP x.locals,.lst (x.body.map St.cells),.int .i64 x.value.kind,.int .i64 x.value.n,.str x.value.name,.int .i64 x.value.op,.lst (x.value.kids.map Ex.cells)]:=rfl
def vr:=@Fu.cells_eq
theorem Fu.clen(x:Fu):x.cells.length=9:=nR
theorem Fu.c0(x:Fu):x.cells[0]?=some (.str x.name):=nR
theorem Fu.c1(x:Fu):x.cells[1]?=some (zbP x.params):=nR
theorem Fu.c2(x:Fu):x.cells[2]?=some (zbP x.locals):=nR
theorem Fu.c3(x:Fu):x.cells[3]?=some (.lst (x.body.map St.cells)):=nR
theorem Fu.c4(x:Fu):x.cells[4]?=some (.int .i64 x.value.kind):=nR
theorem Fu.c5(x:Fu):x.cells[5]?=some (.int .i64 x.value.n):=nR
theorem Fu.c6(x:Fu):x.cells[6]?=some (.str x.value.name):=nR
theorem Fu.c7(x:Fu):x.cells[7]?=some (.int .i64 x.value.op):=nR
theorem Fu.c8(x:Fu):x.cells[8]?=some (.lst (x.value.kids.map Ex.cells)):=nR
theorem Fu.whole(x:Fu):zbJ 9 x.cells=some (.agg x.cells):=by unfold zbJ;rw[vr];rfl
theorem Fu.one(x:Fu):x.cells.all AV.one=true:=nR
theorem Fu.part_value(x:Fu):zbJ 5 (x.cells.drop 4)=some (.agg x.value.cells):=by unfold zbJ;rw[vr,mh];rfl
structure Ar where
 name:List UInt8
 len:Int
def Ar.cells(x:Ar):List AV:=[.str x.name,.int .i64 x.len]
theorem Ar.cells_eq(x:Ar):x.cells=[.str x.name,.int .i64 x.len]:=rfl
theorem Ar.clen(x:Ar):x.cells.length=2:=xO
theorem Ar.c0(x:Ar):x.cells[0]?=some (.str x.name):=xO
theorem Ar.c1(x:Ar):x.cells[1]?=some (.int .i64 x.len):=xO
theorem Ar.whole(x:Ar):zbJ 2 x.cells=some (.agg x.cells):=by unfold zbJ;rw[Ar.cells_eq];rfl
theorem Ar.one(x:Ar):x.cells.all AV.one=true:=xO
structure Pr where
 arrays:List Ar
 funcs:List Fu
def Pr.cells(x:Pr):List AV:=[.lst (x.arrays.map Ar.cells),.lst (x.funcs.map Fu.cells)]
theorem Pr.cells_eq(x:Pr):x.cells=[.lst (x.arrays.map Ar.cells),.lst (x.funcs.map Fu.cells)]:=rfl
theorem Pr.clen(x:Pr):x.cells.length=2:=xP
theorem Pr.c0(x:Pr):x.cells[0]?=some (.lst (x.arrays.map Ar.cells)):=xP
theorem Pr.c1(x:Pr):x.cells[1]?=some (.lst (x.funcs.map Fu.cells)):=xP
theorem Pr.whole(x:Pr):zbJ 2 x.cells=some (.agg x.cells):=by unfold zbJ;rw[Pr.cells_eq];rfl
theorem Pr.one(x:Pr):x.cells.all AV.one=true:=xP
structure Tk where
 kind:Int
 text:List UInt8
 at_:Int
def Tk.cells(x:Tk):List AV:=[.int .i64 x.kind,.str x.text,.int .i64 x.at_]
theorem Tk.cells_eq(x:Tk):x.cells=[.int .i64 x.kind,.str x.text,.int .i64 x.at_]:=rfl
theorem Tk.clen(x:Tk):x.cells.length=3:=ve
theorem Tk.c0(x:Tk):x.cells[0]?=some (.int .i64 x.kind):=ve
theorem Tk.c1(x:Tk):x.cells[1]?=some (.str x.text):=ve
theorem Tk.c2(x:Tk):x.cells[2]?=some (.int .i64 x.at_):=ve
theorem Tk.whole(x:Tk):zbJ 3 x.cells=some (.agg x.cells):=by unfold zbJ;rw[Tk.cells_eq];rfl
theorem Tk.one(x:Tk):x.cells.all AV.one=true:=ve
structure Nd where
 op:Int
 imm:Int
 kids:List Int
def Nd.cells(x:Nd):List AV:=[.int .i64 x.op,.int .i64 x.imm,x9 x.kids]
theorem Nd.cells_eq(x:Nd):x.cells=[.int .i64 x.op,.int .i64 x.imm,x9 x.kids]:=rfl
theorem Nd.clen(x:Nd):x.cells.length=3:=vh
theorem Nd.c0(x:Nd):x.cells[0]?=some (.int .i64 x.op):=vh
theorem Nd.c1(x:Nd):x.cells[1]?=some (.int .i64 x.imm):=vh
theorem Nd.c2(x:Nd):x.cells[2]?=some (x9 x.kids):=vh
theorem Nd.whole(x:Nd):zbJ 3 x.cells=some (.agg x.cells):=by unfold zbJ;rw[Nd.cells_eq];rfl
theorem Nd.one(x:Nd):x.cells.all AV.one=true:=vh
structure Gr where
 name:List UInt8
 params:Int
 nodes:List Nd
 value:Int
 state:Int
def Gr.cells(x:Gr):List AV:=[.str x.name,.int .i64 x.params,.lst (x.nodes.map Nd.cells),.int .i64 x.value,.int .i64 x.state]
theorem Gr.cells_eq(x:Gr):x.cells=[.str x.name,.int .i64 x.params,.lst (x.nodes.map Nd.cells),.int .i64 x.value,.int .i64 x.state]:=rfl
theorem Gr.clen(x:Gr):x.cells.length=5:=sa
theorem Gr.c0(x:Gr):x.cells[0]?=some (.str x.name):=sa
theorem Gr.c1(x:Gr):x.cells[1]?=some (.int .i64 x.params):=sa
theorem Gr.c2(x:Gr):x.cells[2]?=some (.lst (x.nodes.map Nd.cells)):=sa
theorem Gr.c3(x:Gr):x.cells[3]?=some (.int .i64 x.value):=sa
theorem Gr.c4(x:Gr):x.cells[4]?=some (.int .i64 x.state):=sa
theorem Gr.whole(x:Gr):zbJ 5 x.cells=some (.agg x.cells):=by unfold zbJ;rw[Gr.cells_eq];rfl
theorem Gr.one(x:Gr):x.cells.all AV.one=true:=sa
structure Un where
 arrays:List Ar
 funcs:List Gr
def Un.cells(x:Un):List AV:=[.lst (x.arrays.map Ar.cells),.lst (x.funcs.map Gr.cells)]
theorem Un.cells_eq(x:Un):x.cells=[.lst (x.arrays.map Ar.cells),.lst (x.funcs.map Gr.cells)]:=rfl
theorem Un.clen(x:Un):x.cells.length=2:=xQ
theorem Un.c0(x:Un):x.cells[0]?=some (.lst (x.arrays.map Ar.cells)):=xQ
theorem Un.c1(x:Un):x.cells[1]?=some (.lst (x.funcs.map Gr.cells)):=xQ
theorem Un.whole(x:Un):zbJ 2 x.cells=some (.agg x.cells):=by unfold zbJ;rw[Un.cells_eq];rfl
theorem Un.one(x:Un):x.cells.all AV.one=true:=xQ
end Go.Ab
namespace Go.Proofs.Ytpbcimfiofmoeaa
set_option maxRecDepth 20000
open Go Go.Ab
theorem fit:Fit Try.prog:=Fit.of ah
def pls:List (Nat×Nat×Plan):=[(6,3,(.perm [0,1,4,2,3,5])),
 (18,11,(.perm [0,1,2,4,5,6,7,8,10,11,12,13,16,3,9,14,15,17])),
 (51,14,(.perm [0,1,2,4,5,7,9,3,6,8,10])),
 (93,23,(.perm [0,1,2,3,4,5,6,7,9,10,11,12,13,14,8,15,16,17,18,19])),
 (93,24,(.perm [0,1,2,3,4,5,6,8,9,10,11,12,13,7,14,15,16])),
 (129,23,(.perm [0,2,3,4,5,6,7,1,8,9]))]
end Go.Proofs.Ytpbcimfiofmoeaa
