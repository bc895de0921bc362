/- Parts: AbFuel, AbEnv, AbWp, AbWd, AbWt, Tree, Pls. -/
import Derived.IntWalk
import Derived.KernelRfl
import Derived.Test.YtpbcimfiofmoeaaGreatRCD
import Derived.Test.YtpbcimfiofmoeaaGreatRows
set_option linter.unusedSimpArgs false
set_option linter.unusedVariables false
set_option linter.unusedSectionVars false
set_option linter.defProp false
set_option maxHeartbeats 32000000
namespace Go.Ab
set_option maxRecDepth 20000
open Go
theorem xp{P:Prop}(h:P:=by rw[hr];simp):P:=h
theorem Dn{P:Prop}(h:P:=by simp only[zfV,h,h1]):P:=h
theorem pV{P:Prop}(h:P:=by simp[jS,rM,zf7]):P:=h
theorem zI{P:Prop}(h:P:=by unfold zeR;rw[h]):P:=h
theorem HM{P:Prop}(h:P:=by simp only[zd4,Dr,beq_self_eq_true,cond_true]):P:=h
theorem rY{P:Prop}(h:P:=by rw[Ex.cells_eq];rfl):P:=h
theorem jv{P:Prop}(h:P:=by rw[St.cells_eq];rfl):P:=h
theorem oQ{P:Prop}(h:P:=by rw[Fu.cells_eq];rfl):P:=h
theorem zJ{P:Prop}(h:P:=by rw[Ar.cells_eq];rfl):P:=h
theorem zK{P:Prop}(h:P:=by rw[Pr.cells_eq];rfl):P:=h
theorem xq{P:Prop}(h:P:=by rw[Tk.cells_eq];rfl):P:=h
theorem xr{P:Prop}(h:P:=by rw[Nd.cells_eq];rfl):P:=h
theorem tF{P:Prop}(h:P:=by rw[Gr.cells_eq];rfl):P:=h
theorem zL{P:Prop}(h:P:=by rw[Un.cells_eq];rfl):P:=h
theorem aC{P:Prop}(h:P:=by kernel_rfl):P:=h
def zM:=@Nat.le_max_left
def zN:=@Nat.le_max_right
def ve:=@cond_false
def gG:=@Int.eq_ofNat_of_zero_le
def l5:=@Bool.and_true
def oR:=@and_self
end Go.Ab
namespace Go.Ab
set_option maxRecDepth 20000
open Go
def zfh(ih ih':Task->Res):Prop:=∀t,ih t≠.fail->ih' t=ih t
section
variable {P:Program} {cfg:Cfg} {ih ih':Task -> Res}
theorem zO(h:zfh ih ih'){f:FuncId}{E:aG}{H:Hp}{op:Op}(hn:zfk P cfg ih f E H op≠.fail):zfk P cfg ih' f E H op=zfk P cfg ih f E H op:=by
 unfold zfk at *;split
 .rename_i c;unfold qB at *;split
  .rename_i g hg;simp only[hg]at hn;split
   .rename_i k cap vs h1 h2;simp only[h1,h2]at hn;exact h _ hn
   .rfl
  .rfl
  .rfl
 .rfl
theorem xu{f N:Nat}{all:List Oper}{o:Oper}{l:List Oper}{E:aG}{H:Hp}:js P cfg ih f N all (o::l) E H=match zf6 all E o with
 |true=>match zfk P cfg ih f E H o.op with
  | .val v H=>zga (js P cfg ih f N all l) H (fD N E o.dst v)
  |_=>.fail
 |false=>zga (js P cfg ih f N all l) H (fD N E o.dst zff):=rfl
theorem zP(h:zfh ih ih'){f N:Nat}{all:List Oper}:∀{l:List Oper}{E:aG}{H:Hp},js P cfg ih f N all l E H≠.fail->js P cfg ih' f N all l E H=js P cfg ih f N all l E H
 |[],_,_,_=>rfl
 |o::l,E,H,hn=>by
  rw[xu]at hn⊢;rw[xu];cases hw:zf6 all E o with
  |true=>
   simp only[hw]at hn⊢;cases ho:zfk P cfg ih f E H o.op with
   |fail=>simp[ho]at hn
   |done x E1 H1=>simp[ho]at hn
   |val v H1=>
    rw[zO h (by rw[ho];simp),ho];simp only[ho]at hn⊢;cases hp:fD N E o.dst v with
    |none=>rfl
    |some E1=>
     rw[hp]at hn;exact zP h hn
  |false=>
   simp only[hw]at hn⊢;cases hp:fD N E o.dst zff with
   |none=>rfl
   |some E1=>
    rw[hp]at hn;exact zP h hn
theorem zQ(h:zfh ih ih'){f N:Nat}{all:List Oper}:∀{l:List Oper}{E:aG}{H:Hp},jd P cfg ih f N all l E H≠.fail->jd P cfg ih' f N all l E H=jd P cfg ih f N all l E H
 |[],_,_,_=>rfl
 |o::l,E,H,hn=>by
  have hcons:∀{r:Rec}{x:ResD},nA r x≠.fail->x≠.fail:=fun{r x} hx e=>hx (by rw[e];rfl);simp only[jd]at hn⊢;cases hw:zf6 all E o with
  |true=>
   simp only[hw]at hn⊢;cases ho:zfk P cfg ih f E H o.op with
   |fail=>simp[ho]at hn
   |done x E1 H1=>simp[ho]at hn
   |val v H1=>
    rw[zO h (by rw[ho];simp),ho];simp only[ho]at hn⊢;cases hp:fD N E o.dst v with
    |none=>rfl
    |some E1=>
     rw[hp]at hn;have:=zQ h (hcons hn);simp only[zgq,this]
  |false=>
   simp only[hw]at hn⊢;cases hp:fD N E o.dst zff with
   |none=>rfl
   |some E1=>
    rw[hp]at hn;have:=zQ h (hcons hn);simp only[zgq,this]
theorem HN(h:zfh ih ih'){f N:Nat}{ops:List Oper}{E:aG}{H:Hp}(hn:lV P cfg ih f N ops E H≠.fail):lV P cfg ih' f N ops E H=lV P cfg ih f N ops E H:=by
 unfold lV at *;split
 .rename_i hc;simp only[hc]at hn;cases hr:jd P cfg ih f N ops ops E H with
  |fail=>simp[hr]at hn
  |done E1 H1 rs=>rw[zQ h xp,hr]
 .rfl
theorem Qe{ops:List Oper}{r1 r2 r1' r2':Res}(h1:r1≠.fail->r1'=r1)(h2:r2≠.fail->r2'=r2)(hn:tj ops r1 r2≠.fail):tj ops r1' r2'=tj ops r1 r2:=by
 have g1:r1≠.fail:=fun e=>hn (by rw[e];rfl);have g2:r2≠.fail:=fun e=>hn (by rw[e];unfold tj;split<;>simp_all);rw[h1 g1,h2 g2]
theorem Do(h:zfh ih ih'){f N:Nat}{E:aG}{H:Hp}:∀{pl:Plan}{ops:List Oper},zf8 P cfg ih f N E H pl ops≠.fail->zf8 P cfg ih' f N E H pl ops=zf8 P cfg ih f N E H pl ops
 | .text,ops,hn=>HN h hn
 | .perm ord,ops,hn=>by
   simp only[zf8]at *;split
   .rename_i hp;simp only[hp]at hn;exact HN h hn
   .rfl
 | .split p q a b,ops,hn=>by
   simp only[zf8]at *;split
   .rfl
   .rename_i hp;simp only[hp]at hn;exact Qe (fun h1=>Do h h1) (fun h2=>Do h h2) hn
theorem Dp(h:zfh ih ih'){f:FuncId}{args:List AV}{H:Hp}(hn:nE P ih f args H≠.fail):nE P ih' f args H=nE P ih f args H:=by
 unfold nE at *;split
 .rename_i fn hf;simp only[hf]at hn;split
  .rename_i c hb;simp only[hb]at hn;cases hr:ih (.code f (max fn.ntmps args.length) c (zd8 0 args (tk (max fn.ntmps args.length))) H)with
   |fail=>simp[hr]at hn
   |val v H1=>rw[h _ xp,hr]
   |done x E1 H1=>rw[h _ xp,hr]
  .rfl
 .rfl
theorem Qf(h:zfh ih ih'){f:FuncId}{args:List AV}{H:Hp}(hn:nG P cfg ih f args H≠.fail):nG P cfg ih' f args H=nG P cfg ih f args H:=by
 unfold nG at *;split
 .rename_i hi;simp only[hi]at hn;unfold wR at *;split
  .rename_i asx H' hs;simp only[hs]at hn;split
   .rfl
   .rename_i h1;simp only[h1]at hn;exact Dp h hn
  .rename_i hs;simp only[hs]at hn;exact Dp h hn
 .rename_i hi;simp only[hi]at hn;exact Dp h hn
theorem HO(h:zfh ih ih'){f N:Nat}{b:Code}{r r':Res}(hr:r≠.fail->r'=r)(hn:nF ih f N b r≠.fail):nF ih' f N b r'=nF ih f N b r:=by
 cases r with
 |fail=>simp[nF]at hn
 |val v H1=>rw[hr aK];rfl
 |done x E1 H1=>
  rw[hr aK];cases x with
  |normal=>exact h _ hn
  |exit id=>rfl
  |ret=>rfl
theorem Qg(h:zfh ih ih'){t:Task}(hn:step P cfg ih t≠.fail):step P cfg ih' t=step P cfg ih t:=by
 cases t with
 |call f args H=>
  simp only[step]at *;split
  .rfl
  .rename_i hc;simp only[hc]at hn;have hany:nG P cfg ih f args H≠.fail:=fun e=>hn (by rw[e];unfold uO;split<;>simp_all);rw[Qf h hany]
 |code f N c E H=>
  cases c with
  |region id ops draw=>cases draw with
   |false=>exact zP h hn
   |true=>exact Do h hn
  |seq a b=>exact HO h (h _) hn
  |loop a=>exact HO h (h _) hn
  |cond x a b=>
   simp only[step]at *;unfold tl at *;split
   .rename_i hc;simp only[hc]at hn;exact h _ hn
   .rename_i hc;simp only[hc]at hn;exact h _ hn
   .rfl
  |block id a=>
   simp only[step]at *;cases hr:ih (.code f N a E H)with
   |fail=>simp[hr,zgo]at hn
   |val v H1=>rw[h _ xp,hr]
   |done x E1 H1=>rw[h _ xp,hr]
  |_=>rfl
theorem HP:∀n,zfh (ze8 P cfg n) (ze8 P cfg (n+1))
 |0=>fun _ hn=>(hn rfl).elim
 |n+1=>fun _ hn=>Qg (HP n) hn
theorem Dq{n m:Nat}(hm:n<=m){t:Task}(hn:ze8 P cfg n t≠.fail):ze8 P cfg m t=ze8 P cfg n t:=by
 induction m with
 |zero=>rw[show n=0 by omega]
 |succ m ih=>
  by_cases h:n=m+1
  .rw[h]
  .have:=ih ac;rw[HP m t (by rw[this];exact hn),this]
theorem zR{n m:Nat}(hm:n<=m){t:Task}{r:Res}(h:ze8 P cfg n t=r)(hr:r≠.fail):ze8 P cfg m t=r:=by
 rw[Dq hm (by rw[h];exact hr),h]
def ze1(P:Program)(cfg:Cfg)(t:Task)(r:Res):Prop:=r≠.fail/\∃n,ze8 P cfg n t=r
theorem ze1.step{t:Task}{r:Res}(hr:r≠.fail){n:Nat}(h:Ab.step P cfg (ze8 P cfg n) t=r):ze1 P cfg t r:=⟨hr,n+1,h⟩
def jN:=@ze1.step
section
variable {f N id:Nat} {a b:Code} {x:Operand} {E E1:aG} {H H1:Hp} {r:Res} {ex:AX}
theorem ze1.seq(h1:ze1 P cfg (.code f N a E H) (.done .normal E1 H1))(h2:ze1 P cfg (.code f N b E1 H1) r):ze1 P cfg (.code f N (.seq a b) E H) r:=by
 obtain⟨_,n,h1⟩:=h1;obtain⟨hr,m,h2⟩:=h2;refine jN hr (n:=max n m) ?_;show nF (ze8 P cfg (max n m)) f N b (ze8 P cfg (max n m) (.code f N a E H))=r;rw[zR (zM n m) h1 aK];exact zR (zN n m) h2 hr
theorem HQ(h1:ze1 P cfg (.code f N a E H) (.done ex E1 H1))(hx:ex≠.normal):ze1 P cfg (.code f N (.seq a b) E H) (.done ex E1 H1):=by
 obtain⟨hr,n,h1⟩:=h1;refine jN hr (n:=n) ?_;show nF (ze8 P cfg n) f N b (ze8 P cfg n (.code f N a E H))=_;rw[h1];cases ex with
 |normal=>exact(hx rfl).elim
 |exit id=>rfl
 |ret=>rfl
theorem ze1.loop(h1:ze1 P cfg (.code f N a E H) (.done .normal E1 H1))(h2:ze1 P cfg (.code f N (.loop a) E1 H1) r):ze1 P cfg (.code f N (.loop a) E H) r:=by
 obtain⟨_,n,h1⟩:=h1;obtain⟨hr,m,h2⟩:=h2;refine jN hr (n:=max n m) ?_;show nF (ze8 P cfg (max n m)) f N (.loop a) (ze8 P cfg (max n m) (.code f N a E H))=r;rw[zR (zM n m) h1 aK];exact zR (zN n m) h2 hr
theorem HR(h1:ze1 P cfg (.code f N a E H) (.done ex E1 H1))(hx:ex≠.normal):ze1 P cfg (.code f N (.loop a) E H) (.done ex E1 H1):=by
 obtain⟨hr,n,h1⟩:=h1;refine jN hr (n:=n) ?_;show nF (ze8 P cfg n) f N (.loop a) (ze8 P cfg n (.code f N a E H))=_;rw[h1];cases ex with
 |normal=>exact(hx rfl).elim
 |exit id=>rfl
 |ret=>rfl
theorem Qh(hx:zd0 E x=some (.bool true))(h:ze1 P cfg (.code f N a E H) r):ze1 P cfg (.code f N (.cond x a b) E H) r:=by
 obtain⟨hr,n,h⟩:=h;refine jN hr (n:=n) ?_;show tl (ze8 P cfg n) f N x a b E H=r;unfold tl;rw[hx];exact h
theorem Qi(hx:zd0 E x=some (.bool false))(h:ze1 P cfg (.code f N b E H) r):ze1 P cfg (.code f N (.cond x a b) E H) r:=by
 obtain⟨hr,n,h⟩:=h;refine jN hr (n:=n) ?_;show tl (ze8 P cfg n) f N x a b E H=r;unfold tl;rw[hx];exact h
theorem ze1.block(h:ze1 P cfg (.code f N a E H) (.done (.exit id) E1 H1)):ze1 P cfg (.code f N (.block id a) E H) (.done .normal E1 H1):=by
 obtain⟨hr,n,h⟩:=h;refine jN aK (n:=n) ?_;show zgo id (ze8 P cfg n (.code f N a E H))=_;rw[h];simp[zgo]
theorem Qj(h:ze1 P cfg (.code f N a E H) (.done .normal E1 H1)):ze1 P cfg (.code f N (.block id a) E H) (.done .normal E1 H1):=by
 obtain⟨hr,n,h⟩:=h;refine jN aK (n:=n) ?_;show zgo id (ze8 P cfg n (.code f N a E H))=_;rw[h];rfl
theorem Qk(h:ze1 P cfg (.code f N a E H) (.done .ret E1 H1)):ze1 P cfg (.code f N (.block id a) E H) (.done .ret E1 H1):=by
 obtain⟨hr,n,h⟩:=h;refine jN aK (n:=n) ?_;show zgo id (ze8 P cfg n (.code f N a E H))=_;rw[h];rfl
theorem Ql{id':Nat}(hne:Nat.beq id' id=false)(h:ze1 P cfg (.code f N a E H) (.done (.exit id') E1 H1)):ze1 P cfg (.code f N (.block id a) E H) (.done (.exit id') E1 H1):=by
 obtain⟨hr,n,h⟩:=h;refine jN aK (n:=n) ?_;show zgo id (ze8 P cfg n (.code f N a E H))=_;rw[h];simp only[zgo,hne]
theorem ze1.skip:ze1 P cfg (.code f N .skip E H) (.done .normal E H):=jN aK (n:=0) rfl
theorem ze1.exit:ze1 P cfg (.code f N (.exit id) E H) (.done (.exit id) E H):=jN aK (n:=0) rfl
theorem ze1.ret:ze1 P cfg (.code f N .ret E H) (.done .ret E H):=jN aK (n:=0) rfl
theorem ze1.region{ops:Array Oper}{n:Nat}(h:js P cfg (ze8 P cfg n) f N ops.toList ops.toList E H=r)(hr:r≠.fail):ze1 P cfg (.code f N (.region id ops false) E H) r:=jN hr (n:=n) h
theorem ze1.draw{ops:Array Oper}{n:Nat}(h:zf8 P cfg (ze8 P cfg n) f N E H (cfg.plan f id) ops.toList=r)(hr:r≠.fail):ze1 P cfg (.code f N (.region id ops true) E H) r:=jN hr (n:=n) h
theorem ze1.call{args:List AV}{fn:Func}{c:Code}{v:AV}(hk:cfg.call f args=none)(hi:cfg.ice f=false)(hz:cfg.froz f=false)(hf:P.funcs[f]?=some fn)(hb:fn.body=some c)
 (h:ze1 P cfg (.code f (max fn.ntmps args.length) c (zd8 0 args (tk (max fn.ntmps args.length))) H) (.done ex E1 H1)) (hx:ex=.normal\/ex=.ret) (hres:uN P fn.results.toList E1 H1=.val v H1):ze1 P cfg (.call f args H) (.val v H1):=by
 obtain⟨_,n,h⟩:=h;refine jN aK (n:=n) ?_;simp only[Ab.step,hk,hi,hz,nG,uO];unfold nE;simp only[hf,hb,h];rcases hx with rfl|rfl<;>exact hres
end
end
noncomputable section
open Go
def ov(L:List (Nat×AV))(d:Nat->AV):Nat->AV:=
 List.rec (motive:=fun _=>Nat->AV) d (fun p _ go k=>jG (Nat.beq p.1 k) p.2 (go k)) L
end
structure SOp where
 d:Option Nat
 op:Op
 g:Option (Nat×Bool)
inductive SC where
 |skip|ret|bad
 |ops (l:List SOp)
 |draw (id:Nat) (l:List Oper)
 |seq (a b:SC)
 |cond (x:Operand) (a b:SC)
 |block (id:Nat) (a:SC)
 |loop (a:SC)
 |exit (id:Nat)
def zeu(N:Nat):Option Tmp->Option (Option Nat)
 |none=>some none
 |some d=>match Nat.blt d N with
  |true=>some (some d)
  |false=>none
def zev(all:List Oper):Option (Nat×Bool)->Option (Option (Nat×Bool))
 |none=>some none
 |some (j,b)=>match (all[j]?).bind (·.dst)with
  |some d=>some (some (d,b))
  |none=>none
def zel(N:Nat)(all:List Oper):List Oper->Option (List SOp)
 |[]=>some []
 |o::l=>match zeu N o.dst,zev all o.guard,zel N all l with
  |some d,some g,some r=>some (⟨d,o.op,g⟩::r)
  |_,_,_=>none
def zen(l:Option (List SOp)):SC:=match l with
 |some l=>.ops l
 |none=>.bad
def aS(N:Nat):Code->SC
 | .skip=>.skip
 | .region id ops draw=>match draw with
   |false=>zen (zel N ops.toList ops.toList)
   |true=>.draw id ops.toList
 | .seq a b=>.seq (aS N a) (aS N b)
 | .cond x a b=>.cond x (aS N a) (aS N b)
 | .block id a=>.block id (aS N a)
 | .loop a=>.loop (aS N a)
 | .exit id=>.exit id
 | .ret=>.ret
 |_=>.bad
section
variable (P:Program) (cfg:Cfg) (f N:Nat)
def zd5(g:FuncId)(args:List AV)(H:Hp)(Q:AV->Hp->Prop):Prop:=∃v H',ze1 P cfg (.call g args H) (.val v H')/\Q v H'
def iF(op:Op)(E:aG)(H:Hp)(K:AV->Hp->Prop):Prop:=∃n v H',zfk P cfg (ze8 P cfg n) f E H op=.val v H'/\K v H'
noncomputable def zd4(E:aG):Option Nat->AV->aG
 |some d,v=>T.set E d (some v)
 |none,_=>E
def aO:List SOp->aG->Hp->(aG->Hp->Prop)->Prop
 |[],E,H,Q=>Q E H
 |o::l,E,H,Q=>match o.g with
  |none=>iF P cfg f o.op E H fun v H'=>aO l (zd4 E o.d v) H' Q
  |some (s,b)=>(E.at s=.bool b/\iF P cfg f o.op E H fun v H'=>aO l (zd4 E o.d v) H' Q)\/((E.at s=.bool (!b)\/E.at s=zff)/\aO l (zd4 E o.d zff) H Q)
def zex(c:SC)(E:aG)(H:Hp)(Q:AX->aG->Hp->Prop):Prop:=∀code,aS N code=c->∃x E' H',ze1 P cfg (.code f N code E H) (.done x E' H')/\Q x E' H'
end
section
variable {P:Program} {cfg:Cfg} {f N:Nat}
theorem iF.mono{op:Op}{E:aG}{H:Hp}{K K':AV->Hp->Prop}(h:∀v H',K v H'->K' v H')(hk:iF P cfg f op E H K):iF P cfg f op E H K':=by
 obtain⟨n,v,H',h1,h2⟩:=hk;exact⟨n,v,H',h1,h v H' h2⟩
theorem zex.mono{c:SC}{E:aG}{H:Hp}{Q Q':AX->aG->Hp->Prop}(h:∀x E H,Q x E H->Q' x E H)(hw:zex P cfg f N c E H Q):zex P cfg f N c E H Q':=fun code hc=>by
 obtain⟨x,E',H',h1,h2⟩:=hw code hc;exact⟨x,E',H',h1,h _ _ _ h2⟩
theorem zex.skip{E:aG}{H:Hp}{Q:AX->aG->Hp->Prop}(h:Q .normal E H):zex P cfg f N .skip E H Q:=fun code hc=>by
 cases code with
 |skip=>exact⟨_,_,_,ze1.skip,h⟩
 |region id ops draw=>cases draw<;>simp only[aS,zen,reduceCtorEq]at hc;split at hc<;>simp at hc
 |_=>simp[aS]at hc
theorem zex.ret{E:aG}{H:Hp}{Q:AX->aG->Hp->Prop}(h:Q .ret E H):zex P cfg f N .ret E H Q:=fun code hc=>by
 cases code with
 |ret=>exact⟨_,_,_,ze1.ret,h⟩
 |region id ops draw=>cases draw<;>simp only[aS,zen,reduceCtorEq]at hc;split at hc<;>simp at hc
 |_=>simp[aS]at hc
theorem zex.exit{id:Nat}{E:aG}{H:Hp}{Q:AX->aG->Hp->Prop}(h:Q (.exit id) E H):zex P cfg f N (.exit id) E H Q:=fun code hc=>by
 cases code with
 |exit id'=>simp only[aS,SC.exit.injEq]at hc;subst hc;exact⟨_,_,_,ze1.exit,h⟩
 |region id ops draw=>cases draw<;>simp only[aS,zen,reduceCtorEq]at hc;split at hc<;>simp at hc
 |_=>simp[aS]at hc
def lA(Q:AX->aG->Hp->Prop)(K:aG->Hp->Prop):AX->aG->Hp->Prop
 | .normal,E,H=>K E H
 | .exit id,E,H=>Q (.exit id) E H
 | .ret,E,H=>Q .ret E H
theorem zex.seq{a b:SC}{E:aG}{H:Hp}{Q:AX->aG->Hp->Prop}(h:zex P cfg f N a E H (lA Q fun E H=>zex P cfg f N b E H Q)):zex P cfg f N (.seq a b) E H Q:=fun code hc=>by
 cases code with
 |seq p q=>
  simp only[aS,SC.seq.injEq]at hc;obtain⟨x,E1,H1,h1,h2⟩:=h p hc.1;cases x with
  |normal=>
   obtain⟨x,E2,H2,h3,h4⟩:=h2 q hc.2;exact⟨x,E2,H2,ze1.seq h1 h3,h4⟩
  |exit id=>exact⟨_,_,_,HQ h1 aK,h2⟩
  |ret=>exact⟨_,_,_,HQ h1 aK,h2⟩
 |region id ops draw=>cases draw<;>simp only[aS,zen,reduceCtorEq]at hc;split at hc<;>simp at hc
 |_=>simp[aS]at hc
def am:=@zex.seq
theorem zex.cond{x:Operand}{a b:SC}{E:aG}{H:Hp}{Q:AX->aG->Hp->Prop}{t:Bool}(hx:zd0 E x=some (.bool t))(h1:t=true->zex P cfg f N a E H Q)(h2:t=false->zex P cfg f N b E H Q):
 zex P cfg f N (.cond x a b) E H Q:=fun code hc=>by
 cases code with
 |cond y p q=>
  simp only[aS,SC.cond.injEq]at hc;obtain⟨rfl,h3,h4⟩:=hc;cases t with
  |true=>
   obtain⟨x,E1,H1,g1,g2⟩:=h1 rfl p h3;exact⟨x,E1,H1,Qh hx g1,g2⟩
  |false=>
   obtain⟨x,E1,H1,g1,g2⟩:=h2 rfl q h4;exact⟨x,E1,H1,Qi hx g1,g2⟩
 |region id ops draw=>cases draw<;>simp only[aS,zen,reduceCtorEq]at hc;split at hc<;>simp at hc
 |_=>simp[aS]at hc
def tG(id:Nat)(Q:AX->aG->Hp->Prop):AX->aG->Hp->Prop
 | .normal,E,H=>Q .normal E H
 | .exit id',E,H=>if id'=id then Q .normal E H else Q (.exit id') E H
 | .ret,E,H=>Q .ret E H
theorem zex.block{id:Nat}{a:SC}{E:aG}{H:Hp}{Q:AX->aG->Hp->Prop}(h:zex P cfg f N a E H (tG id Q)):zex P cfg f N (.block id a) E H Q:=fun code hc=>by
 cases code with
 |block id' p=>
  simp only[aS,SC.block.injEq]at hc;obtain⟨rfl,h3⟩:=hc;obtain⟨x,E1,H1,g1,g2⟩:=h p h3;cases x with
  |normal=>exact⟨_,_,_,Qj g1,g2⟩
  |ret=>exact⟨_,_,_,Qk g1,g2⟩
  |exit k=>
   simp only[tG]at g2;split at g2
   .rename_i e;subst e;exact⟨_,_,_,ze1.block g1,g2⟩
   .rename_i e;exact⟨_,_,_,Ql (by cases hb:Nat.beq k id' with|true=>exact(e (iV hb)).elim|false=>rfl) g1,g2⟩
 |region id ops draw=>cases draw<;>simp only[aS,zen,reduceCtorEq]at hc;split at hc<;>simp at hc
 |_=>simp[aS]at hc
def aA:=@zex.block
theorem zex.loop{a:SC}{Q:AX->aG->Hp->Prop}(I:Nat->aG->Hp->Prop)(h:∀n E H,I n E H->zex P cfg f N a E H (lA Q fun E H=>∃m,m<n/\I m E H)){n:Nat}{E:aG}{H:Hp}(h0:I n E H):zex P cfg f N (.loop a) E H Q:=by
 induction n using Nat.strongRecOn generalizing E H with
 |_ n ih=>
  intro code hc;cases code with
  |loop p=>
   simp only[aS,SC.loop.injEq]at hc;obtain⟨x,E1,H1,g1,g2⟩:=h n E H h0 p hc;cases x with
   |normal=>
    obtain⟨m,hm,hI⟩:=g2;obtain⟨x,E2,H2,g3,g4⟩:=ih m hm hI (.loop p) (by simp[aS,hc]);exact⟨x,E2,H2,ze1.loop g1 g3,g4⟩
   |exit id=>exact⟨_,_,_,HR g1 aK,g2⟩
   |ret=>exact⟨_,_,_,HR g1 aK,g2⟩
  |region id ops draw=>cases draw<;>simp only[aS,zen,reduceCtorEq]at hc;split at hc<;>simp at hc
  |_=>simp[aS]at hc
theorem Qm{a:SC}{Q:AX->aG->Hp->Prop}(I:Nat->aG->Hp->Prop)(N':Nat)(h:∀i E H,i<=N'->I i E H->zex P cfg f N a E H (lA Q fun E H=>i<N'/\I (i+1) E H)){E:aG}{H:Hp}(h0:I 0 E H):zex P cfg f N (.loop a) E H Q:=
 zex.loop (fun n E H=>n<=N'/\I (N'-n) E H) (fun n E H hI=>zex.mono (fun x E' H' hq=>by
  cases x with
  |normal=>
   obtain⟨h1,h2⟩:=hq;have:=hI.1;refine⟨n-1,ac,ac,?_⟩;rw[show N'-(n-1)=N'-n+1 by omega];exact h2
  |exit id=>exact hq
  |ret=>exact hq) (h (N'-n) E H (Nat.sub_le _ _) hI.2)) (n:=N') ⟨aM _,by rw[qJ];exact h0⟩
theorem zS{N:Nat}{dst:Option Tmp}{d:Option Nat}(h:zeu N dst=some d)(E:aG)(v:AV):fD N E dst v=some (zd4 E d v):=by
 cases dst with
 |none=>simp only[zeu,aQ]at h;subst h;rfl
 |some t=>
  simp only[zeu]at h;split at h
  .rename_i hb;simp only[aQ]at h;subst h;simp only[fD,hb,zd4]
  .simp at h
theorem HS{all:List Oper}{E:aG}{o:Oper}{g:Option (Nat×Bool)}(h:zev all o.guard=some g):
 (g=none->zf6 all E o=true)/\∀s b,g=some (s,b)->(E.at s=.bool b->zf6 all E o=true)/\(E.at s=.bool (!b)\/E.at s=zff->zf6 all E o=false):=by
 unfold zf6;cases hg:o.guard with
 |none=>
  rw[hg]at h;simp only[zev,aQ]at h;subst h;exact⟨fun _=>rfl,fun s b e=>by simp at e⟩
 |some jb=>
  obtain⟨j,b⟩:=jb;rw[hg]at h;simp only[zev]at h;split at h
  .rename_i d hd;simp only[aQ]at h;subst h;refine⟨fun e=>by simp at e,fun s b' e=>?_⟩;simp only[di]at e;obtain⟨rfl,rfl⟩:=e;simp only[y2,hd];refine⟨fun e=>by rw[e];simp,fun e=>by rcases e with e|e<;>rw[e]<;>simp[zff]⟩
  .simp at h
theorem aO.run{all:List Oper}{Q:aG->Hp->Prop}:∀{l:List Oper}{r:List SOp}{E:aG}{H:Hp},zel N all l=some r->aO P cfg f r E H Q ->
 ∃n E' H',js P cfg (ze8 P cfg n) f N all l E H=.done .normal E' H'/\Q E' H'
 |[],r,E,H,hs,hq=>by
  simp only[zel,aQ]at hs;subst hs;exact⟨0,E,H,rfl,hq⟩
 |o::l,r,E,H,hs,hq=>by
  simp only[zel]at hs;split at hs
  .rename_i d g r' h1 h2 h3;simp only[aQ]at hs;subst hs;obtain⟨zfp,w2⟩:=HS (E:=E) h2;have hop:∀{K:Prop},iF P cfg f o.op E H (fun v H'=>aO P cfg f r' (zd4 E d v) H' Q)->zf6 all E o=true->∃n E' H',js P cfg (ze8 P cfg n) f N all (o::l) E H=.done .normal E' H'/\Q E' H':=fun{K} hw hwant=>by
    obtain⟨n,v,H1,g1,g2⟩:=hw;obtain⟨m,E2,H2,g3,g4⟩:=aO.run h3 g2;refine⟨max n m,E2,H2,?_,g4⟩;have hle:∀k k',k<=k'->zfh (ze8 P cfg k) (ze8 P cfg k'):=fun k k' hk t ht=>Dq hk ht;rw[xu,hwant];simp only[];rw[zO (hle n (max n m) (zM _ _)) (by rw[g1];simp),g1];simp only[zS h1,zga];rw[zP (hle m (max n m) (zN _ _)) (by rw[g3];simp),g3]
   unfold aO at hq;cases hg:g with
   |none=>
    rw[hg]at hq;exact hop (K:=True) hq (zfp hg)
   |some sb=>
    obtain⟨s,b⟩:=sb;rw[hg]at hq;simp only[]at hq;rcases hq with⟨e,hq⟩|⟨e,hq⟩
    .exact hop (K:=True) hq ((w2 s b hg).1 e)
    .obtain⟨m,E2,H2,g3,g4⟩:=aO.run h3 hq;refine⟨m,E2,H2,?_,g4⟩;rw[xu,(w2 s b hg).2 e];simp only[zS h1,zga];exact g3
  .simp at hs
theorem zex.ops{l:List SOp}{E:aG}{H:Hp}{Q:AX->aG->Hp->Prop}(h:aO P cfg f l E H (Q .normal)):zex P cfg f N (.ops l) E H Q:=fun code hc=>by
 cases code with
 |region id ops draw=>
  cases draw with
  |true=>simp[aS]at hc
  |false=>
   simp only[aS,zen]at hc;split at hc
   .rename_i r hr;simp only[SC.ops.injEq]at hc;subst hc;obtain⟨n,E',H',h1,h2⟩:=aO.run hr h;exact⟨_,_,_,ze1.region h1 aK,h2⟩
   .simp at hc
 |_=>simp[aS]at hc
theorem zdQ{l:List SOp}{E:aG}{H:Hp}{Q:AX->aG->Hp->Prop}(h:∀K:aG->Hp->Prop,(∀E' H',Q .normal E' H'->K E' H')->aO P cfg f l E H K):zex P cfg f N (.ops l) E H Q:=
 zex.ops (h _ fun _ _ h=>h)
theorem aO.nil{E:aG}{H:Hp}{Q:aG->Hp->Prop}(h:Q E H):aO P cfg f [] E H Q:=h
def xw:=@aO.nil
theorem iF.plain{op:Op}{E:aG}{H H':Hp}{v:AV}{K:AV->Hp->Prop}(h:dD P cfg.dec E H op=some (v,H'))(hn:∀c,op≠.call c)(hk:K v H'):iF P cfg f op E H K:=
 ⟨0,v,H',(tD hn).2 h,hk⟩
def zT:Op->Bool
 | .call _=>false
 |_=>true
theorem HT{op:Op}(h:zT op=true):∀c,op≠.call c:=fun c e=>by subst e;simp[zT]at h
theorem aO.op{d:Nat}{op:Op}{l:List SOp}{E:aG}{H H':Hp}{v:AV}{Q:aG->Hp->Prop}(hn:zT op=true)(h:dD P cfg.dec E H op=some (v,H'))(hk:aO P cfg f l (T.set E d (some v)) H' Q):aO P cfg f (⟨some d,op,none⟩::l) E H Q:=
 iF.plain h (HT hn) hk
def iP:=@aO.op
theorem HU{op:Op}{l:List SOp}{E:aG}{H H':Hp}{v:AV}{Q:aG->Hp->Prop}(hn:zT op=true)(h:dD P cfg.dec E H op=some (v,H'))(hk:aO P cfg f l E H' Q):aO P cfg f (⟨none,op,none⟩::l) E H Q:=
 iF.plain h (HT hn) hk
theorem aO.guard{d:Option Nat}{op:Op}{s:Nat}{b t:Bool}{l:List SOp}{E:aG}{H:Hp}{Q:aG->Hp->Prop}(h:E.at s=.bool t)(h1:t=b->aO P cfg f (⟨d,op,none⟩::l) E H Q)(h2:t=!b->aO P cfg f l (zd4 E d zff) H Q):
 aO P cfg f (⟨d,op,some (s,b)⟩::l) E H Q:=by
 unfold aO;by_cases e:t=b
 .exact .inl ⟨by rw[h,e],h1 e⟩
 .have:t=!b:=by cases t<;>cases b<;>simp_all
  exact .inr ⟨.inl (by rw[h,this]),h2 this⟩
theorem HV{d:Option Nat}{op:Op}{s:Nat}{b:Bool}{l:List SOp}{E:aG}{H:Hp}{Q:aG->Hp->Prop}{v:AV}(h:some (E.at s)=some v)(hv:v=zff)(h2:aO P cfg f l (zd4 E d zff) H Q):
 aO P cfg f (⟨d,op,some (s,b)⟩::l) E H Q:=by
 subst hv;unfold aO;exact .inr ⟨.inr jM,h2⟩
theorem aO.call{d:Option Nat}{c:Call}{g:Operand}{k:FuncId}{cap vs:List AV}{l:List SOp}{E:aG}{H:Hp}{Q:aG->Hp->Prop}(hc:c.callee=.value g)(hg:zd0 E g=some (.clo k cap))(hv:zfV E c.args.toList=some vs)
 (h:zd5 P cfg k (vs++cap) H fun v H'=>aO P cfg f l (zd4 E d v) H' Q):aO P cfg f (⟨d,.call c,none⟩::l) E H Q:=by
 obtain⟨v,H',⟨_,n,h1⟩,h2⟩:=h;refine⟨n,v,H',?_,h2⟩;simp only[zfk,qB,hc,hg,hv];exact h1
def bA:=@aO.call
theorem aO.builtin{d:Option Nat}{c:Call}{b:Builtin}{vs:List AV}{v:AV}{l:List SOp}{E:aG}{H H':Hp}{Q:aG->Hp->Prop}(hc:c.callee=.builtin b)(hv:zfV E c.args.toList=some vs)
 (h:oI P (cfg.keep f) H b c.argTypes.toList vs=some (v,H')) (hk:aO P cfg f l (zd4 E d v) H' Q):aO P cfg f (⟨d,.call c,none⟩::l) E H Q:=by
 refine⟨0,v,H',?_,hk⟩;simp only[zfk,qB,hc,hv,h]
def zU:=@aO.builtin
theorem Qn{g:FuncId}{args:List AV}{r:AV}{H:Hp}{Q:AV->Hp->Prop}(h:cfg.call g args=some r)(hq:Q r H):zd5 P cfg g args H Q:=
 ⟨r,H,jN aK (n:=0) (by simp only[step,h]),hq⟩
theorem HW{g:FuncId}{args asx:List AV}{r:AV}{H H':Hp}{Q:AV->Hp->Prop}(h0:cfg.call g args=none)(hi:cfg.ice g=true)(hz:cfg.froz g=false)(ha:jY (eY 100) args H=some (asx,H'))(h:cfg.call g asx=some r)(hq:Q r H'):zd5 P cfg g args H Q:=
 ⟨r,H',jN aK (n:=0) (by simp only[step,h0,nG,hi,hz,uO,wR,ha,h]),hq⟩
theorem zd5.mono{g:FuncId}{args:List AV}{H:Hp}{Q Q':AV->Hp->Prop}(h:∀v H',Q v H'->Q' v H')(hw:zd5 P cfg g args H Q):zd5 P cfg g args H Q':=by
 obtain⟨v,H',h1,h2⟩:=hw;exact⟨v,H',h1,h _ _ h2⟩
def bp:=@zd5.mono
theorem zd5.body{g:FuncId}{args:List AV}{H:Hp}{fn:Func}{c:Code}{Q:AV->Hp->Prop}(hk:cfg.call g args=none)(hi:cfg.ice g=false)(hz:cfg.froz g=false)(hf:P.funcs[g]?=some fn)(hb:fn.body=some c)
 (h:zex P cfg g (max fn.ntmps args.length) (aS (max fn.ntmps args.length) c) (zd8 0 args (tk (max fn.ntmps args.length))) H (fun x E' H'=>(x=.normal\/x=.ret)/\∃vs,zfD P E' H' fn.results.toList=some vs/\Q (zdY vs) H')):zd5 P cfg g args H Q:=by
 obtain⟨x,E',H',h1,hx,vs,h2,h3⟩:=h c rfl;exact⟨zdY vs,H',ze1.call hk hi hz hf hb h1 hx (by unfold uN;rw[h2]),h3⟩
theorem zed{g:FuncId}{args:List AV}{H:Hp}{fn:Func}{c:Code}{s:SC}{M:Nat}{rs:List ResultVar}{Q:AV->Hp->Prop}(hk:cfg.call g args=none)(hi:cfg.ice g=false)(hz:cfg.froz g=false)(hf:P.funcs[g]?=some fn)(hb:fn.body=some c)(hM:max fn.ntmps args.length=M)
 (hs:aS M c=s) (hr:fn.results.toList=rs) (h:zex P cfg g M s (zd8 0 args (tk M)) H (fun x E' H'=>(x=.normal\/x=.ret)/\∃vs,zfD P E' H' rs=some vs/\Q (zdY vs) H')):zd5 P cfg g args H Q:=by
 subst hM hs hr;exact zd5.body hk hi hz hf hb h
theorem HX(fit:Fit P){ρ:Nat->Int}(hD:mG cfg.dec ρ)(hc:∀f args r,cfg.call f args=some r->bV P ρ f args r){g:FuncId}{args:List AV}{r:AV}{k m:Nat}
 (hp:qC k args=true) (h:zd5 P cfg g args zeo fun v H'=>iceV H' m v=some r):bV P ρ g args r:=by
 obtain⟨v,H',⟨_,n,h1⟩,h2⟩:=h;exact Dk fit hD hc (n:=n) (m:=m) hp (by unfold wS;rw[h1];exact h2)
section
variable {l:List SOp} {E:aG} {H H':Hp} {Q:aG -> Hp -> Prop} {d:Nat} {v a b:AV} {x y:Operand} {t u:TypeId}
theorem aO.move(h:zd0 E x=some v)(hk:aO P cfg f l (T.set E d (some v)) H Q):aO P cfg f (⟨some d,.move x,none⟩::l) E H Q:=iP rfl (by simp only[dD,Go.Ab.ret,h]) hk
theorem aO.assign(h:zd0 E x=some v)(hk:aO P cfg f l (T.set E d (some v)) H Q):aO P cfg f (⟨some d,.assign x,none⟩::l) E H Q:=iP rfl (by simp only[dD,Go.Ab.ret,h]) hk
theorem aO.pick{z:Operand}{t:Bool}(h:zd0 E x=some (.bool t))(h1:zd0 E y=some a)(h2:zd0 E z=some b)(hk:aO P cfg f l (T.set E d (some (jG t a b))) H Q):aO P cfg f (⟨some d,.pick x y z,none⟩::l) E H Q:=
 iP rfl (by cases t<;>simp only[dD,yP,Go.Ab.ret,h,h1,h2]<;>rfl) hk
theorem aO.load(h:zd0 E x=some a)(h1:zfC P H t a=some v)(hk:aO P cfg f l (T.set E d (some v)) H Q):aO P cfg f (⟨some d,.load t x,none⟩::l) E H Q:=iP rfl (by simp only[dD,wI,Go.Ab.ret,h,h1]) hk
theorem aO.store(h:zd0 E x=some a)(h1:zd0 E y=some b)(h2:j5 P H t a b=some H')(hk:aO P cfg f l E H' Q):aO P cfg f (⟨none,.store t x y,none⟩::l) E H Q:=HU rfl (by simp only[dD,yR,Go.Ab.ret,h,h1,h2];rfl) hk
def oS:=@aO.store
theorem aO.nilCheck{r o:Nat}(h:zd0 E x=some (.ptr r o))(hk:aO P cfg f l (T.set E d (some (.ptr r o))) H Q):aO P cfg f (⟨some d,.nilCheck x,none⟩::l) E H Q:=iP rfl (by simp only[dD,yS,h]) hk
theorem aO.bin{op:BinOp}(h:zd0 E x=some a)(h1:zd0 E y=some b)(h2:jS P cfg.dec op t a b=some v)(hk:aO P cfg f l (T.set E d (some v)) H Q):aO P cfg f (⟨some d,.binOp op t x y u,none⟩::l) E H Q:=
 iP rfl (by simp only[dD,yT,Go.Ab.ret,h,h1,h2]) hk
theorem aO.un{op:UnOp}(h:zd0 E x=some a)(h2:rN op a=some v)(hk:aO P cfg f l (T.set E d (some v)) H Q):aO P cfg f (⟨some d,.unOp op t x,none⟩::l) E H Q:=iP rfl (by simp only[dD,yU,Go.Ab.ret,h,h2]) hk
theorem aO.convert(h:zd0 E x=some a)(h2:jq P H t u a=some v)(hk:aO P cfg f l (T.set E d (some v)) H Q):aO P cfg f (⟨some d,.convert t u x,none⟩::l) E H Q:=iP rfl (by simp only[dD,wJ,Go.Ab.ret,h,h2]) hk
theorem aO.fieldAddr{i:Nat}(h:zd0 E x=some a)(h2:zeg P t a i=some v)(hk:aO P cfg f l (T.set E d (some v)) H Q):aO P cfg f (⟨some d,.fieldAddr t x i,none⟩::l) E H Q:=iP rfl (by simp only[dD,yW,Go.Ab.ret,h,h2]) hk
def HY:=@aO.fieldAddr
theorem aO.field{i:Nat}(h:zd0 E x=some a)(h2:zeU P t a i=some v)(hk:aO P cfg f l (T.set E d (some v)) H Q):aO P cfg f (⟨some d,.field t x i,none⟩::l) E H Q:=iP rfl (by simp only[dD,yX,Go.Ab.ret,h,h2]) hk
theorem aO.indexAddr(h:zd0 E x=some a)(h1:zd0 E y=some b)(h2:zeE P t a b=some v)(hk:aO P cfg f l (T.set E d (some v)) H Q):aO P cfg f (⟨some d,.indexAddr t x y,none⟩::l) E H Q:=iP rfl (by simp only[dD,yY,Go.Ab.ret,h,h1,h2]) hk
def HZ:=@aO.indexAddr
theorem aO.index(h:zd0 E x=some a)(h1:zd0 E y=some b)(h2:pI P t a b=some v)(hk:aO P cfg f l (T.set E d (some v)) H Q):aO P cfg f (⟨some d,.index t x y,none⟩::l) E H Q:=iP rfl (by simp only[dD,yZ,Go.Ab.ret,h,h1,h2]) hk
theorem aO.extract{i:Nat}(h:zd0 E x=some a)(h2:Ab.extract a i=some v)(hk:aO P cfg f l (T.set E d (some v)) H Q):aO P cfg f (⟨some d,.extract x i,none⟩::l) E H Q:=iP rfl (by simp only[dD,y1,Go.Ab.ret,h,h2]) hk
theorem aO.alloc{z:List AV}{n:Nat}(h:ze5 P t=some z)(hn:some H.next=some n)(hk:aO P cfg f l (T.set E d (some (.ptr n 0))) (H.alloc (.cells z 0 true)) Q):aO P cfg f (⟨some d,.alloc t,none⟩::l) E H Q:=by
 simp only[aQ]at hn;subst hn;exact iP rfl (by simp only[dD,wF,h]) hk
theorem aO.box{cs:List AV}{n:Nat}(h:zd0 E x=some a)(hc:some a.cells=some cs)(hn:some H.next=some n)(hk:aO P cfg f l (T.set E d (some (.ptr n 0))) (H.alloc (.cells cs 0 true)) Q):aO P cfg f (⟨some d,.box t x,none⟩::l) E H Q:=by
 simp only[aQ]at hc hn;subst hc hn;exact iP rfl (by simp only[dD,wG,h]) hk
theorem aO.build{parts:Array (Nat×Operand)}{ps:List (Nat×AV)}(h:zgd E parts.toList=some ps)(h2:zfy P t ps=some v)(hk:aO P cfg f l (T.set E d (some v)) H Q):aO P cfg f (⟨some d,.build t parts,none⟩::l) E H Q:=iP rfl (by simp only[dD,yQ,Go.Ab.ret,h,h2]) hk
theorem aO.buildSlice{n:Nat}{parts:Array (Nat×Operand)}{ps:List (Nat×AV)}(h:zgd E parts.toList=some ps)(h2:zfn P H t n ps=some (v,H'))(hk:aO P cfg f l (T.set E d (some v)) H' Q):aO P cfg f (⟨some d,.buildSlice t n parts,none⟩::l) E H Q:=
 iP rfl (by simp only[dD,wH,h,h2]) hk
def H0:=@aO.buildSlice
theorem aO.makeMap{n:Nat}(hn:some H.next=some n)(hk:aO P cfg f l (T.set E d (some (.map n))) (H.alloc (.map [])) Q):aO P cfg f (⟨some d,.makeMap t none,none⟩::l) E H Q:=by
 simp only[aQ]at hn;subst hn;exact iP rfl (by simp only[dD,wK]) hk
theorem aO.lookup{ok:Bool}(h:zd0 E x=some a)(h1:zd0 E y=some b)(h2:zge P H t a b ok=some v)(hk:aO P cfg f l (T.set E d (some v)) H Q):aO P cfg f (⟨some d,.lookup t x y ok,none⟩::l) E H Q:=iP rfl (by simp only[dD,wN,Go.Ab.ret,h,h1,h2]) hk
theorem aO.mapUpdate{z:Operand}{c:AV}(h:zd0 E x=some a)(h1:zd0 E y=some b)(h2:zd0 E z=some c)(h3:zgu P H t a b c=some H')(hk:aO P cfg f l E H' Q):aO P cfg f (⟨none,.mapUpdate t x y z,none⟩::l) E H Q:=
 HU rfl (by simp only[dD,y0,Go.Ab.ret,h,h1,h2,h3];rfl) hk
def Ia:=@aO.mapUpdate
theorem aO.makeFunc{g:FuncId}{cap:Array Operand}{vs:List AV}(h:zfV E cap.toList=some vs)(hk:aO P cfg f l (T.set E d (some (.clo g vs))) H Q):aO P cfg f (⟨some d,.makeFunc (.func g) #[] cap,none⟩::l) E H Q:=iP rfl (by simp only[dD,yV,h]) hk
theorem aO.slice{lo hi:Option Operand}{lv hv:Option AV}(h:zd0 E x=some a)(h1:zf5 E lo=some lv)(h2:zf5 E hi=some hv)(h3:my P H t a lv hv=some v)(hk:aO P cfg f l (T.set E d (some v)) H Q):aO P cfg f (⟨some d,.slice t x lo hi none,none⟩::l) E H Q:=
 iP rfl (by simp only[dD,wM,Go.Ab.ret,h,h1,h2,h3]) hk
theorem aO.makeSlice(h:zd0 E x=some a)(h1:zd0 E y=some b)(h2:zf9 P H t a b=some (v,H'))(hk:aO P cfg f l (T.set E d (some v)) H' Q):aO P cfg f (⟨some d,.makeSlice t x y,none⟩::l) E H Q:=iP rfl (by simp only[dD,wL,h,h1,h2]) hk
def Ib:=@aO.makeSlice
theorem aO.len{c:AV}(h:zd0 E x=some a)(h1:zeR P H t a=some c)(hk:aO P cfg f l (T.set E d (some c)) H Q):aO P cfg f (⟨some d,.call ⟨.builtin .len,#[x],#[t]⟩,none⟩::l) E H Q:=
 zU (c:=⟨.builtin .len,#[x],#[t]⟩) rfl (vs:=[a]) (by simp only[zfV,h]) (by simp only[oI,h1]) hk
theorem aO.append(h:zd0 E x=some a)(h1:zd0 E y=some b)(h2:zeZ P (cfg.keep f) H t u a b=some (v,H'))(hk:aO P cfg f l (T.set E d (some v)) H' Q):aO P cfg f (⟨some d,.call ⟨.builtin .append,#[x,y],#[t,u]⟩,none⟩::l) E H Q:=
 zU (c:=⟨.builtin .append,#[x,y],#[t,u]⟩) rfl (vs:=[a,b]) Dn (by simp only[oI,h2]) hk
def ji:=@aO.append
end
theorem Dr(E:aG)(d t:Nat)(v:AV):aG.at (T.set E d (some v)) t=bif t == d then v else E.at t:=by
 rw[uR];by_cases h:t=d
 .simp[h]
 .have:(t == d)=false:=by simpa using h
  rw[ah h,this,ve]
theorem get_set(H:Hp)(d t:Nat)(b:HB):(H.set d b).get t=bif t == d then some b else H.get t:=by
 rw[bz];by_cases h:t=d
 .simp[h]
 .have:(t == d)=false:=by simpa using h
  rw[ah h,this,ve]
theorem Qo(E:aG)(t:Nat):zd0 E (.tmp t)=some (E.at t):=rfl
theorem Qp(E:aG)(k:IntKind)(n:Int):zd0 E (.const (.int k n))=some (.int k n):=rfl
theorem Qq(E:aG)(b:Bool):zd0 E (.const (.bool b))=some (.bool b):=rfl
theorem Qr(E:aG)(g:FuncId):zd0 E (.func g)=some (.clo g []):=rfl
theorem Qs(E:aG)(s:ByteArray):zd0 E (.const (.string s))=some (.str s.data.toList):=rfl
section
variable {D:BinOp -> Sx -> Sx -> Option Bool} {t:TypeId} {k:IntKind} {a b:Int} {s u:List UInt8}
theorem Qt:jS P D .add t (.int k a) (.int k b)=some (.int k (k.wrap (a+b))):=pV
theorem Qu:jS P D .sub t (.int k a) (.int k b)=some (.int k (k.wrap (a-b))):=pV
theorem Qv:jS P D .mul t (.int k a) (.int k b)=some (.int k (k.wrap (a*b))):=pV
theorem oT(h:b≠0):jS P D .quo t (.int k a) (.int k b)=some (.int k (k.wrap (a.tdiv b))):=by simp[jS,rM,zf7,h]
theorem rZ(h:b≠0):jS P D .rem t (.int k a) (.int k b)=some (.int k (a.tmod b)):=by simp[jS,rM,zf7,h]
theorem Qw:jS P D .and t (.int k a) (.int k b)=some (.int k (k.wrap (BitVec.ofInt k.bits a &&& BitVec.ofInt k.bits b).toNat)):=pV
theorem Qy:jS P D .or t (.int k a) (.int k b)=some (.int k (k.wrap (BitVec.ofInt k.bits a |||BitVec.ofInt k.bits b).toNat)):=pV
theorem Qz:jS P D .xor t (.int k a) (.int k b)=some (.int k (k.wrap (BitVec.ofInt k.bits a^^^ BitVec.ofInt k.bits b).toNat)):=pV
theorem QA:jS P D .eql t (.int k a) (.int k b)=some (.bool (decide (a=b))):=by simp[jS,rM,zf7];rfl
theorem QB:jS P D .neq t (.int k a) (.int k b)=some (.bool (!decide (a=b))):=by simp[jS,rM,zf7];rfl
theorem QC:jS P D .lss t (.int k a) (.int k b)=some (.bool (decide (a<b))):=pV
theorem QD:jS P D .leq t (.int k a) (.int k b)=some (.bool (decide (a<=b))):=pV
theorem QE:jS P D .gtr t (.int k a) (.int k b)=some (.bool (decide (b<a))):=pV
theorem QF:jS P D .geq t (.int k a) (.int k b)=some (.bool (decide (b<=a))):=pV
theorem QG:jS P D .eql t (.str s) (.str u)=some (.bool (decide (s=u))):=by
 simp only[jS,wE];by_cases h:s=u<;>simp[h]
theorem QH:jS P D .neq t (.str s) (.str u)=some (.bool (!decide (s=u))):=by
 simp only[jS,wE];by_cases h:s=u<;>simp[h]
theorem QI{x:Bool}:rN .not (.bool x)=some (.bool !x):=rfl
theorem QJ:rN .neg (.int k a)=some (.int k (k.wrap (0-a))):=rfl
end
theorem pW{i:Nat}(h:i<2^62):IntKind.wrap .i64 ((i:Int)+1)=((i+1:Nat):Int):=by
 rw[tx _ ac];rfl
theorem zgp{H:Hp}{t e:TypeId}(h:P.underlying t=some (.slice e))(xs:List (List AV)):zeR P H t (.lst xs)=some (.int .i64 xs.length):=zI
theorem zgg{H:Hp}{t e:TypeId}(h:P.underlying t=some (.slice e))(r o n z:Nat):zeR P H t (.sl r o n z)=some (.int .i64 n):=zI
theorem zgl{H:Hp}{t e:TypeId}(h:P.underlying t=some (.slice e)):zeR P H t .nilS=some (.int .i64 0):=zI
theorem QK{H:Hp}{t:TypeId}(h:P.underlying t=some .string)(s:List UInt8):zeR P H t (.str s)=some (.int .i64 s.length):=zI
theorem mL{t e:TypeId}{s:Nat}(h:P.underlying t=some (.slice e))(hs:zer P e=some s){r o n z i:Nat}(hi:i<n):zeE P t (.sl r o n z) (.int .i64 (i:Int))=some (.ptr r (o+i*s)):=by
 show zeE P t (.sl r o n z) (.int .i64 (Int.ofNat i))=_;simp only[zeE,h,hs,hi,bN]
def xy:TypeDesc->Bool
 | .struct _|.array _ _=>false
 |_=>true
theorem zf1{t:TypeId}{d:TypeDesc}(h:P.underlying t=some d)(hd:xy d=true)(cs:List AV)(o:Nat):zej P t cs o=cs[o]?:=by
 unfold zej;rw[h];cases d<;>simp_all[xy]
theorem r0{H:Hp}{t:TypeId}{d:TypeDesc}(h:P.underlying t=some d)(hd:xy d=true){r o:Nat}{cs:List AV}{imm:Nat}{tip:Bool}(hg:H.get r=some (.cells cs imm tip)):zfC P H t (.ptr r o)=cs[o]?:=by
 simp only[zfC,hg,zf1 h hd]
def lC(z:Nat):Option (List AV)->Option AV
 |some row=>if row.length=z then some (.iptr row)else none
 |none=>none
theorem QL(z:Nat)(row:List AV):lC z (some row)=if row.length=z then some (.iptr row)else none:=rfl
def zV:Option UInt8->Option AV
 |some b=>some (.int .u8 b.toNat)
 |none=>none
theorem QM(b:UInt8):zV (some b)=some (.int .u8 b.toNat):=rfl
def ze6(s:Nat)(cs:List AV):Option AV:=if (cs.take s).length=s then some (.agg (cs.take s))else none
theorem nM{t:TypeId}{d:TypeDesc}{s:Nat}(h:P.underlying t=some d)(hd:xy d=false)(hs:zer P t=some s)(cs:List AV)(o:Nat):zej P t cs o=ze6 s (cs.drop o):=by
 unfold zej ze6;rw[h];cases d<;>simp_all[xy]
theorem zgr{t e:TypeId}{s:Nat}(h:P.underlying t=some (.slice e))(hs:zer P e=some s)(xs:List (List AV)){n:Int}(hn:0<=n)(k:IntKind):zeE P t (.lst xs) (.int k n)=lC s (xs[n.toNat]?):=by
 obtain⟨m,rfl⟩:=gG hn;show zeE P t (.lst xs) (.int k (Int.ofNat m))=lC s (xs[m]?);simp only[zeE,h,hs];cases xs[m]? <;>rfl
theorem zgs{t e:TypeId}{s:Nat}(h:P.underlying t=some (.slice e))(hs:zer P e=some s)(r o l z:Nat){n:Int}(hn:0<=n)(k:IntKind):zeE P t (.sl r o l z) (.int k n)=bif decide (n.toNat<l)then some (.ptr r (o+n.toNat*s))else none:=by
 obtain⟨m,rfl⟩:=gG hn;show zeE P t (.sl r o l z) (.int k (Int.ofNat m))=bif decide (m<l)then some (.ptr r (o+m*s))else none
 simp only[zeE,h,hs];by_cases hm:m<l<;>simp[hm]
theorem QN{t:TypeId}(h:P.underlying t=some .string)(s:List UInt8){n:Int}(hn:0<=n)(k:IntKind):pI P t (.str s) (.int k n)=zV (s[n.toNat]?):=by
 obtain⟨m,rfl⟩:=gG hn;show pI P t (.str s) (.int k (Int.ofNat m))=zV (s[m]?);simp only[pI,h];cases s[m]? <;>rfl
def Ic(P:Program)(t:TypeId)(o:Nat):Option HB->Option AV
 |some (.cells cs _ _)=>zej P t cs o
 |_=>none
theorem QO(t:TypeId)(o:Nat)(cs:List AV)(imm:Nat)(tip:Bool):Ic P t o (some (.cells cs imm tip))=zej P t cs o:=rfl
theorem vk(H:Hp)(t:TypeId)(r o:Nat):zfC P H t (.ptr r o)=Ic P t o (H.get r):=rfl
theorem QP(H:Hp)(t:TypeId)(cs:List AV):zfC P H t (.iptr cs)=zej P t cs 0:=rfl
theorem QQ(H:Hp)(b:HB)(t:Nat):(H.alloc b).get t=bif t == H.next then some b else H.get t:=by
 rw[zd1];by_cases h:t=H.next
 .simp[h]
 .have:(t == H.next)=false:=by simpa using h
  rw[ah h,this,ve]
noncomputable def Ie(H:Hp)(r o:Nat)(vc:List AV):Option Nat->Option HB->Option Hp
 |some s,some (.cells cs imm tip)=>if vc.length=s/\imm<=o/\o+s<=cs.length/\vc.all AV.one=true then some (H.set r (.cells (splice cs o vc) imm tip))else none
 |_,_=>none
theorem Ds(H:Hp)(r o:Nat)(vc:List AV)(s:Nat)(cs:List AV)(imm:Nat)(tip:Bool):Ie H r o vc (some s) (some (.cells cs imm tip))=if vc.length=s/\imm<=o/\o+s<=cs.length/\vc.all AV.one=true then some (H.set r (.cells (splice cs o vc) imm tip))else none:=rfl
theorem Dt(H:Hp)(t:TypeId)(r o:Nat)(v:AV):j5 P H t (.ptr r o) v=Ie H r o v.cells (zer P t) (H.get r):=by
 unfold j5;simp only[];cases h1:H.get r with
 |none=>cases zer P t<;>rfl
 |some b=>cases b with
  |map es=>cases zer P t<;>rfl
  |cells cs imm tip=>cases zer P t with
   |none=>rfl
   |some s=>rfl
theorem If(cs:List AV)(o:Nat)(new:List AV):splice cs o new=cs.take o++new++cs.drop (o+new.length):=rfl
theorem QR(cs:List AV):AV.cells (.agg cs)=cs:=rfl
theorem cells_int(k:IntKind)(n:Int):AV.cells (.int k n)=[.int k n]:=rfl
theorem Ig(b:Bool):AV.cells (.bool b)=[.bool b]:=rfl
theorem QS(b:List UInt8):AV.cells (.str b)=[.str b]:=rfl
theorem QT(b:List (List AV)):AV.cells (.lst b)=[.lst b]:=rfl
theorem QU(r o l z:Nat):AV.cells (.sl r o l z)=[.sl r o l z]:=rfl
theorem QV:AV.cells .nilS=[.nilS]:=rfl
theorem QW(r o:Nat):AV.cells (.ptr r o)=[.ptr r o]:=rfl
theorem QX(r:Nat):AV.cells (.map r)=[.map r]:=rfl
theorem QY(g:Nat)(cap:List AV):AV.cells (.clo g cap)=[.clo g cap]:=rfl
theorem QZ(k:IntKind)(n:Int):AV.one (.int k n)=true:=rfl
theorem Q0(b:Bool):AV.one (.bool b)=true:=rfl
theorem Q1(b:List UInt8):AV.one (.str b)=true:=rfl
theorem Q3(b:List (List AV)):AV.one (.lst b)=true:=rfl
theorem Q4(r o l z:Nat):AV.one (.sl r o l z)=true:=rfl
theorem Q5:AV.one .nilS=true:=rfl
theorem Q6(r o:Nat):AV.one (.ptr r o)=true:=rfl
theorem Q7(r:Nat):AV.one (.map r)=true:=rfl
theorem Q8(g:Nat)(cap:List AV):AV.one (.clo g cap)=true:=rfl
theorem zeB:zeo.next=0:=rfl
theorem Q9(H:Hp)(t:TypeId)(s:List UInt8)(lo hi:Option AV):my P H t (.str s) lo hi=zfW P t (.str s) lo hi:=rfl
theorem Ra(H:Hp)(t:TypeId)(s:List (List AV))(lo hi:Option AV):my P H t (.lst s) lo hi=zfW P t (.lst s) lo hi:=rfl
theorem Rd(H:Hp)(t:TypeId)(r o n z:Nat)(lo hi:Option AV):my P H t (.sl r o n z) lo hi=zfW P t (.sl r o n z) lo hi:=rfl
theorem Re(H:Hp)(t:TypeId)(lo hi:Option AV):my P H t .nilS lo hi=zfW P t .nilS lo hi:=rfl
theorem Rf(n k:Nat):(n == n+(k+1))=false:=aK
theorem Rg(n k:Nat):(n+(k+1) == n)=false:=aK
theorem Rh(n a b:Nat):(n+a == n+b)=(a == b):=by
 by_cases h:a=b
 .simp[h]
 .have h1:(a == b)=false:=by simpa using h
  rw[h1];simp;omega
end
attribute [irreducible] aO zex zd5 iF
theorem Sx.beq_refl:∀a:Sx,Sx.beq a a=true
 | .var i=>by simp[Sx.beq]
 | .lit n=>by simp[Sx.beq]
 | .bin o k a b=>by simp[Sx.beq,Sx.beq_refl a,Sx.beq_refl b]
 | .conv k a=>by simp[Sx.beq,Sx.beq_refl a]
mutual
theorem AV.beq_refl:∀a:AV,AV.beq a a=true
 | .int k n=>by simp[AV.beq]
 | .sx k e=>by simp[AV.beq,Sx.beq_refl]
 | .bool b=>by simp[AV.beq]
 | .str s=>by simp[AV.beq]
 | .nilP=>rfl
 | .nilM=>rfl
 | .nilF=>rfl
 | .nilS=>rfl
 | .ptr r o=>by simp[AV.beq]
 | .iptr cs=>by simp only[AV.beq];exact zgE cs
 | .sl r o l z=>by simp[AV.beq]
 | .lst xs=>by simp only[AV.beq];exact Ih xs
 | .map r=>by simp[AV.beq]
 | .clo f cs=>by simp only[AV.beq,zgE cs,l5];simp
 | .agg cs=>by simp only[AV.beq];exact zgE cs
 | .tup cs=>by simp only[AV.beq];exact zgE cs
theorem zgE:∀a:List AV,j7 a a=true
 |[]=>rfl
 |a::l=>by simp only[j7,AV.beq_refl a,zgE l,l5]
theorem Ih:∀a:List (List AV),tg a a=true
 |[]=>rfl
 |a::l=>by simp only[tg,zgE a,Ih l,l5]
end
def tH(o:Oper):Bool:=qL o.op||pR o.op
def zW(o:Oper):Bool:=tH o||(match o.op with|.store ..|.mapUpdate ..=>true |_=>false)
def zX(ops:List Oper):Bool:=
 pL ops&&(List.range ops.length).all (fun i=>match ops[i]? with|some o=>if Nat.blt (i+1) ops.length then tH o else zW o|none=>true)&&(nD ops).all (fun p=>Nat.blt p.2 ops.length)
section
variable {P:Program} {cfg:Cfg} {f N:Nat}
theorem Du{ih:Task->Res}{all:List Oper}:∀{l:List Oper}{E E':aG}{H H':Hp},js P cfg ih f N all l E H=.done .normal E' H'->∃rs,jd P cfg ih f N all l E H=.done E' H' rs
 |[],E,E',H,H',h=>by
  simp only[js,Res.done.injEq,mJ]at h;obtain⟨rfl,rfl⟩:=h;exact⟨[],rfl⟩
 |o::l,E,E',H,H',h=>by
  rw[xu]at h;simp only[jd];cases hw:zf6 all E o with
  |true=>
   rw[hw]at h;simp only[]at h⊢;cases hop:zfk P cfg ih f E H o.op with
   |val v H1=>
    rw[hop]at h;simp only[]at h⊢;cases hp:fD N E o.dst v with
    |none=>rw[hp]at h;simp[zga]at h
    |some E1=>
     rw[hp]at h;simp only[zga]at h;obtain⟨rs,hr⟩:=Du h;exact⟨_,by simp only[zgq,hr,nA];rfl⟩
   |done _ _ _=>rw[hop]at h;simp at h
   |fail=>rw[hop]at h;simp at h
  |false=>
   rw[hw]at h;simp only[]at h⊢;cases hp:fD N E o.dst zff with
   |none=>rw[hp]at h;simp[zga]at h
   |some E1=>
    rw[hp]at h;simp only[zga]at h;obtain⟨rs,hr⟩:=Du h;exact⟨_,by simp only[zgq,hr,nA];rfl⟩
theorem Dv{ih:Task->Res}{E:aG}{o:Oper}{v:AV}{H H':Hp}(hk:tH o=true)(h:zfk P cfg ih f E H o.op=.val v H'):H'=H:=by
 unfold tH at hk;rw[pT]at hk;rcases hk with hk|hk
 .have hn:∀c,o.op≠.call c:=fun c e=>by
   rw[e]at hk;simp only[qL,jc]at hk;split at hk
   .rename_i h1;split at h1<;>simp at h1
   .simp at hk
  exact(CO hk ((tD hn).1 h)).1
 .exact CP hk h
theorem Rk{ih:Task->Res}{E:aG}{o:Oper}{v:AV}{H H':Hp}(hk:zW o=true)(h:zfk P cfg ih f E H o.op=.val v H'):H.next<=H'.next:=by
 unfold zW at hk;rw[pT]at hk;rcases hk with hk|hk
 .rw[Dv hk h];exact aM _
 .obtain⟨dst,op,ty,pos,after,guard⟩:=o;simp only[]at hk h;cases op<;>simp only[dS]at hk
  case store t a x=>
   simp only[zfk,dD,yR]at h;split at h
   .split at h
    .rename_i hs;simp only[zfM,Res.val.injEq]at h;obtain⟨rfl,rfl⟩:=h;unfold j5 at hs;split at hs
     .split at hs
      .split at hs
       .simp only[aQ]at hs;rw[<-hs];exact aM _
       .simp at hs
      .simp at hs
     .simp at hs
    .simp[zfM]at h
   .simp[zfM]at h
  case mapUpdate t m k x=>
   simp only[zfk,dD,y0]at h;split at h
   .split at h
    .rename_i hs;simp only[zfM,Res.val.injEq]at h;obtain⟨rfl,rfl⟩:=h;unfold zgu at hs;split at hs
     .split at hs
      .split at hs
       .split at hs
        .simp only[aQ]at hs;rw[<-hs];exact aM _
        .simp only[aQ]at hs;rw[<-hs];exact aM _
        .simp at hs
       .simp at hs
      .simp at hs
     .simp at hs
    .simp[zfM]at h
   .simp[zfM]at h
theorem Rl{ih ih':Task->Res}{f':FuncId}{E:aG}{op:Op}{H:Hp}(hk:pR op=true):zfk P cfg ih f E H op=zfk P cfg ih' f' E H op:=by
 cases op<;>simp only[pR,jc,dS]at hk<;>try rfl
 rename_i c;simp only[zfk,qB];cases hc:c.callee with
 |value g=>rw[hc]at hk;simp at hk
 |invoke g m=>rfl
 |builtin b=>
  rw[hc]at hk;simp only[];cases b<;>simp only[dS]at hk<;>rfl
theorem Rm{ih:Task->Res}{ops:List Oper}{E E':aG}{H H':Hp}(hp:zX ops=true)(h:js P cfg ih f N ops ops E H=.done .normal E' H'):lV P cfg ih f N ops E H=.done .normal E' H':=by
 unfold zX at hp;simp only[cJ,jL,nK]at hp;obtain⟨⟨hcalm,hst⟩,hneed⟩:=hp;obtain⟨rs,hr⟩:=Du h;have hch:=xe hr;have hlen:=CM hch;obtain⟨_,z2⟩:=CN hch;have hstill:∀(i:Nat) o,ops[i]?=some o->i+1<ops.length->tH o=true:=fun i o ho hi=>by
  have:=hst i ac;rw[ho]at this;simp only[show Nat.blt (i+1) ops.length=true by simpa [iW]using hi,bN]at this;exact this
 have hheap:∀i,i+1<=ops.length->zeI rs H' i=H:=fun i=>by
  induction i with
  |zero=>intro _;exact z2
  |succ i ih=>
   intro hi;have hri:=br (show i<rs.length by omega);obtain⟨o,ho,ha⟩:=tC hch hri;have h1:=ih ac;have h2:zeI rs H' (i+1)=zeI rs H' i:=by
    cases hd:(rs[i]' ac).did with
    |true=>exact Dv (hstill i o ho ac) (ha.yes hd)
    |false=>exact(ha.no hd).2
   rw[h2,h1]
 unfold lV;rw[hcalm];simp only[hr];have hlook:ti P cfg (nD ops) rs H'=true:=by
  unfold ti;simp only[cJ,jL];refine⟨fun r hm=>?_,fun p hpm=>?_⟩
  .obtain⟨i,hi⟩:=CW.1 hm;obtain⟨o,ho,ha⟩:=tC hch hi;have hil:i<ops.length:=(eS.1 ho).1;rw[ha.eH,ha.eH'];refine Nat.ble_eq_true_of_le ?_;cases hd:r.did with
   |false=>rw[(ha.no hd).2];exact aM _
   |true=>
    by_cases hl:i+1<ops.length
    .rw[Dv (hstill i o ho hl) (ha.yes hd)];exact aM _
    .have:=hst i hil;rw[ho]at this;have hb:Nat.blt (i+1) ops.length=false:=by
      cases hx:Nat.blt (i+1) ops.length with
      |false=>rfl
      |true=>exact(hl (by simpa [iW]using hx)).elim
     simp only[hb,dS,bU]at this;exact Rk this (ha.yes hd)
  .have hm:p.2<ops.length:=by simpa [iW]using hneed p hpm
   cases hrp:rs[p.1]? with
   |none=>rfl
   |some r=>
    obtain⟨o,ho,ha⟩:=tC hch hrp;have hil:p.1<ops.length:=(eS.1 ho).1;simp only[];cases hd:r.did with
    |false=>rfl
    |true=>
     simp only[uZ,tE];have hH:r.H=zeI rs H' p.2:=by rw[ha.eH,hheap _ ac,hheap _ ac]
     unfold zdt;cases hk:jc r.o.op with
     |calm=>rfl
     |act=>rfl
     |read=>
      simp only[];have hop:=ha.yes hd;rw[<-ha.eE,<-ha.eo,<-ha.eH,hH]at hop;rw[Rl (P:=P) (cfg:=cfg) (f:=f) (ih:=ih) (ih':=fun _=>.fail) (f':=0) (by simp[pR,hk])]at hop;rw[hop];simp only[AV.beq_refl]
     |make=>
      exfalso;rw[ha.eo]at hk;by_cases hl:p.1+1<ops.length
      .have:=hstill _ o ho hl;unfold tH qL pR at this;rw[hk]at this;simp at this
      .have h3:=hst p.1 hil;rw[ho]at h3;have hb:Nat.blt (p.1+1) ops.length=false:=by
        cases hx:Nat.blt (p.1+1) ops.length with
        |false=>rfl
        |true=>exact(hl (by simpa [iW]using hx)).elim
       simp only[hb,dS,bU,zW,tH,qL,pR,hk,Bool.or_self,tE]at h3;split at h3
       .rename_i hop;rw[hop]at hk;simp[jc]at hk
       .rename_i hop;rw[hop]at hk;simp[jc]at hk
       .simp at h3
 rw[hlook]
theorem zex.draw{id:Nat}{ops:List Oper}{l:List SOp}{E:aG}{H:Hp}{Q:AX->aG->Hp->Prop}(hpl:cfg.plan f id=.text)(hp:zX ops=true)(hs:zel N ops ops=some l)
 (h:∀K:aG->Hp->Prop,(∀E' H',Q .normal E' H'->K E' H')->aO P cfg f l E H K):zex P cfg f N (.draw id ops) E H Q:=by
 unfold zex;intro code hc;cases code with
 |region id' ops' draw=>
  cases draw with
  |false=>simp only[aS,zen]at hc;split at hc<;>simp at hc
  |true=>
   simp only[aS,SC.draw.injEq]at hc;obtain⟨rfl,rfl⟩:=hc;obtain⟨n,E',H',h1,h2⟩:=aO.run hs (h (Q .normal) fun _ _ h=>h);refine⟨_,_,_,ze1.draw (n:=n) (r:=.done .normal E' H') ?_ aK,h2⟩;rw[hpl];simp only[zf8];exact Rm hp h1
 |_=>simp[aS]at hc
end
section
variable {P:Program} {H:Hp} {t u e:TypeId} {keep:Bool}
theorem tI{r o n z s:Nat}{cs:List AV}{imm:Nat}{tip:Bool}(hg:H.get r=some (.cells cs imm tip))(hl:((cs.drop o).take (n*s)).length=n*s):zfz H s (.sl r o n z)=some (n,(cs.drop o).take (n*s)):=by
 unfold zfz;simp only[hg,hl,bN]
theorem append_nil{s b n:Nat}{z new:List AV}{x:AV}(ht:P.underlying t=some (.slice e))(hs:zer P e=some s)(hb:zfg P e=some b)(hz:ze5 P e=some z)(hu:zfT P u=true)
 (hx:zfz H s x=some (n+1,new)) (hone:new.all AV.one=true) (hzl:z.length=s) (h1:(n+1)*b<=zfw) (h2:n+1<=zfw) :
 zeZ P keep H t u .nilS x=some (.sl H.next 0 (n+1) s,H.alloc (.cells new 0 true)):=by
 simp only[zeZ,ht,hs,hb,hz,hu,hx,hone,hzl,oR,bN,gW,ja,h1,h2]
end
theorem Rn(E:aG):zd0 E (.const (.slice none 0 0))=some .nilS:=rfl
structure Rc where
 op:Op
 did:Bool
 E:aG
 H:Hp
 val:AV
 H':Hp
section
variable (P:Program) (cfg:Cfg) (f:FuncId)
def eG:List SOp->List Rc->aG->Hp->(List Rc->aG->Hp->Prop)->Prop
 |[],tr,E,H,Q=>Q tr E H
 |o::l,tr,E,H,Q=>match o.g with
  |none=>iF P cfg f o.op E H fun v H'=>eG l (tr++[⟨o.op,true,E,H,v,H'⟩]) (zd4 E o.d v) H' Q
  |some (s,b)=>(E.at s=.bool b/\iF P cfg f o.op E H fun v H'=>eG l (tr++[⟨o.op,true,E,H,v,H'⟩]) (zd4 E o.d v) H' Q)\/((E.at s=.bool (!b)\/E.at s=zff)/\eG l (tr++[⟨o.op,false,E,H,zff,H⟩]) (zd4 E o.d zff) H Q)
def vm(tr:List Rc)(H':Hp)(m:Nat):Hp:=match tr[m]? with
 |some r=>r.H
 |none=>H'
def oU(r:Rc)(H:Hp):Prop:=match jc r.op with
 | .read=>∃H2,zfk P cfg (fun _=>.fail) 0 r.E H r.op=.val r.val H2
 | .make=>∃b,H.get r.H.next=some b/\r.H'.get r.H.next=some b
 |_=>True
def zY(tr:List Rc)(H':Hp)(i m:Nat):Prop:=match tr[i]? with
 |some r=>r.did=true->oU P cfg r (vm tr H' m)
 |none=>True
def qN(need:List (Nat×Nat))(tr:List Rc)(H':Hp):Prop:=(∀r∈tr,r.H.next<=r.H'.next)/\∀p∈need,zY P cfg tr H' p.1 p.2
end
section
variable {P:Program} {cfg:Cfg} {f N:Nat}
def tJ(r:Rec):Rc:=⟨r.o.op,r.did,r.E,r.H,r.val,r.H'⟩
theorem HB.beq_refl(b:HB):HB.beq b b=true:=by
 cases b with
 |cells a i t=>simp[HB.beq,zgE]
 |map es=>simp[HB.beq,zgE]
theorem eG.run{all:List Oper}{Q:List Rc->aG->Hp->Prop}:∀{l:List Oper}{r:List SOp}{tr:List Rc}{E:aG}{H:Hp},zel N all l=some r->eG P cfg f r tr E H Q ->
 ∃n E' H' rs,jd P cfg (ze8 P cfg n) f N all l E H=.done E' H' rs/\Q (tr++rs.map tJ) E' H'
 |[],r,tr,E,H,hs,hq=>by
  simp only[zel,aQ]at hs;subst hs;unfold eG at hq;exact⟨0,E,H,[],rfl,by simpa using hq⟩
 |o::l,r,tr,E,H,hs,hq=>by
  simp only[zel]at hs;split at hs
  .rename_i d g r' h1 h2 h3;simp only[aQ]at hs;subst hs;obtain⟨zfp,w2⟩:=HS (E:=E) h2;have hle:∀k k',k<=k'->zfh (ze8 P cfg k) (ze8 P cfg k'):=fun k k' hk t ht=>Dq hk ht;have hop:iF P cfg f o.op E H (fun v H'=>eG P cfg f r' (tr++[⟨o.op,true,E,H,v,H'⟩]) (zd4 E d v) H' Q)->zf6 all E o=true->∃n E' H' rs,jd P cfg (ze8 P cfg n) f N all (o::l) E H=.done E' H' rs/\Q (tr++rs.map tJ) E' H':=fun hw hwant=>by
    unfold iF at hw;obtain⟨n,v,H1,g1,g2⟩:=hw;obtain⟨m,E2,H2,rs,g3,g4⟩:=eG.run h3 g2;refine⟨max n m,E2,H2,⟨o,true,E,H,v,H1⟩::rs,?_,by simpa [tJ]using g4⟩;simp only[jd,hwant];rw[zO (hle n (max n m) (zM _ _)) (by rw[g1];simp),g1];simp only[zS h1,zgq];rw[zQ (hle m (max n m) (zN _ _)) (by rw[g3];simp),g3];rfl
   unfold eG at hq;cases hg:g with
   |none=>
    rw[hg]at hq;exact hop hq (zfp hg)
   |some sb=>
    obtain⟨s,b⟩:=sb;rw[hg]at hq;simp only[]at hq;rcases hq with⟨e,hq⟩|⟨e,hq⟩
    .exact hop hq ((w2 s b hg).1 e)
    .obtain⟨m,E2,H2,rs,g3,g4⟩:=eG.run h3 hq;refine⟨m,E2,H2,⟨o,false,E,H,zff,H⟩::rs,?_,by simpa [tJ]using g4⟩;simp only[jd,(w2 s b hg).2 e,zS h1,zgq,g3,nA]
  .simp at hs
theorem Ro{need:List (Nat×Nat)}{rs:List Rec}{H':Hp}(h:qN P cfg need (rs.map tJ) H'):ti P cfg need rs H'=true:=by
 unfold ti;simp only[cJ,jL];refine⟨fun r hm=>Nat.ble_eq_true_of_le (h.1 _ (l0.2 ⟨r,hm,rfl⟩)),fun p hp=>?_⟩;have hs:=h.2 p hp;have hheap:vm (rs.map tJ) H' p.2=zeI rs H' p.2:=by
  unfold vm zeI;rw[fF];cases rs[p.2]? <;>rfl
 unfold zY at hs;rw[fF,hheap]at hs;cases hr:rs[p.1]? with
 |none=>rfl
 |some r=>
  rw[hr]at hs;simp only[qK,tJ]at hs;simp only[pT,u5];cases hd:r.did with
  |false=>exact .inl rfl
  |true=>
   right
   have hs:=hs hd;unfold oU at hs;unfold zdt;cases hk:jc r.o.op with
   |calm=>rfl
   |act=>rfl
   |read=>
    rw[hk]at hs;simp only[]at hs⊢;obtain⟨H2,h2⟩:=hs;rw[h2];exact AV.beq_refl _
   |make=>
    rw[hk]at hs;simp only[]at hs⊢;obtain⟨b,h1,h2⟩:=hs;rw[h1,h2];exact HB.beq_refl b
theorem Ii{id:Nat}{ops ops2:List Oper}{l:List SOp}{need:List (Nat×Nat)}{E:aG}{H:Hp}{Q:AX->aG->Hp->Prop}
 (hpl:∀ih:Task->Res,zf8 P cfg ih f N E H (cfg.plan f id) ops=lV P cfg ih f N ops2 E H) (hp:pL ops2=true) (hs:zel N ops2 ops2=some l) (hn:nD ops2=need)
 (h:∀K:List Rc->aG->Hp->Prop,(∀tr E' H',qN P cfg need tr H'->Q .normal E' H'->K tr E' H')->eG P cfg f l [] E H K):zex P cfg f N (.draw id ops) E H Q:=by
 unfold zex;intro code hc;cases code with
 |region id' ops' draw=>
  cases draw with
  |false=>simp only[aS,zen]at hc;split at hc<;>simp at hc
  |true=>
   simp only[aS,SC.draw.injEq]at hc;obtain⟨rfl,rfl⟩:=hc;obtain⟨n,E',H',rs,h1,h2,h3⟩:=eG.run hs (h (fun tr E' H'=>qN P cfg need tr H'/\Q .normal E' H') fun _ _ _ h h'=>⟨h,h'⟩);refine⟨_,_,_,ze1.draw (n:=n) (r:=.done .normal E' H') ?_ aK,h3⟩;rw[hpl];unfold lV;rw[hp];simp only[h1];rw[hn,Ro (by simpa using h2)]
 |_=>simp[aS]at hc
theorem Rp{id:Nat}{ops:List Oper}{l:List SOp}{need:List (Nat×Nat)}{E:aG}{H:Hp}{Q:AX->aG->Hp->Prop}(hpl:cfg.plan f id=.text)(hp:pL ops=true)(hs:zel N ops ops=some l)(hn:nD ops=need)
 (h:∀K:List Rc->aG->Hp->Prop,(∀tr E' H',qN P cfg need tr H'->Q .normal E' H'->K tr E' H')->eG P cfg f l [] E H K):zex P cfg f N (.draw id ops) E H Q:=
 Ii (fun ih=>by rw[hpl];rfl) hp hs hn h
theorem Ij{id:Nat}{ops:List Oper}{ord:List Nat}{l:List SOp}{need:List (Nat×Nat)}{E:aG}{H:Hp}{Q:AX->aG->Hp->Prop}(hpl:cfg.plan f id=.perm ord)(hb:wP ord ops=true)(hp:pL (ip ord ops)=true)(hs:zel N (ip ord ops) (ip ord ops)=some l)(hn:nD (ip ord ops)=need)
 (h:∀K:List Rc->aG->Hp->Prop,(∀tr E' H',qN P cfg need tr H'->Q .normal E' H'->K tr E' H')->eG P cfg f l [] E H K):zex P cfg f N (.draw id ops) E H Q:=
 Ii (fun ih=>by rw[hpl];simp only[zf8,hb]) hp hs hn h
theorem eG.nil{tr:List Rc}{E:aG}{H:Hp}{Q:List Rc->aG->Hp->Prop}(h:Q tr E H):eG P cfg f [] tr E H Q:=h
theorem eG.step{d:Nat}{op:Op}{l:List SOp}{tr:List Rc}{E:aG}{H:Hp}{Q:List Rc->aG->Hp->Prop}
 (h:aO P cfg f [⟨some d,op,none⟩] E H fun E' H'=>eG P cfg f l (tr++[⟨op,true,E,H,E'.at d,H'⟩]) E' H' Q):eG P cfg f (⟨some d,op,none⟩::l) tr E H Q:=by
 unfold aO at h;simp only[]at h;unfold eG;refine iF.mono (fun v H' hq=>?_) h;unfold aO at hq;have:(zd4 E (some d) v).at d=v:=HM;rw[this]at hq;exact hq
def aH:=@eG.step
theorem zd9{op:Op}{l:List SOp}{tr:List Rc}{E:aG}{H:Hp}{Q:List Rc->aG->Hp->Prop}(hk:jc op=.act)
 (h:aO P cfg f [⟨none,op,none⟩] E H fun E' H'=>∀v,eG P cfg f l (tr++[⟨op,true,E,H,v,H'⟩]) E' H' Q):eG P cfg f (⟨none,op,none⟩::l) tr E H Q:=by
 unfold aO at h;simp only[]at h;unfold eG;refine iF.mono (fun v H' hq=>?_) h;unfold aO at hq;exact hq v
theorem eG.guard{d:Option Nat}{op:Op}{s:Nat}{b t:Bool}{l:List SOp}{tr:List Rc}{E:aG}{H:Hp}{Q:List Rc->aG->Hp->Prop}(h:E.at s=.bool t)(h1:t=b->eG P cfg f (⟨d,op,none⟩::l) tr E H Q)(h2:t=!b->eG P cfg f l (tr++[⟨op,false,E,H,zff,H⟩]) (zd4 E d zff) H Q):
 eG P cfg f (⟨d,op,some (s,b)⟩::l) tr E H Q:=by
 unfold eG;simp only[];by_cases e:t=b
 .left
  refine⟨by rw[h,e],?_⟩;have:=h1 e;unfold eG at this;exact this
 .right
  have e2:t=!b:=by cases t<;>cases b<;>simp_all
  exact⟨.inl (by rw[h,e2]),h2 e2⟩
theorem Ik{t:TypeId}{x:Operand}{E:aG}{zeo H0' H:Hp}{v a:AV}(h:zd0 E x=some a)(h1:zfC P H t a=some v):oU P cfg ⟨.load t x,true,E,zeo,v,H0'⟩ H:=
 ⟨H,by simp only[zfk,dD,wI,Go.Ab.ret,h,h1,zfM]⟩
theorem Il{t:TypeId}{x y:Operand}{ok:Bool}{E:aG}{zeo H0' H:Hp}{v a b:AV}(h:zd0 E x=some a)(h1:zd0 E y=some b)(h2:zge P H t a b ok=some v):oU P cfg ⟨.lookup t x y ok,true,E,zeo,v,H0'⟩ H:=
 ⟨H,by simp only[zfk,dD,wN,Go.Ab.ret,h,h1,h2,zfM]⟩
theorem Im{t:TypeId}{x:Operand}{E:aG}{zeo H0' H:Hp}{v a:AV}(h:zd0 E x=some a)(h1:zeR P H t a=some v):oU P cfg ⟨.call ⟨.builtin .len,#[x],#[t]⟩,true,E,zeo,v,H0'⟩ H:=
 ⟨H,by simp only[zfk,qB,zfV,h,oI,h1,zfM]⟩
theorem In{s t:TypeId}{x:Operand}{E:aG}{zeo H0' H:Hp}{v a:AV}(h:zd0 E x=some a)(h1:jq P H s t a=some v):oU P cfg ⟨.convert s t x,true,E,zeo,v,H0'⟩ H:=
 ⟨H,by simp only[zfk,dD,wJ,Go.Ab.ret,h,h1,zfM]⟩
theorem Io{t:TypeId}{x:Operand}{lo hi:Option Operand}{lv hv:Option AV}{E:aG}{zeo H0' H:Hp}{v a:AV}(h:zd0 E x=some a)(h1:zf5 E lo=some lv)(h2:zf5 E hi=some hv)(h3:my P H t a lv hv=some v):oU P cfg ⟨.slice t x lo hi none,true,E,zeo,v,H0'⟩ H:=
 ⟨H,by simp only[zfk,dD,wM,Go.Ab.ret,h,h1,h2,h3,zfM]⟩
theorem Ip{op:Op}{E:aG}{zeo H0' H:Hp}{v:AV}{b:HB}(hk:jc op=.make)(h:H.get zeo.next=some b)(h2:H0'.get zeo.next=some b):oU P cfg ⟨op,true,E,zeo,v,H0'⟩ H:=by
 unfold oU;rw[hk];exact⟨b,h,h2⟩
theorem Iq{tr:List Rc}{H':Hp}{i m:Nat}{r:Rc}(h:tr[i]?=some r)(hs:r.did=true->oU P cfg r (vm tr H' m)):zY P cfg tr H' i m:=by
 unfold zY;rw[h];exact hs
end
section
variable {P:Program} {cfg:Cfg} {f:FuncId} {l:List SOp} {E:aG} {H:Hp} {Q:aG -> Hp -> Prop} {d:Nat} {x y:Operand} {ts:Array TypeId} {k k':IntKind} {a b:Int}
theorem aO.min2(h:zd0 E x=some (.int k a))(h1:zd0 E y=some (.int k' b))(hk:aO P cfg f l (T.set E d (some (.int k (min a b)))) H Q):aO P cfg f (⟨some d,.call ⟨.builtin .min,#[x,y],ts⟩,none⟩::l) E H Q:=
 zU (c:=⟨.builtin .min,#[x,y],ts⟩) rfl (vs:=[.int k a,.int k' b]) Dn (v:=.int k (min a b)) (by
  simp only[oI,oH,mm,dS,bU,jt]
  congr 3;omega) hk
theorem aO.max2(h:zd0 E x=some (.int k a))(h1:zd0 E y=some (.int k' b))(hk:aO P cfg f l (T.set E d (some (.int k (max a b)))) H Q):aO P cfg f (⟨some d,.call ⟨.builtin .max,#[x,y],ts⟩,none⟩::l) E H Q:=
 zU (c:=⟨.builtin .max,#[x,y],ts⟩) rfl (vs:=[.int k a,.int k' b]) Dn (v:=.int k (max a b)) (by
  simp only[oI,oH,mm,bN,jt]
  congr 3;omega) hk
end
attribute [irreducible] eG
abbrev fL(l:List (List UInt8)):AV:=.lst (l.map fun s=>[.str s])
abbrev zeG(l:List Int):AV:=.lst (l.map fun n=>[.int .i64 n])
def str(s:String):List UInt8:=s.toUTF8.data.toList
inductive Ex where
 |mk (kind:Int) (n:Int) (name:List UInt8) (op:Int) (kids:List Ex)
def Ex.kind:Ex->Int|.mk x _ _ _ _=>x
def Ex.n:Ex->Int|.mk _ x _ _ _=>x
def Ex.name:Ex->List UInt8|.mk _ _ x _ _=>x
def Ex.op:Ex->Int|.mk _ _ _ x _=>x
def Ex.kids:Ex->List Ex|.mk _ _ _ _ x=>x
mutual
def Ex.cells:Ex->List AV
 | .mk a0 a1 a2 a3 a4=>[.int .i64 a0,.int .i64 a1,.str a2,.int .i64 a3,.lst (zZ a4)]
def zZ:List Ex->List (List AV)
 |[]=>[]
 |x::xs=>Ex.cells x::zZ xs
end
theorem Ir:∀l:List Ex,zZ l=l.map Ex.cells
 |[]=>rfl
 |x::xs=>by rw[zZ,Ir xs];rfl
theorem Ex.cells_eq(x:Ex):x.cells=[.int .i64 x.kind,.int .i64 x.n,.str x.name,.int .i64 x.op,.lst (x.kids.map Ex.cells)]:=by
 cases x;simp only[Ex.cells,Ir,Ex.kind,Ex.n,Ex.name,Ex.op,Ex.kids]
def oV:=@Ex.cells_eq
theorem Ex.clen(x:Ex):x.cells.length=5:=rY
theorem Ex.c0(x:Ex):x.cells[0]?=some (.int .i64 x.kind):=rY
theorem Ex.c1(x:Ex):x.cells[1]?=some (.int .i64 x.n):=rY
theorem Ex.c2(x:Ex):x.cells[2]?=some (.str x.name):=rY
theorem Ex.c3(x:Ex):x.cells[3]?=some (.int .i64 x.op):=rY
theorem Ex.c4(x:Ex):x.cells[4]?=some (.lst (x.kids.map Ex.cells)):=rY
theorem Ex.whole(x:Ex):ze6 5 x.cells=some (.agg x.cells):=by unfold ze6;rw[oV];rfl
theorem Ex.one(x:Ex):x.cells.all AV.one=true:=rY
inductive St where
 |mk (kind:Int) (name:List UInt8) (to:List UInt8) (n:Int) (at_:Ex) (value:Ex) (args:List Ex) (thn:List St) (els:List St)
def St.kind:St->Int|.mk x _ _ _ _ _ _ _ _=>x
def St.name:St->List UInt8|.mk _ x _ _ _ _ _ _ _=>x
def St.to:St->List UInt8|.mk _ _ x _ _ _ _ _ _=>x
def St.n:St->Int|.mk _ _ _ x _ _ _ _ _=>x
def St.at_:St->Ex|.mk _ _ _ _ x _ _ _ _=>x
def St.value:St->Ex|.mk _ _ _ _ _ x _ _ _=>x
def St.args:St->List Ex|.mk _ _ _ _ _ _ x _ _=>x
def St.thn:St->List St|.mk _ _ _ _ _ _ _ x _=>x
def St.els:St->List St|.mk _ _ _ _ _ _ _ _ x=>x
mutual
def St.cells:St->List AV
 | .mk a0 a1 a2 a3 a4 a5 a6 a7 a8=>[.int .i64 a0,.str a1,.str a2,.int .i64 a3,.int .i64 a4.kind,.int .i64 a4.n,.str a4.name,.int .i64 a4.op,.lst (a4.kids.map Ex.cells),.int .i64 a5.kind,.int .i64 a5.n,.str a5.name,.int .i64 a5.op,.lst (a5.kids.map Ex.cells),.lst (a6.map Ex.cells),.lst (xz a7),.lst (xz a8)]
def xz:List St->List (List AV)
 |[]=>[]
 |x::xs=>St.cells x::xz xs
end
theorem Is:∀l:List St,xz l=l.map St.cells
 |[]=>rfl
 |x::xs=>by rw[xz,Is xs];rfl
theorem St.cells_eq(x:St):x.cells=[.int .i64 x.kind,.str x.name,.str x.to,.int .i64 x.n,.int .i64 x.at_.kind,.int .i64 x.at_.n,.str x.at_.name,.int .i64 x.at_.op,.lst (x.at_.kids.map Ex.cells),.int .i64 x.value.kind,.int .i64 x.value.n,.str x.value.name,.int .i64 x.value.op,.lst (x.value.kids.map Ex.cells),.lst (x.args.map Ex.cells),.lst (x.thn.map St.cells),.lst (x.els.map St.cells)]:=by
 cases x;simp only[St.cells,Is,St.kind,St.name,St.to,St.n,St.at_,St.value,St.args,St.thn,St.els]
def tK:=@St.cells_eq
theorem St.clen(x:St):x.cells.length=17:=jv
theorem St.c0(x:St):x.cells[0]?=some (.int .i64 x.kind):=jv
theorem St.c1(x:St):x.cells[1]?=some (.str x.name):=jv
theorem St.c2(x:St):x.cells[2]?=some (.str x.to):=jv
theorem St.c3(x:St):x.cells[3]?=some (.int .i64 x.n):=jv
theorem St.c4(x:St):x.cells[4]?=some (.int .i64 x.at_.kind):=jv
theorem St.c5(x:St):x.cells[5]?=some (.int .i64 x.at_.n):=jv
theorem St.c6(x:St):x.cells[6]?=some (.str x.at_.name):=jv
theorem St.c7(x:St):x.cells[7]?=some (.int .i64 x.at_.op):=jv
theorem St.c8(x:St):x.cells[8]?=some (.lst (x.at_.kids.map Ex.cells)):=jv
theorem St.c9(x:St):x.cells[9]?=some (.int .i64 x.value.kind):=jv
theorem St.c10(x:St):x.cells[10]?=some (.int .i64 x.value.n):=jv
theorem St.c11(x:St):x.cells[11]?=some (.str x.value.name):=jv
theorem St.c12(x:St):x.cells[12]?=some (.int .i64 x.value.op):=jv
theorem St.c13(x:St):x.cells[13]?=some (.lst (x.value.kids.map Ex.cells)):=jv
theorem St.c14(x:St):x.cells[14]?=some (.lst (x.args.map Ex.cells)):=jv
theorem St.c15(x:St):x.cells[15]?=some (.lst (x.thn.map St.cells)):=jv
theorem St.c16(x:St):x.cells[16]?=some (.lst (x.els.map St.cells)):=jv
theorem St.whole(x:St):ze6 17 x.cells=some (.agg x.cells):=by unfold ze6;rw[tK];rfl
theorem St.one(x:St):x.cells.all AV.one=true:=jv
theorem Rq(x:St):ze6 5 (x.cells.drop 4)=some (.agg x.at_.cells):=by unfold ze6;rw[tK,oV];rfl
theorem St.part_value(x:St):ze6 5 (x.cells.drop 9)=some (.agg x.value.cells):=by unfold ze6;rw[tK,oV];rfl
structure Fu where
 name:List UInt8
 params:List (List UInt8)
 locals:List (List UInt8)
 body:List St
 value:Ex
def Fu.cells(x:Fu):List AV:=[.str x.name,fL x.params,fL x.locals,.lst (x.body.map St.cells),.int .i64 x.value.kind,.int .i64 x.value.n,.str x.value.name,.int .i64 x.value.op,.lst (x.value.kids.map Ex.cells)]
theorem Fu.cells_eq(x:Fu):x.cells=[.str x.name,fL x.params,fL x.locals,.lst (x.body.map St.cells),.int .i64 x.value.kind,.int .i64 x.value.n,.str x.value.name,.int .i64 x.value.op,.lst (x.value.kids.map Ex.cells)]:=rfl
def xA:=@Fu.cells_eq
theorem Fu.clen(x:Fu):x.cells.length=9:=oQ
theorem Fu.c0(x:Fu):x.cells[0]?=some (.str x.name):=oQ
theorem Fu.c1(x:Fu):x.cells[1]?=some (fL x.params):=oQ
theorem Fu.c2(x:Fu):x.cells[2]?=some (fL x.locals):=oQ
theorem Fu.c3(x:Fu):x.cells[3]?=some (.lst (x.body.map St.cells)):=oQ
theorem Fu.c4(x:Fu):x.cells[4]?=some (.int .i64 x.value.kind):=oQ
theorem Fu.c5(x:Fu):x.cells[5]?=some (.int .i64 x.value.n):=oQ
theorem Fu.c6(x:Fu):x.cells[6]?=some (.str x.value.name):=oQ
theorem Fu.c7(x:Fu):x.cells[7]?=some (.int .i64 x.value.op):=oQ
theorem Fu.c8(x:Fu):x.cells[8]?=some (.lst (x.value.kids.map Ex.cells)):=oQ
theorem Fu.whole(x:Fu):ze6 9 x.cells=some (.agg x.cells):=by unfold ze6;rw[xA];rfl
theorem Fu.one(x:Fu):x.cells.all AV.one=true:=oQ
theorem Fu.part_value(x:Fu):ze6 5 (x.cells.drop 4)=some (.agg x.value.cells):=by unfold ze6;rw[xA,oV];rfl
structure Ar where
 name:List UInt8
 len:Int
def Ar.cells(x:Ar):List AV:=[.str x.name,.int .i64 x.len]
theorem Ar.cells_eq(x:Ar):x.cells=[.str x.name,.int .i64 x.len]:=rfl
theorem Ar.clen(x:Ar):x.cells.length=2:=zJ
theorem Ar.c0(x:Ar):x.cells[0]?=some (.str x.name):=zJ
theorem Ar.c1(x:Ar):x.cells[1]?=some (.int .i64 x.len):=zJ
theorem Ar.whole(x:Ar):ze6 2 x.cells=some (.agg x.cells):=by unfold ze6;rw[Ar.cells_eq];rfl
theorem Ar.one(x:Ar):x.cells.all AV.one=true:=zJ
structure Pr where
 arrays:List Ar
 funcs:List Fu
def Pr.cells(x:Pr):List AV:=[.lst (x.arrays.map Ar.cells),.lst (x.funcs.map Fu.cells)]
theorem Pr.cells_eq(x:Pr):x.cells=[.lst (x.arrays.map Ar.cells),.lst (x.funcs.map Fu.cells)]:=rfl
theorem Pr.clen(x:Pr):x.cells.length=2:=zK
theorem Pr.c0(x:Pr):x.cells[0]?=some (.lst (x.arrays.map Ar.cells)):=zK
theorem Pr.c1(x:Pr):x.cells[1]?=some (.lst (x.funcs.map Fu.cells)):=zK
theorem Pr.whole(x:Pr):ze6 2 x.cells=some (.agg x.cells):=by unfold ze6;rw[Pr.cells_eq];rfl
theorem Pr.one(x:Pr):x.cells.all AV.one=true:=zK
structure Tk where
 kind:Int
 text:List UInt8
 at_:Int
def Tk.cells(x:Tk):List AV:=[.int .i64 x.kind,.str x.text,.int .i64 x.at_]
theorem Tk.cells_eq(x:Tk):x.cells=[.int .i64 x.kind,.str x.text,.int .i64 x.at_]:=rfl
theorem Tk.clen(x:Tk):x.cells.length=3:=xq
theorem Tk.c0(x:Tk):x.cells[0]?=some (.int .i64 x.kind):=xq
theorem Tk.c1(x:Tk):x.cells[1]?=some (.str x.text):=xq
theorem Tk.c2(x:Tk):x.cells[2]?=some (.int .i64 x.at_):=xq
theorem Tk.whole(x:Tk):ze6 3 x.cells=some (.agg x.cells):=by unfold ze6;rw[Tk.cells_eq];rfl
theorem Tk.one(x:Tk):x.cells.all AV.one=true:=xq
structure Nd where
 op:Int
 imm:Int
 kids:List Int
def Nd.cells(x:Nd):List AV:=[.int .i64 x.op,.int .i64 x.imm,zeG x.kids]
theorem Nd.cells_eq(x:Nd):x.cells=[.int .i64 x.op,.int .i64 x.imm,zeG x.kids]:=rfl
theorem Nd.clen(x:Nd):x.cells.length=3:=xr
theorem Nd.c0(x:Nd):x.cells[0]?=some (.int .i64 x.op):=xr
theorem Nd.c1(x:Nd):x.cells[1]?=some (.int .i64 x.imm):=xr
theorem Nd.c2(x:Nd):x.cells[2]?=some (zeG x.kids):=xr
theorem Nd.whole(x:Nd):ze6 3 x.cells=some (.agg x.cells):=by unfold ze6;rw[Nd.cells_eq];rfl
theorem Nd.one(x:Nd):x.cells.all AV.one=true:=xr
structure Gr where
 name:List UInt8
 params:Int
 nodes:List Nd
 value:Int
 state:Int
def Gr.cells(x:Gr):List AV:=[.str x.name,.int .i64 x.params,.lst (x.nodes.map Nd.cells),.int .i64 x.value,.int .i64 x.state]
theorem Gr.cells_eq(x:Gr):x.cells=[.str x.name,.int .i64 x.params,.lst (x.nodes.map Nd.cells),.int .i64 x.value,.int .i64 x.state]:=rfl
theorem Gr.clen(x:Gr):x.cells.length=5:=tF
theorem Gr.c0(x:Gr):x.cells[0]?=some (.str x.name):=tF
theorem Gr.c1(x:Gr):x.cells[1]?=some (.int .i64 x.params):=tF
theorem Gr.c2(x:Gr):x.cells[2]?=some (.lst (x.nodes.map Nd.cells)):=tF
theorem Gr.c3(x:Gr):x.cells[3]?=some (.int .i64 x.value):=tF
theorem Gr.c4(x:Gr):x.cells[4]?=some (.int .i64 x.state):=tF
theorem Gr.whole(x:Gr):ze6 5 x.cells=some (.agg x.cells):=by unfold ze6;rw[Gr.cells_eq];rfl
theorem Gr.one(x:Gr):x.cells.all AV.one=true:=tF
structure Un where
 arrays:List Ar
 funcs:List Gr
def Un.cells(x:Un):List AV:=[.lst (x.arrays.map Ar.cells),.lst (x.funcs.map Gr.cells)]
theorem Un.cells_eq(x:Un):x.cells=[.lst (x.arrays.map Ar.cells),.lst (x.funcs.map Gr.cells)]:=rfl
theorem Un.clen(x:Un):x.cells.length=2:=zL
theorem Un.c0(x:Un):x.cells[0]?=some (.lst (x.arrays.map Ar.cells)):=zL
theorem Un.c1(x:Un):x.cells[1]?=some (.lst (x.funcs.map Gr.cells)):=zL
theorem Un.whole(x:Un):ze6 2 x.cells=some (.agg x.cells):=by unfold ze6;rw[Un.cells_eq];rfl
theorem Un.one(x:Un):x.cells.all AV.one=true:=zL
end Go.Ab
namespace Go.Proofs.YtpbcimfiofmoeaaGreat
set_option maxRecDepth 20000
open Go Go.Ab
theorem fit:Fit Tryz.prog:=Fit.of aC
def pls:List (Nat×Nat×Plan):=[(26,36,(.split 10 13 .text (.perm [0,1,2,3,4,5,6,7,8,9,11,12,13,10]))),
 (26,41,(.split 11 14 .text (.perm [0,1,2,3,4,5,6,7,8,9,10,12,13,14,11]))),
 (32,14,(.perm [0,1,2,4,5,7,9,3,6,8,10])),
 (90,23,(.perm [0,1,2,3,4,5,6,7,9,10,11,12,13,14,8,15,16,17,18,19])),
 (90,24,(.perm [0,1,2,3,4,5,6,8,9,10,11,12,13,7,14,15,16])),
 (111,4,(.perm [0,1,2,4,5,7,8,10,11,12,3,6,9,13,14,15,16])),
 (163,23,(.perm [0,2,3,4,5,6,7,1,8,9]))]
end Go.Proofs.YtpbcimfiofmoeaaGreat
