/- Parts: AbFuel, AbEnv, AbWp, Tree, SpecI, Spec4, Spec6, VeS, Sem6, Rep6, AbWd, Rep6c, EvS, AbWt. -/
import Derived.IntWalk
import Derived.Test.YtljebeflbbgibaaGreatWCD
set_option linter.unusedSimpArgs false
set_option linter.unusedVariables false
set_option linter.unusedSectionVars false
set_option linter.defProp false
set_option maxHeartbeats 32000000
namespace Go.Ab
set_option maxRecDepth 20000
open Go
theorem pw{P:Prop}(h:P:=by rw[hr];simp):P:=h
theorem jC{P:Prop}(h:P:=by simp[QR,SO,RR]):P:=h
theorem ru{P:Prop}(h:P:=by unfold Qr;rw[h]):P:=h
theorem mc{P:Prop}(h:P:=by rw[Ex.cells_eq];rfl):P:=h
theorem fb{P:Prop}(h:P:=by rw[St.cells_eq];rfl):P:=h
theorem i7{P:Prop}(h:P:=by rw[Fu.cells_eq];rfl):P:=h
theorem rv{P:Prop}(h:P:=by rw[Ar.cells_eq];rfl):P:=h
theorem rx{P:Prop}(h:P:=by rw[Pr.cells_eq];rfl):P:=h
theorem px{P:Prop}(h:P:=by rw[Tk.cells_eq];rfl):P:=h
theorem py{P:Prop}(h:P:=by rw[Nd.cells_eq];rfl):P:=h
theorem md{P:Prop}(h:P:=by rw[Gr.cells_eq];rfl):P:=h
theorem ry{P:Prop}(h:P:=by rw[Un.cells_eq];rfl):P:=h
theorem kq{P:Prop}(h:P:=by rw[SV];omega):P:=h
theorem bA{P:Prop}(h:P:=by decide):P:=h
theorem xz{P:Prop}(h:P:=by simp only[Qo,uA,beq_self_eq_true,cond_true]):P:=h
def rz:=@Nat.le_max_left
def rA:=@Nat.le_max_right
def ut:=@cond_false
def cX:=@Int.eq_ofNat_of_zero_le
def cN:=@List.getD_eq_getElem?_getD
def pz:=@List.headD_cons
def gN:=@Bool.false_and
def cY:=@Int.toNat_natCast
def dh:=@Nat.lt_succ_self
def me:=@List.length_set
def uu:=@List.any_cons
def uv:=@Bool.or_assoc
def uw:=@List.any_eq_true
def ku:=@of_decide_eq_true
def nz:=@List.getElem?_replicate
def f0:=@Bool.and_true
def lg:=@and_self
end Go.Ab
namespace Go.Ab
set_option maxRecDepth 20000
open Go
def RG(ih ih':Task->Res):Prop:=∀t,ih t≠.fail->ih' t=ih t
section
variable {P:Program} {cfg:Cfg} {ih ih':Task -> Res}
theorem rB(h:RG ih ih'){f:FuncId}{E:ai}{H:Hp}{op:Op}(m:QU P cfg ih f E H op≠.fail):QU P cfg ih' f E H op=QU P cfg ih f E H op:=by
 unfold QU at *;split
 .rename_i c;unfold kP at *;split
  .rename_i g A;simp only[A]at m;split
   .rename_i k o vs i Z;simp only[i,Z]at m;exact h _ m
   .rfl
  .rfl
  .rfl
 .rfl
theorem pA{f N:Nat}{U:List Oper}{o:Oper}{l:List Oper}{E:ai}{H:Hp}:jq P cfg ih f N U (o::l) E H=match RL U E o with
 |true=>match QU P cfg ih f E H o.op with
  | .val v H=>RX (jq P cfg ih f N U l) H (Q9 N E o.dst v)
  |_=>.fail
 |false=>RX (jq P cfg ih f N U l) H (Q9 N E o.dst QQ):=rfl
theorem rC(h:RG ih ih'){f N:Nat}{U:List Oper}:∀{l:List Oper}{E:ai}{H:Hp},jq P cfg ih f N U l E H≠.fail->jq P cfg ih' f N U l E H=jq P cfg ih f N U l E H
 |[],_,_,_=>rfl
 |o::l,E,H,hn=>by
  rw[pA]at hn⊢;rw[pA];cases L:RL U E o with
  |true=>
   simp only[L]at hn⊢;cases Z:QU P cfg ih f E H o.op with
   |fail=>simp[Z]at hn
   |done x E1 H1=>simp[Z]at hn
   |val v H1=>
    rw[rB h (by rw[Z];simp),Z];simp only[Z]at hn⊢;cases hp:Q9 N E o.dst v with
    |none=>rfl
    |some E1=>
     rw[hp]at hn;exact rC h hn
  |false=>
   simp only[L]at hn⊢;cases hp:Q9 N E o.dst QQ with
   |none=>rfl
   |some E1=>
    rw[hp]at hn;exact rC h hn
theorem rD(h:RG ih ih'){f N:Nat}{U:List Oper}:∀{l:List Oper}{E:ai}{H:Hp},eJ P cfg ih f N U l E H≠.fail->eJ P cfg ih' f N U l E H=eJ P cfg ih f N U l E H
 |[],_,_,_=>rfl
 |o::l,E,H,hn=>by
  have K:∀{r:Rec}{x:ResD},ip r x≠.fail->x≠.fail:=fun{r x} C e=>C (by rw[e];rfl);simp only[eJ]at hn⊢;cases L:RL U E o with
  |true=>
   simp only[L]at hn⊢;cases Z:QU P cfg ih f E H o.op with
   |fail=>simp[Z]at hn
   |done x E1 H1=>simp[Z]at hn
   |val v H1=>
    rw[rB h (by rw[Z];simp),Z];simp only[Z]at hn⊢;cases hp:Q9 N E o.dst v with
    |none=>rfl
    |some E1=>
     rw[hp]at hn;have:=rD h (K hn);simp only[Sy,this]
  |false=>
   simp only[L]at hn⊢;cases hp:Q9 N E o.dst QQ with
   |none=>rfl
   |some E1=>
    rw[hp]at hn;have:=rD h (K hn);simp only[Sy,this]
theorem xA(h:RG ih ih'){f N:Nat}{ops:List Oper}{E:ai}{H:Hp}(m:Sn P cfg ih f N ops E H≠.fail):Sn P cfg ih' f N ops E H=Sn P cfg ih f N ops E H:=by
 unfold Sn at *;split
 .rename_i hc;simp only[hc]at m;cases hr:eJ P cfg ih f N ops ops E H with
  |fail=>simp[hr]at m
  |done E1 H1 rs=>rw[rD h pw,hr]
 .rfl
theorem Dx{ops:List Oper}{PV Qq L M:Res}(i:PV≠.fail->L=PV)(g:Qq≠.fail->M=Qq)(m:lW ops PV Qq≠.fail):lW ops L M=lW ops PV Qq:=by
 have Y:PV≠.fail:=fun e=>m (by rw[e];rfl);have Z:Qq≠.fail:=fun e=>m (by rw[e];unfold lW;split<;>simp_all);rw[i Y,g Z]
theorem ux(h:RG ih ih'){f N:Nat}{E:ai}{H:Hp}:∀{z:Plan}{ops:List Oper},RW P cfg ih f N E H z ops≠.fail->RW P cfg ih' f N E H z ops=RW P cfg ih f N E H z ops
 | .text,ops,hn=>xA h hn
 | .perm ord,ops,hn=>by
   simp only[RW]at *;split
   .rename_i hp;simp only[hp]at hn;exact xA h hn
   .rfl
 | .split p q a b,ops,hn=>by
   simp only[RW]at *;split
   .rfl
   .rename_i hp;simp only[hp]at hn;exact Dx (fun i=>ux h i) (fun g=>ux h g) hn
theorem uy(h:RG ih ih'){f:FuncId}{Y:List AV}{H:Hp}(m:Sz P ih f Y H≠.fail):Sz P ih' f Y H=Sz P ih f Y H:=by
 unfold Sz at *;split
 .rename_i L g;simp only[g]at m;split
  .rename_i c z;simp only[z]at m;cases hr:ih (.code f (max L.ntmps Y.length) c (PZ 0 Y (lX (max L.ntmps Y.length))) H)with
   |fail=>simp[hr]at m
   |val v H1=>rw[h _ pw,hr]
   |done x E1 H1=>rw[h _ pw,hr]
  .rfl
 .rfl
theorem Dy(h:RG ih ih'){f:FuncId}{Y:List AV}{H:Hp}(m:SB P cfg ih f Y H≠.fail):SB P cfg ih' f Y H=SB P cfg ih f Y H:=by
 unfold SB at *;split
 .rename_i F;simp only[F]at m;unfold oR at *;split
  .rename_i i H' K;simp only[K]at m;split
   .rfl
   .rename_i Z;simp only[Z]at m;exact uy h m
  .rename_i K;simp only[K]at m;exact uy h m
 .rename_i F;simp only[F]at m;exact uy h m
theorem xB(h:RG ih ih'){f N:Nat}{b:Code}{r i:Res}(hr:r≠.fail->i=r)(m:SA ih f N b r≠.fail):SA ih' f N b i=SA ih f N b r:=by
 cases r with
 |fail=>simp[SA]at m
 |val v H1=>rw[hr aA];rfl
 |done x E1 H1=>
  rw[hr aA];cases x with
  |normal=>exact h _ m
  |exit id=>rfl
  |ret=>rfl
theorem Dz(h:RG ih ih'){t:Task}(m:step P cfg ih t≠.fail):step P cfg ih' t=step P cfg ih t:=by
 cases t with
 |call f Y H=>
  simp only[step]at *;split
  .rfl
  .rename_i hc;simp only[hc]at m;have U:SB P cfg ih f Y H≠.fail:=fun e=>m (by rw[e];unfold na;split<;>simp_all);rw[Dy h U]
 |code f N c E H=>
  cases c with
  |region id ops draw=>cases draw with
   |false=>exact rC h m
   |true=>exact ux h m
  |seq a b=>exact xB h (h _) m
  |loop a=>exact xB h (h _) m
  |cond x a b=>
   simp only[step]at *;unfold lY at *;split
   .rename_i hc;simp only[hc]at m;exact h _ m
   .rename_i hc;simp only[hc]at m;exact h _ m
   .rfl
  |block id a=>
   simp only[step]at *;cases hr:ih (.code f N a E H)with
   |fail=>simp[hr,Ss]at m
   |val v H1=>rw[h _ pw,hr]
   |done x E1 H1=>rw[h _ pw,hr]
  |_=>rfl
theorem xC:∀n,RG (QJ P cfg n) (QJ P cfg (n+1))
 |0=>fun _ m=>(m rfl).elim
 |n+1=>fun _ m=>Dz (xC n) m
theorem uz{n m:Nat}(V:n<=m){t:Task}(Z:QJ P cfg n t≠.fail):QJ P cfg m t=QJ P cfg n t:=by
 induction m with
 |zero=>rw[show n=0 by omega]
 |succ m ih=>
  by_cases h:n=m+1
  .rw[h]
  .have:=ih aa;rw[xC m t (by rw[this];exact Z),this]
theorem rE{n m:Nat}(V:n<=m){t:Task}{r:Res}(h:QJ P cfg n t=r)(hr:r≠.fail):QJ P cfg m t=r:=by
 rw[uz V (by rw[h];exact hr),h]
def QC(P:Program)(cfg:Cfg)(t:Task)(r:Res):Prop:=r≠.fail/\∃n,QJ P cfg n t=r
theorem QC.step{t:Task}{r:Res}(hr:r≠.fail){n:Nat}(h:Ab.step P cfg (QJ P cfg n) t=r):QC P cfg t r:=⟨hr,n+1,h⟩
def fu:=@QC.step
section
variable {f N id:Nat} {a b:Code} {x:Operand} {E E1:ai} {H H1:Hp} {r:Res} {ex:AX}
theorem QC.seq(i:QC P cfg (.code f N a E H) (.done .normal E1 H1))(g:QC P cfg (.code f N b E1 H1) r):QC P cfg (.code f N (.seq a b) E H) r:=by
 obtain⟨_,n,i⟩:=i;obtain⟨hr,m,g⟩:=g;refine fu hr (n:=max n m) ?_;show SA (QJ P cfg (max n m)) f N b (QJ P cfg (max n m) (.code f N a E H))=r;rw[rE (rz n m) i aA];exact rE (rA n m) g hr
theorem xD(i:QC P cfg (.code f N a E H) (.done ex E1 H1))(C:ex≠.normal):QC P cfg (.code f N (.seq a b) E H) (.done ex E1 H1):=by
 obtain⟨hr,n,i⟩:=i;refine fu hr (n:=n) ?_;show SA (QJ P cfg n) f N b (QJ P cfg n (.code f N a E H))=_;rw[i];cases ex with
 |normal=>exact(C rfl).elim
 |exit id=>rfl
 |ret=>rfl
theorem QC.loop(i:QC P cfg (.code f N a E H) (.done .normal E1 H1))(g:QC P cfg (.code f N (.loop a) E1 H1) r):QC P cfg (.code f N (.loop a) E H) r:=by
 obtain⟨_,n,i⟩:=i;obtain⟨hr,m,g⟩:=g;refine fu hr (n:=max n m) ?_;show SA (QJ P cfg (max n m)) f N (.loop a) (QJ P cfg (max n m) (.code f N a E H))=r;rw[rE (rz n m) i aA];exact rE (rA n m) g hr
theorem xE(i:QC P cfg (.code f N a E H) (.done ex E1 H1))(C:ex≠.normal):QC P cfg (.code f N (.loop a) E H) (.done ex E1 H1):=by
 obtain⟨hr,n,i⟩:=i;refine fu hr (n:=n) ?_;show SA (QJ P cfg n) f N (.loop a) (QJ P cfg n (.code f N a E H))=_;rw[i];cases ex with
 |normal=>exact(C rfl).elim
 |exit id=>rfl
 |ret=>rfl
theorem DA(C:PS E x=some (.bool true))(h:QC P cfg (.code f N a E H) r):QC P cfg (.code f N (.cond x a b) E H) r:=by
 obtain⟨hr,n,h⟩:=h;refine fu hr (n:=n) ?_;show lY (QJ P cfg n) f N x a b E H=r;unfold lY;rw[C];exact h
theorem DB(C:PS E x=some (.bool false))(h:QC P cfg (.code f N b E H) r):QC P cfg (.code f N (.cond x a b) E H) r:=by
 obtain⟨hr,n,h⟩:=h;refine fu hr (n:=n) ?_;show lY (QJ P cfg n) f N x a b E H=r;unfold lY;rw[C];exact h
theorem QC.block(h:QC P cfg (.code f N a E H) (.done (.exit id) E1 H1)):QC P cfg (.code f N (.block id a) E H) (.done .normal E1 H1):=by
 obtain⟨hr,n,h⟩:=h;refine fu aA (n:=n) ?_;show Ss id (QJ P cfg n (.code f N a E H))=_;rw[h];simp[Ss]
theorem DC(h:QC P cfg (.code f N a E H) (.done .normal E1 H1)):QC P cfg (.code f N (.block id a) E H) (.done .normal E1 H1):=by
 obtain⟨hr,n,h⟩:=h;refine fu aA (n:=n) ?_;show Ss id (QJ P cfg n (.code f N a E H))=_;rw[h];rfl
theorem DD(h:QC P cfg (.code f N a E H) (.done .ret E1 H1)):QC P cfg (.code f N (.block id a) E H) (.done .ret E1 H1):=by
 obtain⟨hr,n,h⟩:=h;refine fu aA (n:=n) ?_;show Ss id (QJ P cfg n (.code f N a E H))=_;rw[h];rfl
theorem DE{i:Nat}(J:Nat.beq i id=false)(h:QC P cfg (.code f N a E H) (.done (.exit i) E1 H1)):QC P cfg (.code f N (.block id a) E H) (.done (.exit i) E1 H1):=by
 obtain⟨hr,n,h⟩:=h;refine fu aA (n:=n) ?_;show Ss id (QJ P cfg n (.code f N a E H))=_;rw[h];simp only[Ss,J]
theorem QC.skip:QC P cfg (.code f N .skip E H) (.done .normal E H):=fu aA (n:=0) rfl
theorem QC.exit:QC P cfg (.code f N (.exit id) E H) (.done (.exit id) E H):=fu aA (n:=0) rfl
theorem QC.ret:QC P cfg (.code f N .ret E H) (.done .ret E H):=fu aA (n:=0) rfl
theorem QC.region{ops:Array Oper}{n:Nat}(h:jq P cfg (QJ P cfg n) f N ops.toList ops.toList E H=r)(hr:r≠.fail):QC P cfg (.code f N (.region id ops false) E H) r:=fu hr (n:=n) h
theorem QC.draw{ops:Array Oper}{n:Nat}(h:RW P cfg (QJ P cfg n) f N E H (cfg.plan f id) ops.toList=r)(hr:r≠.fail):QC P cfg (.code f N (.region id ops true) E H) r:=fu hr (n:=n) h
theorem QC.call{Y:List AV}{L:Func}{c:Code}{v:AV}(j:cfg.call f Y=none)(F:cfg.ice f=false)(C:cfg.froz f=false)(g:P.funcs[f]?=some L)(z:L.body=some c)
 (h:QC P cfg (.code f (max L.ntmps Y.length) c (PZ 0 Y (lX (max L.ntmps Y.length))) H) (.done ex E1 H1)) (Z:ex=.normal\/ex=.ret) (M:m9 P L.results.toList E1 H1=.val v H1):QC P cfg (.call f Y H) (.val v H1):=by
 obtain⟨_,n,h⟩:=h;refine fu aA (n:=n) ?_;simp only[Ab.step,j,F,C,SB,na];unfold Sz;simp only[g,z,h];rcases Z with rfl|rfl<;>exact M
end
end
noncomputable section
open Go
def ov(L:List (Nat×AV))(d:Nat->AV):Nat->AV:=
 List.rec (motive:=fun _=>Nat->AV) d (fun p _ o k=>fg (Nat.beq p.1 k) p.2 (o k)) L
end
structure SOp where
 d:Option Nat
 op:Op
 g:Option (Nat×Bool)
inductive SC where
 |skip|ret|bad
 |ops (l:List SOp)
 |draw (id:Nat) (l:List Oper)
 |seq (a b:SC)
 |cond (x:Operand) (a b:SC)
 |block (id:Nat) (a:SC)
 |loop (a:SC)
 |exit (id:Nat)
def Qm(N:Nat):Option Tmp->Option (Option Nat)
 |none=>some none
 |some d=>match Nat.blt d N with
  |true=>some (some d)
  |false=>none
def Qn(U:List Oper):Option (Nat×Bool)->Option (Option (Nat×Bool))
 |none=>some none
 |some (j,b)=>match (U[j]?).bind (·.dst)with
  |some d=>some (some (d,b))
  |none=>none
def Qe(N:Nat)(U:List Oper):List Oper->Option (List SOp)
 |[]=>some []
 |o::l=>match Qm N o.dst,Qn U o.guard,Qe N U l with
  |some d,some g,some r=>some (⟨d,o.op,g⟩::r)
  |_,_,_=>none
def Qh(l:Option (List SOp)):SC:=match l with
 |some l=>.ops l
 |none=>.bad
def aB(N:Nat):Code->SC
 | .skip=>.skip
 | .region id ops draw=>match draw with
   |false=>Qh (Qe N ops.toList ops.toList)
   |true=>.draw id ops.toList
 | .seq a b=>.seq (aB N a) (aB N b)
 | .cond x a b=>.cond x (aB N a) (aB N b)
 | .block id a=>.block id (aB N a)
 | .loop a=>.loop (aB N a)
 | .exit id=>.exit id
 | .ret=>.ret
 |_=>.bad
section
variable (P:Program) (cfg:Cfg) (f N:Nat)
def P2(g:FuncId)(Y:List AV)(H:Hp)(Q:AV->Hp->Prop):Prop:=∃v H',QC P cfg (.call g Y H) (.val v H')/\Q v H'
def ec(op:Op)(E:ai)(H:Hp)(K:AV->Hp->Prop):Prop:=∃n v H',QU P cfg (QJ P cfg n) f E H op=.val v H'/\K v H'
noncomputable def Qo(E:ai):Option Nat->AV->ai
 |some d,v=>T.set E d (some v)
 |none,_=>E
def ak:List SOp->ai->Hp->(ai->Hp->Prop)->Prop
 |[],E,H,Q=>Q E H
 |o::l,E,H,Q=>match o.g with
  |none=>ec P cfg f o.op E H fun v H'=>ak l (Qo E o.d v) H' Q
  |some (s,b)=>(E.at s=.bool b/\ec P cfg f o.op E H fun v H'=>ak l (Qo E o.d v) H' Q)\/((E.at s=.bool (!b)\/E.at s=QQ)/\ak l (Qo E o.d QQ) H Q)
def Wp(c:SC)(E:ai)(H:Hp)(Q:AX->ai->Hp->Prop):Prop:=∀code,aB N code=c->∃x E' H',QC P cfg (.code f N code E H) (.done x E' H')/\Q x E' H'
end
section
variable {P:Program} {cfg:Cfg} {f N:Nat}
theorem ec.mono{op:Op}{E:ai}{H:Hp}{K O:AV->Hp->Prop}(h:∀v H',K v H'->O v H')(j:ec P cfg f op E H K):ec P cfg f op E H O:=by
 obtain⟨n,v,H',i,g⟩:=j;exact⟨n,v,H',i,h v H' g⟩
theorem Wp.mono{c:SC}{E:ai}{H:Hp}{Q O:AX->ai->Hp->Prop}(h:∀x E H,Q x E H->O x E H)(L:Wp P cfg f N c E H Q):Wp P cfg f N c E H O:=fun code hc=>by
 obtain⟨x,E',H',i,g⟩:=L code hc;exact⟨x,E',H',i,h _ _ _ g⟩
theorem Wp.skip{E:ai}{H:Hp}{Q:AX->ai->Hp->Prop}(h:Q .normal E H):Wp P cfg f N .skip E H Q:=fun code hc=>by
 cases code with
 |skip=>exact⟨_,_,_,QC.skip,h⟩
 |region id ops draw=>cases draw<;>simp only[aB,Qh,reduceCtorEq]at hc;split at hc<;>simp at hc
 |_=>simp[aB]at hc
theorem Wp.ret{E:ai}{H:Hp}{Q:AX->ai->Hp->Prop}(h:Q .ret E H):Wp P cfg f N .ret E H Q:=fun code hc=>by
 cases code with
 |ret=>exact⟨_,_,_,QC.ret,h⟩
 |region id ops draw=>cases draw<;>simp only[aB,Qh,reduceCtorEq]at hc;split at hc<;>simp at hc
 |_=>simp[aB]at hc
theorem Wp.exit{id:Nat}{E:ai}{H:Hp}{Q:AX->ai->Hp->Prop}(h:Q (.exit id) E H):Wp P cfg f N (.exit id) E H Q:=fun code hc=>by
 cases code with
 |exit i=>simp only[aB,SC.exit.injEq]at hc;subst hc;exact⟨_,_,_,QC.exit,h⟩
 |region id ops draw=>cases draw<;>simp only[aB,Qh,reduceCtorEq]at hc;split at hc<;>simp at hc
 |_=>simp[aB]at hc
def Sg(Q:AX->ai->Hp->Prop)(K:ai->Hp->Prop):AX->ai->Hp->Prop
 | .normal,E,H=>K E H
 | .exit id,E,H=>Q (.exit id) E H
 | .ret,E,H=>Q .ret E H
theorem Wp.seq{a b:SC}{E:ai}{H:Hp}{Q:AX->ai->Hp->Prop}(h:Wp P cfg f N a E H (Sg Q fun E H=>Wp P cfg f N b E H Q)):Wp P cfg f N (.seq a b) E H Q:=fun code hc=>by
 cases code with
 |seq p q=>
  simp only[aB,SC.seq.injEq]at hc;obtain⟨x,E1,H1,i,g⟩:=h p hc.1;cases x with
  |normal=>
   obtain⟨x,M,m,o,U⟩:=g q hc.2;exact⟨x,M,m,QC.seq i o,U⟩
  |exit id=>exact⟨_,_,_,xD i aA,g⟩
  |ret=>exact⟨_,_,_,xD i aA,g⟩
 |region id ops draw=>cases draw<;>simp only[aB,Qh,reduceCtorEq]at hc;split at hc<;>simp at hc
 |_=>simp[aB]at hc
def aj:=@Wp.seq
theorem Wp.cond{x:Operand}{a b:SC}{E:ai}{H:Hp}{Q:AX->ai->Hp->Prop}{t:Bool}(C:PS E x=some (.bool t))(Z:t=true->Wp P cfg f N a E H Q)(g:t=false->Wp P cfg f N b E H Q):
 Wp P cfg f N (.cond x a b) E H Q:=fun code hc=>by
 cases code with
 |cond y p q=>
  simp only[aB,SC.cond.injEq]at hc;obtain⟨rfl,o,U⟩:=hc;cases t with
  |true=>
   obtain⟨x,E1,H1,Y,i⟩:=Z rfl p o;exact⟨x,E1,H1,DA C Y,i⟩
  |false=>
   obtain⟨x,E1,H1,Y,i⟩:=g rfl q U;exact⟨x,E1,H1,DB C Y,i⟩
 |region id ops draw=>cases draw<;>simp only[aB,Qh,reduceCtorEq]at hc;split at hc<;>simp at hc
 |_=>simp[aB]at hc
def pB(id:Nat)(Q:AX->ai->Hp->Prop):AX->ai->Hp->Prop
 | .normal,E,H=>Q .normal E H
 | .exit i,E,H=>if i=id then Q .normal E H else Q (.exit i) E H
 | .ret,E,H=>Q .ret E H
theorem Wp.block{id:Nat}{a:SC}{E:ai}{H:Hp}{Q:AX->ai->Hp->Prop}(h:Wp P cfg f N a E H (pB id Q)):Wp P cfg f N (.block id a) E H Q:=fun code hc=>by
 cases code with
 |block Z p=>
  simp only[aB,SC.block.injEq]at hc;obtain⟨rfl,o⟩:=hc;obtain⟨x,E1,H1,Y,i⟩:=h p o;cases x with
  |normal=>exact⟨_,_,_,DC Y,i⟩
  |ret=>exact⟨_,_,_,DD Y,i⟩
  |exit k=>
   simp only[pB]at i;split at i
   .rename_i e;subst e;exact⟨_,_,_,QC.block Y,i⟩
   .rename_i e;exact⟨_,_,_,DE (by cases z:Nat.beq k Z with|true=>exact(e (eY z)).elim|false=>rfl) Y,i⟩
 |region id ops draw=>cases draw<;>simp only[aB,Qh,reduceCtorEq]at hc;split at hc<;>simp at hc
 |_=>simp[aB]at hc
def ay:=@Wp.block
theorem Wp.loop{a:SC}{Q:AX->ai->Hp->Prop}(I:Nat->ai->Hp->Prop)(h:∀n E H,I n E H->Wp P cfg f N a E H (Sg Q fun E H=>∃m,m<n/\I m E H)){n:Nat}{E:ai}{H:Hp}(z:I n E H):Wp P cfg f N (.loop a) E H Q:=by
 induction n using Nat.strongRecOn generalizing E H with
 |_ n ih=>
  intro code hc;cases code with
  |loop p=>
   simp only[aB,SC.loop.injEq]at hc;obtain⟨x,E1,H1,Y,i⟩:=h n E H z p hc;cases x with
   |normal=>
    obtain⟨m,V,j⟩:=i;obtain⟨x,M,Z,U,o⟩:=ih m V j (.loop p) (by simp[aB,hc]);exact⟨x,M,Z,QC.loop Y U,o⟩
   |exit id=>exact⟨_,_,_,xE Y aA,i⟩
   |ret=>exact⟨_,_,_,xE Y aA,i⟩
  |region id ops draw=>cases draw<;>simp only[aB,Qh,reduceCtorEq]at hc;split at hc<;>simp at hc
  |_=>simp[aB]at hc
theorem DF{a:SC}{Q:AX->ai->Hp->Prop}(I:Nat->ai->Hp->Prop)(U:Nat)(h:∀i E H,i<=U->I i E H->Wp P cfg f N a E H (Sg Q fun E H=>i<U/\I (i+1) E H)){E:ai}{H:Hp}(z:I 0 E H):Wp P cfg f N (.loop a) E H Q:=
 Wp.loop (fun n E H=>n<=U/\I (U-n) E H) (fun n E H j=>Wp.mono (fun x E' H' Z=>by
  cases x with
  |normal=>
   obtain⟨Y,g⟩:=Z;have:=j.1;refine⟨n-1,aa,aa,?_⟩;rw[show U-(n-1)=U-n+1 by omega];exact g
  |exit id=>exact Z
  |ret=>exact Z) (h (U-n) E H (Nat.sub_le _ _) j.2)) (n:=U) ⟨aC _,by rw[nn];exact z⟩
theorem rF{N:Nat}{Z:Option Tmp}{d:Option Nat}(h:Qm N Z=some d)(E:ai)(v:AV):Q9 N E Z v=some (Qo E d v):=by
 cases Z with
 |none=>simp only[Qm,au]at h;subst h;rfl
 |some t=>
  simp only[Qm]at h;split at h
  .rename_i z;simp only[au]at h;subst h;simp only[Q9,z,Qo]
  .simp at h
theorem xF{U:List Oper}{E:ai}{o:Oper}{g:Option (Nat×Bool)}(h:Qn U o.guard=some g):
 (g=none->RL U E o=true)/\∀s b,g=some (s,b)->(E.at s=.bool b->RL U E o=true)/\(E.at s=.bool (!b)\/E.at s=QQ->RL U E o=false):=by
 unfold RL;cases A:o.guard with
 |none=>
  rw[A]at h;simp only[Qn,au]at h;subst h;exact⟨fun _=>rfl,fun s b e=>by simp at e⟩
 |some z=>
  obtain⟨j,b⟩:=z;rw[A]at h;simp only[Qn]at h;split at h
  .rename_i d hd;simp only[au]at h;subst h;refine⟨fun e=>by simp at e,fun s K e=>?_⟩;simp only[bI]at e;obtain⟨rfl,rfl⟩:=e;simp only[qG,hd];refine⟨fun e=>by rw[e];simp,fun e=>by rcases e with e|e<;>rw[e]<;>simp[QQ]⟩
  .simp at h
theorem ak.run{U:List Oper}{Q:ai->Hp->Prop}:∀{l:List Oper}{r:List SOp}{E:ai}{H:Hp},Qe N U l=some r->ak P cfg f r E H Q ->
 ∃n E' H',jq P cfg (QJ P cfg n) f N U l E H=.done .normal E' H'/\Q E' H'
 |[],r,E,H,hs,I=>by
  simp only[Qe,au]at hs;subst hs;exact⟨0,E,H,rfl,I⟩
 |o::l,r,E,H,hs,I=>by
  simp only[Qe]at hs;split at hs
  .rename_i d g r' i h2 L;simp only[au]at hs;subst hs;obtain⟨SN,J⟩:=xF (E:=E) h2;have hop:∀{K:Prop},ec P cfg f o.op E H (fun v H'=>ak P cfg f r' (Qo E d v) H' Q)->RL U E o=true->∃n E' H',jq P cfg (QJ P cfg n) f N U (o::l) E H=.done .normal E' H'/\Q E' H':=fun{K} z C=>by
    obtain⟨n,v,H1,F,g2⟩:=z;obtain⟨m,M,V,Y,O⟩:=ak.run L g2;refine⟨max n m,M,V,?_,O⟩;have Z:∀k k',k<=k'->RG (QJ P cfg k) (QJ P cfg k'):=fun k k' j t ht=>uz j ht;rw[pA,C];simp only[];rw[rB (Z n (max n m) (rz _ _)) (by rw[F];simp),F];simp only[rF i,RX];rw[rC (Z m (max n m) (rA _ _)) (by rw[Y];simp),Y]
   unfold ak at I;cases A:g with
   |none=>
    rw[A]at I;exact hop (K:=True) I (SN A)
   |some sb=>
    obtain⟨s,b⟩:=sb;rw[A]at I;simp only[]at I;rcases I with⟨e,I⟩|⟨e,I⟩
    .exact hop (K:=True) I ((J s b A).1 e)
    .obtain⟨m,M,V,Y,O⟩:=ak.run L I;refine⟨m,M,V,?_,O⟩;rw[pA,(J s b A).2 e];simp only[rF i,RX];exact Y
  .simp at hs
theorem Wp.ops{l:List SOp}{E:ai}{H:Hp}{Q:AX->ai->Hp->Prop}(h:ak P cfg f l E H (Q .normal)):Wp P cfg f N (.ops l) E H Q:=fun code hc=>by
 cases code with
 |region id ops draw=>
  cases draw with
  |true=>simp[aB]at hc
  |false=>
   simp only[aB,Qh]at hc;split at hc
   .rename_i r hr;simp only[SC.ops.injEq]at hc;subst hc;obtain⟨n,E',H',i,g⟩:=ak.run hr h;exact⟨_,_,_,QC.region i aA,g⟩
   .simp at hc
 |_=>simp[aB]at hc
theorem PP{l:List SOp}{E:ai}{H:Hp}{Q:AX->ai->Hp->Prop}(h:∀K:ai->Hp->Prop,(∀E' H',Q .normal E' H'->K E' H')->ak P cfg f l E H K):Wp P cfg f N (.ops l) E H Q:=
 Wp.ops (h _ fun _ _ h=>h)
theorem ak.nil{E:ai}{H:Hp}{Q:ai->Hp->Prop}(h:Q E H):ak P cfg f [] E H Q:=h
theorem ec.plain{op:Op}{E:ai}{H H':Hp}{v:AV}{K:AV->Hp->Prop}(h:bP P cfg.dec E H op=some (v,H'))(m:∀c,op≠.call c)(j:K v H'):ec P cfg f op E H K:=
 ⟨0,v,H',(l9 m).2 h,j⟩
def rG:Op->Bool
 | .call _=>false
 |_=>true
theorem xG{op:Op}(h:rG op=true):∀c,op≠.call c:=fun c e=>by subst e;simp[rG]at h
theorem ak.op{d:Nat}{op:Op}{l:List SOp}{E:ai}{H H':Hp}{v:AV}{Q:ai->Hp->Prop}(m:rG op=true)(h:bP P cfg.dec E H op=some (v,H'))(j:ak P cfg f l (T.set E d (some v)) H' Q):ak P cfg f (⟨some d,op,none⟩::l) E H Q:=
 ec.plain h (xG m) j
def ej:=@ak.op
theorem xH{op:Op}{l:List SOp}{E:ai}{H H':Hp}{v:AV}{Q:ai->Hp->Prop}(m:rG op=true)(h:bP P cfg.dec E H op=some (v,H'))(j:ak P cfg f l E H' Q):ak P cfg f (⟨none,op,none⟩::l) E H Q:=
 ec.plain h (xG m) j
theorem ak.guard{d:Option Nat}{op:Op}{s:Nat}{b t:Bool}{l:List SOp}{E:ai}{H:Hp}{Q:ai->Hp->Prop}(h:E.at s=.bool t)(i:t=b->ak P cfg f (⟨d,op,none⟩::l) E H Q)(g:t=!b->ak P cfg f l (Qo E d QQ) H Q):
 ak P cfg f (⟨d,op,some (s,b)⟩::l) E H Q:=by
 unfold ak;by_cases e:t=b
 .exact .inl ⟨by rw[h,e],i e⟩
 .have:t=!b:=by cases t<;>cases b<;>simp_all
  exact .inr ⟨.inl (by rw[h,this]),g this⟩
theorem xI{d:Option Nat}{op:Op}{s:Nat}{b:Bool}{l:List SOp}{E:ai}{H:Hp}{Q:ai->Hp->Prop}{v:AV}(h:some (E.at s)=some v)(J:v=QQ)(g:ak P cfg f l (Qo E d QQ) H Q):
 ak P cfg f (⟨d,op,some (s,b)⟩::l) E H Q:=by
 subst J;unfold ak;exact .inr ⟨.inr iE,g⟩
theorem ak.call{d:Option Nat}{c:Call}{g:Operand}{k:FuncId}{cap vs:List AV}{l:List SOp}{E:ai}{H:Hp}{Q:ai->Hp->Prop}(V:c.callee=.value g)(A:PS E g=some (.clo k cap))(J:Rt E c.args.toList=some vs)
 (h:P2 P cfg k (vs++cap) H fun v H'=>ak P cfg f l (Qo E d v) H' Q):ak P cfg f (⟨d,.call c,none⟩::l) E H Q:=by
 obtain⟨v,H',⟨_,n,i⟩,Z⟩:=h;refine⟨n,v,H',?_,Z⟩;simp only[QU,kP,V,A,J];exact i
def ci:=@ak.call
theorem ak.builtin{d:Option Nat}{c:Call}{b:Builtin}{vs:List AV}{v:AV}{l:List SOp}{E:ai}{H H':Hp}{Q:ai->Hp->Prop}(V:c.callee=.builtin b)(J:Rt E c.args.toList=some vs)
 (h:SI P (cfg.keep f) H b c.argTypes.toList vs=some (v,H')) (j:ak P cfg f l (Qo E d v) H' Q):ak P cfg f (⟨d,.call c,none⟩::l) E H Q:=by
 refine⟨0,v,H',?_,j⟩;simp only[QU,kP,V,J,h]
def rH:=@ak.builtin
theorem DG{g:FuncId}{Y:List AV}{r:AV}{H:Hp}{Q:AV->Hp->Prop}(h:cfg.call g Y=some r)(I:Q r H):P2 P cfg g Y H Q:=
 ⟨r,H,fu aA (n:=0) (by simp only[step,h]),I⟩
theorem DH{g:FuncId}{Y i:List AV}{r:AV}{H H':Hp}{Q:AV->Hp->Prop}(z:cfg.call g Y=none)(F:cfg.ice g=true)(C:cfg.froz g=false)(K:fR (eg 100) Y H=some (i,H'))(h:cfg.call g i=some r)(I:Q r H'):P2 P cfg g Y H Q:=
 ⟨r,H',fu aA (n:=0) (by simp only[step,z,SB,F,C,na,oR,K,h]),I⟩
theorem P2.mono{g:FuncId}{Y:List AV}{H:Hp}{Q O:AV->Hp->Prop}(h:∀v H',Q v H'->O v H')(L:P2 P cfg g Y H Q):P2 P cfg g Y H O:=by
 obtain⟨v,H',i,Z⟩:=L;exact⟨v,H',i,h _ _ Z⟩
def b3:=@P2.mono
theorem P2.body{g:FuncId}{Y:List AV}{H:Hp}{L:Func}{c:Code}{Q:AV->Hp->Prop}(j:cfg.call g Y=none)(F:cfg.ice g=false)(C:cfg.froz g=false)(Z:P.funcs[g]?=some L)(z:L.body=some c)
 (h:Wp P cfg g (max L.ntmps Y.length) (aB (max L.ntmps Y.length) c) (PZ 0 Y (lX (max L.ntmps Y.length))) H (fun x E' H'=>(x=.normal\/x=.ret)/\∃vs,SP P E' H' L.results.toList=some vs/\Q (PT vs) H')):P2 P cfg g Y H Q:=by
 obtain⟨x,E',H',i,V,vs,U,o⟩:=h c rfl;exact⟨PT vs,H',QC.call j F C Z z i V (by unfold m9;rw[U]),o⟩
theorem P4{g:FuncId}{Y:List AV}{H:Hp}{L:Func}{c:Code}{s:SC}{M:Nat}{rs:List ResultVar}{Q:AV->Hp->Prop}(j:cfg.call g Y=none)(F:cfg.ice g=false)(C:cfg.froz g=false)(Z:P.funcs[g]?=some L)(z:L.body=some c)(V:max L.ntmps Y.length=M)
 (K:aB M c=s) (hr:L.results.toList=rs) (h:Wp P cfg g M s (PZ 0 Y (lX M)) H (fun x E' H'=>(x=.normal\/x=.ret)/\∃vs,SP P E' H' rs=some vs/\Q (PT vs) H')):P2 P cfg g Y H Q:=by
 subst V K hr;exact P2.body j F C Z z h
theorem xJ(fit:Fit P){ρ:Nat->Int}(F:hM cfg.dec ρ)(V:∀f Y r,cfg.call f Y=some r->aX P ρ f Y r){g:FuncId}{Y:List AV}{r:AV}{k m:Nat}
 (Z:SQ k Y=true) (h:P2 P cfg g Y Qv fun v H'=>iceV H' m v=some r):aX P ρ g Y r:=by
 obtain⟨v,H',⟨_,n,i⟩,U⟩:=h;exact uo fit F V (n:=n) (m:=m) Z (by unfold oS;rw[i];exact U)
section
variable {l:List SOp} {E:ai} {H H':Hp} {Q:ai -> Hp -> Prop} {d:Nat} {v a b:AV} {x y:Operand} {t u:TypeId}
theorem ak.move(h:PS E x=some v)(j:ak P cfg f l (T.set E d (some v)) H Q):ak P cfg f (⟨some d,.move x,none⟩::l) E H Q:=ej rfl (by simp only[bP,Go.Ab.ret,h]) j
theorem ak.assign(h:PS E x=some v)(j:ak P cfg f l (T.set E d (some v)) H Q):ak P cfg f (⟨some d,.assign x,none⟩::l) E H Q:=ej rfl (by simp only[bP,Go.Ab.ret,h]) j
theorem ak.pick{z:Operand}{t:Bool}(h:PS E x=some (.bool t))(i:PS E y=some a)(g:PS E z=some b)(j:ak P cfg f l (T.set E d (some (fg t a b))) H Q):ak P cfg f (⟨some d,.pick x y z,none⟩::l) E H Q:=
 ej rfl (by cases t<;>simp only[bP,qt,Go.Ab.ret,h,i,g]<;>rfl) j
theorem ak.load(h:PS E x=some a)(i:Ru P H t a=some v)(j:ak P cfg f l (T.set E d (some v)) H Q):ak P cfg f (⟨some d,.load t x,none⟩::l) E H Q:=ej rfl (by simp only[bP,oJ,Go.Ab.ret,h,i]) j
theorem ak.store(h:PS E x=some a)(i:PS E y=some b)(g:RT P H t a b=some H')(j:ak P cfg f l E H' Q):ak P cfg f (⟨none,.store t x y,none⟩::l) E H Q:=xH rfl (by simp only[bP,qv,h,i,g];rfl) j
def jD:=@ak.store
theorem ak.nilCheck{r o:Nat}(h:PS E x=some (.ptr r o))(j:ak P cfg f l (T.set E d (some (.ptr r o))) H Q):ak P cfg f (⟨some d,.nilCheck x,none⟩::l) E H Q:=ej rfl (by simp only[bP,qw,h]) j
theorem ak.bin{op:BinOp}(h:PS E x=some a)(i:PS E y=some b)(g:QR P cfg.dec op t a b=some v)(j:ak P cfg f l (T.set E d (some v)) H Q):ak P cfg f (⟨some d,.binOp op t x y u,none⟩::l) E H Q:=
 ej rfl (by simp only[bP,qx,Go.Ab.ret,h,i,g]) j
theorem ak.un{op:UnOp}(h:PS E x=some a)(g:j4 op a=some v)(j:ak P cfg f l (T.set E d (some v)) H Q):ak P cfg f (⟨some d,.unOp op t x,none⟩::l) E H Q:=ej rfl (by simp only[bP,qy,Go.Ab.ret,h,g]) j
theorem ak.convert(h:PS E x=some a)(g:RU P H t u a=some v)(j:ak P cfg f l (T.set E d (some v)) H Q):ak P cfg f (⟨some d,.convert t u x,none⟩::l) E H Q:=ej rfl (by simp only[bP,oK,Go.Ab.ret,h,g]) j
theorem ak.fieldAddr{i:Nat}(h:PS E x=some a)(g:PW P t a i=some v)(j:ak P cfg f l (T.set E d (some v)) H Q):ak P cfg f (⟨some d,.fieldAddr t x i,none⟩::l) E H Q:=ej rfl (by simp only[bP,qA,Go.Ab.ret,h,g]) j
def xK:=@ak.fieldAddr
theorem ak.field{i:Nat}(h:PS E x=some a)(g:Qu P t a i=some v)(j:ak P cfg f l (T.set E d (some v)) H Q):ak P cfg f (⟨some d,.field t x i,none⟩::l) E H Q:=ej rfl (by simp only[bP,qB,Go.Ab.ret,h,g]) j
theorem ak.indexAddr(h:PS E x=some a)(i:PS E y=some b)(g:Qt P t a b=some v)(j:ak P cfg f l (T.set E d (some v)) H Q):ak P cfg f (⟨some d,.indexAddr t x y,none⟩::l) E H Q:=ej rfl (by simp only[bP,qC,Go.Ab.ret,h,i,g]) j
def xL:=@ak.indexAddr
theorem ak.index(h:PS E x=some a)(i:PS E y=some b)(g:jl P t a b=some v)(j:ak P cfg f l (T.set E d (some v)) H Q):ak P cfg f (⟨some d,.index t x y,none⟩::l) E H Q:=ej rfl (by simp only[bP,qD,Go.Ab.ret,h,i,g]) j
theorem ak.extract{i:Nat}(h:PS E x=some a)(g:Ab.extract a i=some v)(j:ak P cfg f l (T.set E d (some v)) H Q):ak P cfg f (⟨some d,.extract x i,none⟩::l) E H Q:=ej rfl (by simp only[bP,qF,Go.Ab.ret,h,g]) j
theorem ak.alloc{z:List AV}{n:Nat}(h:Qx P t=some z)(m:some H.next=some n)(j:ak P cfg f l (T.set E d (some (.ptr n 0))) (H.alloc (.cells z 0 true)) Q):ak P cfg f (⟨some d,.alloc t,none⟩::l) E H Q:=by
 simp only[au]at m;subst m;exact ej rfl (by simp only[bP,oG,h]) j
theorem ak.box{cs:List AV}{n:Nat}(h:PS E x=some a)(V:some a.cells=some cs)(m:some H.next=some n)(j:ak P cfg f l (T.set E d (some (.ptr n 0))) (H.alloc (.cells cs 0 true)) Q):ak P cfg f (⟨some d,.box t x,none⟩::l) E H Q:=by
 simp only[au]at V m;subst V m;exact ej rfl (by simp only[bP,oH,h]) j
theorem ak.build{V:Array (Nat×Operand)}{ps:List (Nat×AV)}(h:R1 E V.toList=some ps)(g:jn P t ps=some v)(j:ak P cfg f l (T.set E d (some v)) H Q):ak P cfg f (⟨some d,.build t V,none⟩::l) E H Q:=ej rfl (by simp only[bP,qu,Go.Ab.ret,h,g]) j
theorem ak.buildSlice{n:Nat}{V:Array (Nat×Operand)}{ps:List (Nat×AV)}(h:R1 E V.toList=some ps)(g:Rs P H t n ps=some (v,H'))(j:ak P cfg f l (T.set E d (some v)) H' Q):ak P cfg f (⟨some d,.buildSlice t n V,none⟩::l) E H Q:=
 ej rfl (by simp only[bP,S8,h,g]) j
def xM:=@ak.buildSlice
theorem ak.makeMap{n:Nat}(m:some H.next=some n)(j:ak P cfg f l (T.set E d (some (.map n))) (H.alloc (.map [])) Q):ak P cfg f (⟨some d,.makeMap t none,none⟩::l) E H Q:=by
 simp only[au]at m;subst m;exact ej rfl (by simp only[bP,oL]) j
theorem ak.lookup{ok:Bool}(h:PS E x=some a)(i:PS E y=some b)(g:R2 P H t a b ok=some v)(j:ak P cfg f l (T.set E d (some v)) H Q):ak P cfg f (⟨some d,.lookup t x y ok,none⟩::l) E H Q:=ej rfl (by simp only[bP,oO,Go.Ab.ret,h,i,g]) j
theorem ak.mapUpdate{z:Operand}{c:AV}(h:PS E x=some a)(i:PS E y=some b)(g:PS E z=some c)(o:SD P H t a b c=some H')(j:ak P cfg f l E H' Q):ak P cfg f (⟨none,.mapUpdate t x y z,none⟩::l) E H Q:=
 xH rfl (by simp only[bP,qE,h,i,g,o];rfl) j
def xN:=@ak.mapUpdate
theorem ak.makeFunc{g:FuncId}{cap:Array Operand}{vs:List AV}(h:Rt E cap.toList=some vs)(j:ak P cfg f l (T.set E d (some (.clo g vs))) H Q):ak P cfg f (⟨some d,.makeFunc (.func g) #[] cap,none⟩::l) E H Q:=ej rfl (by simp only[bP,qz,h]) j
theorem ak.slice{lo F:Option Operand}{I J:Option AV}(h:PS E x=some a)(i:RV E lo=some I)(g:RV E F=some J)(o:jB P H t a I J=some v)(j:ak P cfg f l (T.set E d (some v)) H Q):ak P cfg f (⟨some d,.slice t x lo F none,none⟩::l) E H Q:=
 ej rfl (by simp only[bP,oN,Go.Ab.ret,h,i,g,o]) j
theorem ak.makeSlice(h:PS E x=some a)(i:PS E y=some b)(g:RK P H t a b=some (v,H'))(j:ak P cfg f l (T.set E d (some v)) H' Q):ak P cfg f (⟨some d,.makeSlice t x y,none⟩::l) E H Q:=ej rfl (by simp only[bP,oM,h,i,g]) j
def xO:=@ak.makeSlice
theorem ak.len{c:AV}(h:PS E x=some a)(i:Qr P H t a=some c)(j:ak P cfg f l (T.set E d (some c)) H Q):ak P cfg f (⟨some d,.call ⟨.builtin .len,#[x],#[t]⟩,none⟩::l) E H Q:=
 rH (c:=⟨.builtin .len,#[x],#[t]⟩) rfl (vs:=[a]) (by simp only[Rt,h]) (by simp only[SI,i]) j
theorem ak.append(h:PS E x=some a)(i:PS E y=some b)(g:Rj P (cfg.keep f) H t u a b=some (v,H'))(j:ak P cfg f l (T.set E d (some v)) H' Q):ak P cfg f (⟨some d,.call ⟨.builtin .append,#[x,y],#[t,u]⟩,none⟩::l) E H Q:=
 rH (c:=⟨.builtin .append,#[x,y],#[t,u]⟩) rfl (vs:=[a,b]) (by simp only[Rt,h,i]) (by simp only[SI,g]) j
def mg:=@ak.append
end
theorem uA(E:ai)(d t:Nat)(v:AV):ai.at (T.set E d (some v)) t=bif t == d then v else E.at t:=by
 rw[nh];by_cases h:t=d
 .simp[h]
 .have:(t == d)=false:=by simpa using h
  rw[af h,this,ut]
theorem get_set(H:Hp)(d t:Nat)(b:HB):(H.set d b).get t=bif t == d then some b else H.get t:=by
 rw[a9];by_cases h:t=d
 .simp[h]
 .have:(t == d)=false:=by simpa using h
  rw[af h,this,ut]
theorem DI(E:ai)(t:Nat):PS E (.tmp t)=some (E.at t):=rfl
theorem DJ(E:ai)(k:IntKind)(n:Int):PS E (.const (.int k n))=some (.int k n):=rfl
theorem DK(E:ai)(b:Bool):PS E (.const (.bool b))=some (.bool b):=rfl
theorem DL(E:ai)(g:FuncId):PS E (.func g)=some (.clo g []):=rfl
theorem DM(E:ai)(s:ByteArray):PS E (.const (.string s))=some (.str s.data.toList):=rfl
section
variable {D:BinOp -> Sx -> Sx -> Option Bool} {t:TypeId} {k:IntKind} {a b:Int} {s u:List UInt8}
theorem DN:QR P D .add t (.int k a) (.int k b)=some (.int k (k.wrap (a+b))):=jC
theorem DO:QR P D .sub t (.int k a) (.int k b)=some (.int k (k.wrap (a-b))):=jC
theorem DP:QR P D .mul t (.int k a) (.int k b)=some (.int k (k.wrap (a*b))):=jC
theorem jE(h:b≠0):QR P D .quo t (.int k a) (.int k b)=some (.int k (k.wrap (a.tdiv b))):=by simp[QR,SO,RR,h]
theorem pC(h:b≠0):QR P D .rem t (.int k a) (.int k b)=some (.int k (a.tmod b)):=by simp[QR,SO,RR,h]
theorem DQ:QR P D .and t (.int k a) (.int k b)=some (.int k (k.wrap (BitVec.ofInt k.bits a &&& BitVec.ofInt k.bits b).toNat)):=jC
theorem DR:QR P D .or t (.int k a) (.int k b)=some (.int k (k.wrap (BitVec.ofInt k.bits a |||BitVec.ofInt k.bits b).toNat)):=jC
theorem DS:QR P D .xor t (.int k a) (.int k b)=some (.int k (k.wrap (BitVec.ofInt k.bits a^^^ BitVec.ofInt k.bits b).toNat)):=jC
theorem DT:QR P D .eql t (.int k a) (.int k b)=some (.bool (decide (a=b))):=by simp[QR,SO,RR];rfl
theorem DU:QR P D .neq t (.int k a) (.int k b)=some (.bool (!decide (a=b))):=by simp[QR,SO,RR];rfl
theorem DV:QR P D .lss t (.int k a) (.int k b)=some (.bool (decide (a<b))):=jC
theorem DW:QR P D .leq t (.int k a) (.int k b)=some (.bool (decide (a<=b))):=jC
theorem DX:QR P D .gtr t (.int k a) (.int k b)=some (.bool (decide (b<a))):=jC
theorem DY:QR P D .geq t (.int k a) (.int k b)=some (.bool (decide (b<=a))):=jC
theorem DZ:QR P D .eql t (.str s) (.str u)=some (.bool (decide (s=u))):=by
 simp only[QR,oF];by_cases h:s=u<;>simp[h]
theorem D0:QR P D .neq t (.str s) (.str u)=some (.bool (!decide (s=u))):=by
 simp only[QR,oF];by_cases h:s=u<;>simp[h]
theorem D1{x:Bool}:j4 .not (.bool x)=some (.bool !x):=rfl
theorem D2:j4 .neg (.int k a)=some (.int k (k.wrap (0-a))):=rfl
end
theorem D3{i:Nat}(h:i<2^62):IntKind.wrap .i64 ((i:Int)+1)=((i+1:Nat):Int):=by
 rw[o9 _ aa];rfl
theorem Sh{H:Hp}{t e:TypeId}(h:P.underlying t=some (.slice e))(xs:List (List AV)):Qr P H t (.lst xs)=some (.int .i64 xs.length):=ru
theorem RY{H:Hp}{t e:TypeId}(h:P.underlying t=some (.slice e))(r o n z:Nat):Qr P H t (.sl r o n z)=some (.int .i64 n):=ru
theorem Sa{H:Hp}{t e:TypeId}(h:P.underlying t=some (.slice e)):Qr P H t .nilS=some (.int .i64 0):=ru
theorem D4{H:Hp}{t:TypeId}(h:P.underlying t=some .string)(s:List UInt8):Qr P H t (.str s)=some (.int .i64 s.length):=ru
theorem mh{t e:TypeId}{s:Nat}(h:P.underlying t=some (.slice e))(K:P3 P e=some s){r o n z i:Nat}(F:i<n):Qt P t (.sl r o n z) (.int .i64 (i:Int))=some (.ptr r (o+i*s)):=by
 show Qt P t (.sl r o n z) (.int .i64 (Int.ofNat i))=_;simp only[Qt,h,K,F,cr]
def pD:TypeDesc->Bool
 | .struct _|.array _ _=>false
 |_=>true
theorem Rp{t:TypeId}{d:TypeDesc}(h:P.underlying t=some d)(hd:pD d=true)(cs:List AV)(o:Nat):PY P t cs o=cs[o]?:=by
 unfold PY;rw[h];cases d<;>simp_all[pD]
theorem j3{H:Hp}{t:TypeId}{d:TypeDesc}(h:P.underlying t=some d)(hd:pD d=true){r o:Nat}{cs:List AV}{imm:Nat}{tip:Bool}(A:H.get r=some (.cells cs imm tip)):Ru P H t (.ptr r o)=cs[o]?:=by
 simp only[Ru,A,Rp h hd]
def fw(z:Nat):Option (List AV)->Option AV
 |some O=>if O.length=z then some (.iptr O)else none
 |none=>none
theorem D5(z:Nat)(row:List AV):fw z (some row)=if row.length=z then some (.iptr row)else none:=rfl
def rI:Option UInt8->Option AV
 |some b=>some (.int .u8 b.toNat)
 |none=>none
theorem D6(b:UInt8):rI (some b)=some (.int .u8 b.toNat):=rfl
def QW(s:Nat)(cs:List AV):Option AV:=if (cs.take s).length=s then some (.agg (cs.take s))else none
theorem jk{t:TypeId}{d:TypeDesc}{s:Nat}(h:P.underlying t=some d)(hd:pD d=false)(K:P3 P t=some s)(cs:List AV)(o:Nat):PY P t cs o=QW s (cs.drop o):=by
 unfold PY QW;rw[h];cases d<;>simp_all[pD]
theorem Si{t e:TypeId}{s:Nat}(h:P.underlying t=some (.slice e))(K:P3 P e=some s)(xs:List (List AV)){n:Int}(Z:0<=n)(k:IntKind):Qt P t (.lst xs) (.int k n)=fw s (xs[n.toNat]?):=by
 obtain⟨m,rfl⟩:=cX Z;show Qt P t (.lst xs) (.int k (Int.ofNat m))=fw s (xs[m]?);simp only[Qt,h,K];cases xs[m]? <;>rfl
theorem Sj{t e:TypeId}{s:Nat}(h:P.underlying t=some (.slice e))(K:P3 P e=some s)(r o l z:Nat){n:Int}(Z:0<=n)(k:IntKind):Qt P t (.sl r o l z) (.int k n)=bif decide (n.toNat<l)then some (.ptr r (o+n.toNat*s))else none:=by
 obtain⟨m,rfl⟩:=cX Z;show Qt P t (.sl r o l z) (.int k (Int.ofNat m))=bif decide (m<l)then some (.ptr r (o+m*s))else none
 simp only[Qt,h,K];by_cases V:m<l<;>simp[V]
theorem D7{t:TypeId}(h:P.underlying t=some .string)(s:List UInt8){n:Int}(Z:0<=n)(k:IntKind):jl P t (.str s) (.int k n)=rI (s[n.toNat]?):=by
 obtain⟨m,rfl⟩:=cX Z;show jl P t (.str s) (.int k (Int.ofNat m))=rI (s[m]?);simp only[jl,h];cases s[m]? <;>rfl
def xP(P:Program)(t:TypeId)(o:Nat):Option HB->Option AV
 |some (.cells M _ _)=>PY P t M o
 |_=>none
theorem D8(t:TypeId)(o:Nat)(cs:List AV)(imm:Nat)(tip:Bool):xP P t o (some (.cells cs imm tip))=PY P t cs o:=rfl
theorem D9(H:Hp)(t:TypeId)(r o:Nat):Ru P H t (.ptr r o)=xP P t o (H.get r):=rfl
theorem Ea(H:Hp)(t:TypeId)(cs:List AV):Ru P H t (.iptr cs)=PY P t cs 0:=rfl
theorem Eb(H:Hp)(b:HB)(t:Nat):(H.alloc b).get t=bif t == H.next then some b else H.get t:=by
 rw[P8];by_cases h:t=H.next
 .simp[h]
 .have:(t == H.next)=false:=by simpa using h
  rw[af h,this,ut]
noncomputable def xQ(H:Hp)(r o:Nat)(O:List AV):Option Nat->Option HB->Option Hp
 |some s,some (.cells M j g)=>if O.length=s/\j<=o/\o+s<=M.length/\O.all AV.one=true then some (H.set r (.cells (splice M o O) j g))else none
 |_,_=>none
theorem rJ(H:Hp)(r o:Nat)(O:List AV)(s:Nat)(cs:List AV)(imm:Nat)(tip:Bool):xQ H r o O (some s) (some (.cells cs imm tip))=if O.length=s/\imm<=o/\o+s<=cs.length/\O.all AV.one=true then some (H.set r (.cells (splice cs o O) imm tip))else none:=rfl
theorem rK(H:Hp)(t:TypeId)(r o:Nat)(v:AV):RT P H t (.ptr r o) v=xQ H r o v.cells (P3 P t) (H.get r):=by
 unfold RT;simp only[];cases i:H.get r with
 |none=>cases P3 P t<;>rfl
 |some b=>cases b with
  |map m=>cases P3 P t<;>rfl
  |cells M j g=>cases P3 P t with
   |none=>rfl
   |some s=>rfl
theorem xR(cs:List AV)(o:Nat)(M:List AV):splice cs o M=cs.take o++M++cs.drop (o+M.length):=rfl
theorem Ec(cs:List AV):AV.cells (.agg cs)=cs:=rfl
theorem cells_int(k:IntKind)(n:Int):AV.cells (.int k n)=[.int k n]:=rfl
theorem xS(b:Bool):AV.cells (.bool b)=[.bool b]:=rfl
theorem Ed(b:List UInt8):AV.cells (.str b)=[.str b]:=rfl
theorem Ee(b:List (List AV)):AV.cells (.lst b)=[.lst b]:=rfl
theorem Ef(r o l z:Nat):AV.cells (.sl r o l z)=[.sl r o l z]:=rfl
theorem Eg:AV.cells .nilS=[.nilS]:=rfl
theorem Eh(r o:Nat):AV.cells (.ptr r o)=[.ptr r o]:=rfl
theorem Ei(r:Nat):AV.cells (.map r)=[.map r]:=rfl
theorem Ej(g:Nat)(cap:List AV):AV.cells (.clo g cap)=[.clo g cap]:=rfl
theorem Ek(k:IntKind)(n:Int):AV.one (.int k n)=true:=rfl
theorem El(b:Bool):AV.one (.bool b)=true:=rfl
theorem Em(b:List UInt8):AV.one (.str b)=true:=rfl
theorem Eo(b:List (List AV)):AV.one (.lst b)=true:=rfl
theorem Ep(r o l z:Nat):AV.one (.sl r o l z)=true:=rfl
theorem Er:AV.one .nilS=true:=rfl
theorem Es(r o:Nat):AV.one (.ptr r o)=true:=rfl
theorem Et(r:Nat):AV.one (.map r)=true:=rfl
theorem Eu(g:Nat)(cap:List AV):AV.one (.clo g cap)=true:=rfl
theorem Re:Qv.next=0:=rfl
theorem Ev(H:Hp)(t:TypeId)(s:List UInt8)(lo F:Option AV):jB P H t (.str s) lo F=RD P t (.str s) lo F:=rfl
theorem Ew(H:Hp)(t:TypeId)(s:List (List AV))(lo F:Option AV):jB P H t (.lst s) lo F=RD P t (.lst s) lo F:=rfl
theorem Ey(H:Hp)(t:TypeId)(r o n z:Nat)(lo F:Option AV):jB P H t (.sl r o n z) lo F=RD P t (.sl r o n z) lo F:=rfl
theorem Ez(H:Hp)(t:TypeId)(lo F:Option AV):jB P H t .nilS lo F=RD P t .nilS lo F:=rfl
theorem EA(n k:Nat):(n == n+(k+1))=false:=aA
theorem EB(n k:Nat):(n+(k+1) == n)=false:=aA
theorem EC(n a b:Nat):(n+a == n+b)=(a == b):=by
 by_cases h:a=b
 .simp[h]
 .have i:(a == b)=false:=by simpa using h
  rw[i];simp;omega
end
attribute [irreducible] ak Wp P2 ec
abbrev nA(l:List (List UInt8)):AV:=.lst (l.map fun s=>[.str s])
abbrev Qg(l:List Int):AV:=.lst (l.map fun n=>[.int .i64 n])
def str(s:String):List UInt8:=s.toUTF8.data.toList
inductive Ex where
 |mk (kind:Int) (n:Int) (name:List UInt8) (op:Int) (kids:List Ex)
def Ex.kind:Ex->Int|.mk x _ _ _ _=>x
def Ex.n:Ex->Int|.mk _ x _ _ _=>x
def Ex.name:Ex->List UInt8|.mk _ _ x _ _=>x
def Ex.op:Ex->Int|.mk _ _ _ x _=>x
def Ex.kids:Ex->List Ex|.mk _ _ _ _ x=>x
mutual
def Ex.cells:Ex->List AV
 | .mk a0 RQ a2 a3 a4=>[.int .i64 a0,.int .i64 RQ,.str a2,.int .i64 a3,.lst (rL a4)]
def rL:List Ex->List (List AV)
 |[]=>[]
 |x::xs=>Ex.cells x::rL xs
end
theorem xT:∀l:List Ex,rL l=l.map Ex.cells
 |[]=>rfl
 |x::xs=>by rw[rL,xT xs];rfl
theorem Ex.cells_eq(x:Ex):x.cells=[.int .i64 x.kind,.int .i64 x.n,.str x.name,.int .i64 x.op,.lst (x.kids.map Ex.cells)]:=by
 cases x;simp only[Ex.cells,xT,Ex.kind,Ex.n,Ex.name,Ex.op,Ex.kids]
def mj:=@Ex.cells_eq
theorem Ex.clen(x:Ex):x.cells.length=5:=mc
theorem Ex.c0(x:Ex):x.cells[0]?=some (.int .i64 x.kind):=mc
theorem Ex.c1(x:Ex):x.cells[1]?=some (.int .i64 x.n):=mc
theorem Ex.c2(x:Ex):x.cells[2]?=some (.str x.name):=mc
theorem Ex.c3(x:Ex):x.cells[3]?=some (.int .i64 x.op):=mc
theorem Ex.c4(x:Ex):x.cells[4]?=some (.lst (x.kids.map Ex.cells)):=mc
theorem Ex.whole(x:Ex):QW 5 x.cells=some (.agg x.cells):=by unfold QW;rw[mj];rfl
theorem Ex.one(x:Ex):x.cells.all AV.one=true:=mc
inductive St where
 |mk (kind:Int) (name:List UInt8) (to:List UInt8) (n:Int) (at_:Ex) (value:Ex) (args:List Ex) (thn:List St) (els:List St)
def St.kind:St->Int|.mk x _ _ _ _ _ _ _ _=>x
def St.name:St->List UInt8|.mk _ x _ _ _ _ _ _ _=>x
def St.to:St->List UInt8|.mk _ _ x _ _ _ _ _ _=>x
def St.n:St->Int|.mk _ _ _ x _ _ _ _ _=>x
def St.at_:St->Ex|.mk _ _ _ _ x _ _ _ _=>x
def St.value:St->Ex|.mk _ _ _ _ _ x _ _ _=>x
def St.args:St->List Ex|.mk _ _ _ _ _ _ x _ _=>x
def St.thn:St->List St|.mk _ _ _ _ _ _ _ x _=>x
def St.els:St->List St|.mk _ _ _ _ _ _ _ _ x=>x
mutual
def St.cells:St->List AV
 | .mk a0 RQ a2 a3 a4 a5 S1 SZ a8=>[.int .i64 a0,.str RQ,.str a2,.int .i64 a3,.int .i64 a4.kind,.int .i64 a4.n,.str a4.name,.int .i64 a4.op,.lst (a4.kids.map Ex.cells),.int .i64 a5.kind,.int .i64 a5.n,.str a5.name,.int .i64 a5.op,.lst (a5.kids.map Ex.cells),.lst (S1.map Ex.cells),.lst (pE SZ),.lst (pE a8)]
def pE:List St->List (List AV)
 |[]=>[]
 |x::xs=>St.cells x::pE xs
end
theorem xU:∀l:List St,pE l=l.map St.cells
 |[]=>rfl
 |x::xs=>by rw[pE,xU xs];rfl
theorem St.cells_eq(x:St):x.cells=[.int .i64 x.kind,.str x.name,.str x.to,.int .i64 x.n,.int .i64 x.at_.kind,.int .i64 x.at_.n,.str x.at_.name,.int .i64 x.at_.op,.lst (x.at_.kids.map Ex.cells),.int .i64 x.value.kind,.int .i64 x.value.n,.str x.value.name,.int .i64 x.value.op,.lst (x.value.kids.map Ex.cells),.lst (x.args.map Ex.cells),.lst (x.thn.map St.cells),.lst (x.els.map St.cells)]:=by
 cases x;simp only[St.cells,xU,St.kind,St.name,St.to,St.n,St.at_,St.value,St.args,St.thn,St.els]
def rM:=@St.cells_eq
theorem St.clen(x:St):x.cells.length=17:=fb
theorem St.c0(x:St):x.cells[0]?=some (.int .i64 x.kind):=fb
theorem St.c1(x:St):x.cells[1]?=some (.str x.name):=fb
theorem St.c2(x:St):x.cells[2]?=some (.str x.to):=fb
theorem St.c3(x:St):x.cells[3]?=some (.int .i64 x.n):=fb
theorem St.c4(x:St):x.cells[4]?=some (.int .i64 x.at_.kind):=fb
theorem St.c5(x:St):x.cells[5]?=some (.int .i64 x.at_.n):=fb
theorem St.c6(x:St):x.cells[6]?=some (.str x.at_.name):=fb
theorem St.c7(x:St):x.cells[7]?=some (.int .i64 x.at_.op):=fb
theorem St.c8(x:St):x.cells[8]?=some (.lst (x.at_.kids.map Ex.cells)):=fb
theorem St.c9(x:St):x.cells[9]?=some (.int .i64 x.value.kind):=fb
theorem St.c10(x:St):x.cells[10]?=some (.int .i64 x.value.n):=fb
theorem St.c11(x:St):x.cells[11]?=some (.str x.value.name):=fb
theorem St.c12(x:St):x.cells[12]?=some (.int .i64 x.value.op):=fb
theorem St.c13(x:St):x.cells[13]?=some (.lst (x.value.kids.map Ex.cells)):=fb
theorem St.c14(x:St):x.cells[14]?=some (.lst (x.args.map Ex.cells)):=fb
theorem St.c15(x:St):x.cells[15]?=some (.lst (x.thn.map St.cells)):=fb
theorem St.c16(x:St):x.cells[16]?=some (.lst (x.els.map St.cells)):=fb
theorem St.whole(x:St):QW 17 x.cells=some (.agg x.cells):=by unfold QW;rw[rM];rfl
theorem St.one(x:St):x.cells.all AV.one=true:=fb
theorem ED(x:St):QW 5 (x.cells.drop 4)=some (.agg x.at_.cells):=by unfold QW;rw[rM,mj];rfl
theorem St.part_value(x:St):QW 5 (x.cells.drop 9)=some (.agg x.value.cells):=by unfold QW;rw[rM,mj];rfl
structure Fu where
 name:List UInt8
 params:List (List UInt8)
 locals:List (List UInt8)
 body:List St
 value:Ex
def Fu.cells(x:Fu):List AV:=[.str x.name,nA x.params,nA x.locals,.lst (x.body.map St.cells),.int .i64 x.value.kind,.int .i64 x.value.n,.str x.value.name,.int .i64 x.value.op,.lst (x.value.kids.map Ex.cells)]
theorem Fu.cells_eq(x:Fu):x.cells=[.str x.name,nA x.params,nA x.locals,.lst (x.body.map St.cells),.int .i64 x.value.kind,.int .i64 x.value.n,.str x.value.name,.int .i64 x.value.op,.lst (x.value.kids.map Ex.cells)]:=rfl
theorem Fu.clen(x:Fu):x.cells.length=9:=i7
theorem Fu.c0(x:Fu):x.cells[0]?=some (.str x.name):=i7
theorem Fu.c1(x:Fu):x.cells[1]?=some (nA x.params):=i7
theorem Fu.c2(x:Fu):x.cells[2]?=some (nA x.locals):=i7
theorem Fu.c3(x:Fu):x.cells[3]?=some (.lst (x.body.map St.cells)):=i7
theorem Fu.c4(x:Fu):x.cells[4]?=some (.int .i64 x.value.kind):=i7
theorem Fu.c5(x:Fu):x.cells[5]?=some (.int .i64 x.value.n):=i7
theorem Fu.c6(x:Fu):x.cells[6]?=some (.str x.value.name):=i7
theorem Fu.c7(x:Fu):x.cells[7]?=some (.int .i64 x.value.op):=i7
theorem Fu.c8(x:Fu):x.cells[8]?=some (.lst (x.value.kids.map Ex.cells)):=i7
theorem Fu.whole(x:Fu):QW 9 x.cells=some (.agg x.cells):=by unfold QW;rw[Fu.cells_eq];rfl
theorem Fu.one(x:Fu):x.cells.all AV.one=true:=i7
theorem Fu.part_value(x:Fu):QW 5 (x.cells.drop 4)=some (.agg x.value.cells):=by unfold QW;rw[Fu.cells_eq,mj];rfl
structure Ar where
 name:List UInt8
 len:Int
def Ar.cells(x:Ar):List AV:=[.str x.name,.int .i64 x.len]
theorem Ar.cells_eq(x:Ar):x.cells=[.str x.name,.int .i64 x.len]:=rfl
theorem Ar.clen(x:Ar):x.cells.length=2:=rv
theorem Ar.c0(x:Ar):x.cells[0]?=some (.str x.name):=rv
theorem Ar.c1(x:Ar):x.cells[1]?=some (.int .i64 x.len):=rv
theorem Ar.whole(x:Ar):QW 2 x.cells=some (.agg x.cells):=by unfold QW;rw[Ar.cells_eq];rfl
theorem Ar.one(x:Ar):x.cells.all AV.one=true:=rv
structure Pr where
 arrays:List Ar
 funcs:List Fu
def Pr.cells(x:Pr):List AV:=[.lst (x.arrays.map Ar.cells),.lst (x.funcs.map Fu.cells)]
theorem Pr.cells_eq(x:Pr):x.cells=[.lst (x.arrays.map Ar.cells),.lst (x.funcs.map Fu.cells)]:=rfl
theorem Pr.clen(x:Pr):x.cells.length=2:=rx
theorem Pr.c0(x:Pr):x.cells[0]?=some (.lst (x.arrays.map Ar.cells)):=rx
theorem Pr.c1(x:Pr):x.cells[1]?=some (.lst (x.funcs.map Fu.cells)):=rx
theorem Pr.whole(x:Pr):QW 2 x.cells=some (.agg x.cells):=by unfold QW;rw[Pr.cells_eq];rfl
theorem Pr.one(x:Pr):x.cells.all AV.one=true:=rx
structure Tk where
 kind:Int
 text:List UInt8
 at_:Int
def Tk.cells(x:Tk):List AV:=[.int .i64 x.kind,.str x.text,.int .i64 x.at_]
theorem Tk.cells_eq(x:Tk):x.cells=[.int .i64 x.kind,.str x.text,.int .i64 x.at_]:=rfl
theorem Tk.clen(x:Tk):x.cells.length=3:=px
theorem Tk.c0(x:Tk):x.cells[0]?=some (.int .i64 x.kind):=px
theorem Tk.c1(x:Tk):x.cells[1]?=some (.str x.text):=px
theorem Tk.c2(x:Tk):x.cells[2]?=some (.int .i64 x.at_):=px
theorem Tk.whole(x:Tk):QW 3 x.cells=some (.agg x.cells):=by unfold QW;rw[Tk.cells_eq];rfl
theorem Tk.one(x:Tk):x.cells.all AV.one=true:=px
structure Nd where
 op:Int
 imm:Int
 kids:List Int
def Nd.cells(x:Nd):List AV:=[.int .i64 x.op,.int .i64 x.imm,Qg x.kids]
theorem Nd.cells_eq(x:Nd):x.cells=[.int .i64 x.op,.int .i64 x.imm,Qg x.kids]:=rfl
theorem Nd.clen(x:Nd):x.cells.length=3:=py
theorem Nd.c0(x:Nd):x.cells[0]?=some (.int .i64 x.op):=py
theorem Nd.c1(x:Nd):x.cells[1]?=some (.int .i64 x.imm):=py
theorem Nd.c2(x:Nd):x.cells[2]?=some (Qg x.kids):=py
theorem Nd.whole(x:Nd):QW 3 x.cells=some (.agg x.cells):=by unfold QW;rw[Nd.cells_eq];rfl
theorem Nd.one(x:Nd):x.cells.all AV.one=true:=py
structure Gr where
 name:List UInt8
 params:Int
 nodes:List Nd
 value:Int
 state:Int
def Gr.cells(x:Gr):List AV:=[.str x.name,.int .i64 x.params,.lst (x.nodes.map Nd.cells),.int .i64 x.value,.int .i64 x.state]
theorem Gr.cells_eq(x:Gr):x.cells=[.str x.name,.int .i64 x.params,.lst (x.nodes.map Nd.cells),.int .i64 x.value,.int .i64 x.state]:=rfl
theorem Gr.clen(x:Gr):x.cells.length=5:=md
theorem Gr.c0(x:Gr):x.cells[0]?=some (.str x.name):=md
theorem Gr.c1(x:Gr):x.cells[1]?=some (.int .i64 x.params):=md
theorem Gr.c2(x:Gr):x.cells[2]?=some (.lst (x.nodes.map Nd.cells)):=md
theorem Gr.c3(x:Gr):x.cells[3]?=some (.int .i64 x.value):=md
theorem Gr.c4(x:Gr):x.cells[4]?=some (.int .i64 x.state):=md
theorem Gr.whole(x:Gr):QW 5 x.cells=some (.agg x.cells):=by unfold QW;rw[Gr.cells_eq];rfl
theorem Gr.one(x:Gr):x.cells.all AV.one=true:=md
structure Un where
 arrays:List Ar
 funcs:List Gr
def Un.cells(x:Un):List AV:=[.lst (x.arrays.map Ar.cells),.lst (x.funcs.map Gr.cells)]
theorem Un.cells_eq(x:Un):x.cells=[.lst (x.arrays.map Ar.cells),.lst (x.funcs.map Gr.cells)]:=rfl
theorem Un.clen(x:Un):x.cells.length=2:=ry
theorem Un.c0(x:Un):x.cells[0]?=some (.lst (x.arrays.map Ar.cells)):=ry
theorem Un.c1(x:Un):x.cells[1]?=some (.lst (x.funcs.map Gr.cells)):=ry
theorem Un.whole(x:Un):QW 2 x.cells=some (.agg x.cells):=by unfold QW;rw[Un.cells_eq];rfl
theorem Un.one(x:Un):x.cells.all AV.one=true:=ry
instance:DecidableEq Nd:=fun x y=>decidable_of_iff (x.op=y.op/\x.imm=y.imm/\x.kids=y.kids) (by cases x;cases y;simp)
def aM(op:Int):Int×Bool:=
 if op=1\/op=2\/op=3\/op=26 then (0,true)
 else if op=20\/op=21\/op=24\/op=25 then (1,true)
 else if op=23\/op=27\/op=29 then (2,true)
 else if op=22\/op=28 then (3,true)
 else if op=30\/op=31 then (-1,true)
 else if 4<=op/\op<=19 then (2,true)
 else (0,false)
def ek(n:Int):Int:=(n-1).tdiv 2
def Sp(l:List Nd)(k:Int):Int:=match l[k.toNat]? with
 |some n=>n.kids.length
 |none=>0
def Q1(l:List Nd)(n:Nd):Int:=
 if n.op=2 then 5 else if n.op=3 then 255 else if n.op=23\/n.op=28 then 3 else if n.op=30 then 7 else if n.op=31 then 15
 else if n.op=25 then ek (Sp l (n.kids.headD 0))-1 else 0
def QE(l:List Nd)(n:Nd):Bool:=
 if n.op=1 then true
 else if n.op=27 then decide (1<=n.imm)&&decide (n.imm<=1000016)
 else decide (0<=n.imm)&&decide (n.imm<=Q1 l n)
def QO(op:Int):List Int:=
 if op=22 then [1,1,1]else if op=23\/op=27\/op=29 then [2,1]else if op=28 then [2,1,1]else if op=24 then [2]else if op=25 then [3]else [1,1]
def Qw:List Int->List Int->Bool
 |[],_=>true
 |a::s,w=>decide (a=w.headD 0)&&Qw s w.tail
def RZ(n:Nat):List Int:=((List.replicate n (1:Int)).set 0 2).set (ek n+1).toNat 2
def Qj(op:Int)(s:List Int):Bool:=
 if (aM op).2=false then false
 else if 0<=(aM op).1/\(aM op).1≠s.length then false
 else if op=31 then decide (3<=s.length)&&decide (s.length%2=1)&&decide (ek s.length<=16)&&Qw s (RZ s.length)
 else if op=30 then decide (1<=s.length)&&decide (s.length<=7)&&decide (s.headD 0=2)&&s.tail.all fun x=>decide (x=1)
 else if op=22/\s.getD 1 0=2 then decide (s.headD 0=1)&&decide (s.getD 2 0=2)
 else Qw s (QO op)
def Rf(i:Nat)(g:List Int):List Int->Option (List Int)
 |[]=>some []
 |k::ks=>if k<0\/(i:Int)<=k\/g.getD k.toNat 0=0 then none else (Rf i g ks).map fun s=>g.getD k.toNat 0::s
def QS(n:Nd)(s:List Int):Int:=
 if n.op=31 then 3
 else if n.op=26\/n.op=27\/n.op=28\/n.op=29\/n.op=30 then 2
 else if n.op=22 then s.getD 1 0
 else if n.op=3/\n.imm.tmod 16=0 then 2
 else if n.op=25/\n.imm=0 then 2
 else 1
def Rq(l:List Nd)(i:Nat)(g:List Int):Int:=match l[i]? with
 |none=>0
 |some n=>match Rf i g n.kids with
  |none=>0
  |some s=>if Qj n.op s&&QE l n then QS n s else 0
def Qb(l:List Nd):Nat->List Int
 |0=>[]
 |i+1=>Qb l i++[Rq l i (Qb l i)]
def QF(l:List Nd)(i:Int):Int:=if i<0\/(l.length:Int)<=i then 0 else (Qb (l.take (i.toNat+1)) (i.toNat+1)).getD i.toNat 0
theorem SV(l:List Nd):∀i,(Qb l i).length=i
 |0=>rfl
 |i+1=>by rw[Qb,eh,SV l i];rfl
theorem nB(l:List Nd):∀{i j:Nat},j<i->(Qb l i).getD j 0=Rq l j (Qb l j)
 |0,j,h=>by omega
 |i+1,j,h=>by
  rw[Qb];by_cases e:j<i
  .rw[cN,iy (by rw[SV];exact e),<-cN];exact nB l e
  .obtain rfl:j=i:=by omega
   rw[cN,j8 kq,SV,nn];rfl
theorem nC{i:Nat}{g:List Int}:∀{Z s:List Int},Rf i g Z=some s->∀k∈Z,0<=k/\k<i/\g.getD k.toNat 0≠0
 |[],s,_,k,h=>by simp at h
 |a::Z,s,h,k,j=>by
  rw[Rf]at h;split at h
  .cases h
  .rename_i c;obtain⟨t,o,_⟩:=jt.1 h;rcases gJ.1 j with rfl|j
   .omega
   .exact nC o k j
theorem jT{i:Nat}{g:List Int}:∀{Z s:List Int},Rf i g Z=some s->s.length=Z.length
 |[],s,h=>by cases h;rfl
 |a::Z,s,h=>by
  rw[Rf]at h;split at h
  .cases h
  .obtain⟨t,o,rfl⟩:=jt.1 h;rw[em,em,jT o]
theorem xV{l:List Nd}{i:Nat}{g:List Int}{n:Nd}(m:l[i]?=some n)(h:Rq l i g≠0):∃s,Rf i g n.kids=some s/\Qj n.op s=true/\QE l n=true:=by
 unfold Rq at h;rw[m]at h;simp only at h;split at h
 .exact absurd rfl h
 .rename_i s K;split at h
  .rename_i c;rw[dn]at c;exact⟨s,K,c.1,c.2⟩
  .exact absurd rfl h
theorem EE{l:List Nd}{m:Nat}{n:Nd}(h:n.op=25->∃k i,n.kids=k::i/\k.toNat<m):QE (l.take m) n=QE l n:=by
 have e:Q1 (l.take m) n=Q1 l n:=by
  unfold Q1;by_cases c:n.op=25
  .obtain⟨k,i,Z,g⟩:=h c;rw[c];simp only[Z,pz,Sp,js,g,cr]
  .simp only[c,cC]
 unfold QE;rw[e]
theorem xW{l:List Nd}{i m:Nat}(V:i<m)(g:List Int):Rq (l.take m) i g=Rq l i g:=by
 unfold Rq;rw[js,az V];cases L:l[i]? with
 |none=>rfl
 |some n=>
  simp only;cases j:Rf i g n.kids with
  |none=>rfl
  |some s=>
   simp only;by_cases c:Qj n.op s=true
   .have e:QE (l.take m) n=QE l n:=EE fun Z=>by
     have I:=jT j;have U:s.length=1:=by
      have c2:=c;unfold Qj at c2;rw[Z]at c2;have:aM 25=(1,true):=bA;rw[this]at c2;simp only at c2;split at c2
      .cases c2
      .split at c2
       .cases c2
       .omega
     cases Y:n.kids with
     |nil=>rw[Y,U]at I;simp at I
     |cons k M=>
      refine⟨k,M,rfl,?_⟩;have:=nC j k (by rw[Y];exact et);omega
    rw[e]
   .have O:Qj n.op s=false:=by simpa using c
    rw[O,gN,gN]
theorem xX{l:List Nd}{m:Nat}:∀{i:Nat},i<=m->Qb (l.take m) i=Qb l i
 |0,_=>rfl
 |i+1,h=>by rw[Qb,Qb,xX (by omega:i<=m),xW aa]
theorem xY{l:List Nd}{i:Nat}(h:i<l.length):QF l i=Rq l i (Qb l i):=by
 unfold QF;rw[af aa,cY,xX (aC _),nB l (dh i)]
theorem uB{l:List Nd}{i j:Nat}(O:j<i)(F:i<=l.length):(Qb l i).getD j 0=QF l j:=by
 rw[nB l O,xY aa]
theorem xZ{l m:List Nd}{i:Nat}(h:i<l.length):QF (l++m) i=QF l i:=by
 unfold QF;rw[af cQ,af aa,cY,qL aa]
theorem rN{l:List Nd}{i:Nat}{n:Nd}(m:l[i]?=some n)(h:QF l i≠0):∀k∈n.kids,0<=k/\k<i/\QF l k≠0:=by
 have F:i<l.length:=by
  by_cases c:i<l.length
  .exact c
  .rw[lf aa]at m;cases m
 rw[xY F]at h;obtain⟨s,K,_⟩:=xV m h;intro k j;obtain⟨Z,g,o⟩:=nC K k j;refine⟨Z,g,?_⟩;obtain⟨k,rfl⟩:=cX Z;rw[cY,uB aa aa]at o;exact o
def gw(kids:List Int)(b:List Bool):List Bool:=kids.foldl (fun b k=>b.set k.toNat true) b
def pF(l:List Nd):Nat->List Bool->List Bool
 |0,b=>b
 |k+1,b=>pF l k (if b.getD k false=true then gw (match l[k]? with|some n=>n.kids|none=>[]) b else b)
def Rg(l:List Nd)(i:Int):List Int:=
 if QF l i=0 then []else
  let b:=pF l (i.toNat+1) ((List.replicate (i.toNat+1) false).set i.toNat true)
  ((List.range (i.toNat+1)).filter fun j=>b.getD j false).map fun(j:Nat)=>(j:Int)
theorem pG:∀(i:List Int) (b:List Bool),(gw i b).length=b.length
 |[],b=>rfl
 |k::i,b=>by
  show(gw i (b.set k.toNat true)).length=_;rw[pG i,me]
theorem x4(b:List Bool)(i j:Nat)(h:i<b.length):(b.set i true).getD j false=(decide (i=j)||b.getD j false):=by
 rw[cN,tI,cN];by_cases c:i=j
 .subst c;simp[h]
 .simp[c]
theorem uC:∀(i:List Int) (b:List Bool) (j:Nat),(∀k∈i,k.toNat<b.length)->(gw i b).getD j false=(b.getD j false||i.any fun k=>decide (k.toNat=j))
 |[],b,j,_=>by simp[gw]
 |k::i,b,j,h=>by
  show(gw i (b.set k.toNat true)).getD j false=_;rw[uC i _ j (fun q I=>by rw[me];exact h q (ft _ I)),x4 _ _ _ (h k et),uu,uv,Bool.or_comm (decide _),uv,Bool.or_comm (i.any _)]
structure MarkOk (l:List Nd) (i k:Nat) (b:List Bool):Prop where
 len:b.length=i+1
 top:b.getD i false=true
 wf:∀j,b.getD j false=true->j<=i/\QF l j≠0
 cl:∀j,k<=j->b.getD j false=true->∀n,l[j]?=some n->∀c∈n.kids,b.getD c.toNat false=true
theorem MarkOk.step{l:List Nd}{i k:Nat}{b:List Bool}(h:MarkOk l i (k+1) b)(U:k<=i):MarkOk l i k (if b.getD k false=true then gw (match l[k]? with|some n=>n.kids|none=>[]) b else b):=by
 by_cases c:b.getD k false=true
 .rw[az c];obtain⟨_,K⟩:=h.wf k c;cases Z:l[k]? with
  |none=>
   refine⟨h.len,h.top,h.wf,fun j O z n e=>?_⟩;by_cases Y:j=k
   .subst Y;rw[Z]at e;cases e
   .exact h.cl j aa z n e
  |some n=>
   have hc:=rN Z K;have M:∀q∈n.kids,q.toNat<b.length:=fun q I=>by have:=hc q I;rw[h.len];omega
   simp only;have A:∀j,(gw n.kids b).getD j false=(b.getD j false||n.kids.any fun q=>decide (q.toNat=j)):=fun j=>uC n.kids b j M;refine⟨by rw[pG,h.len],by rw[A,h.top];rfl,fun j O=>?_,fun j O z m e q I=>?_⟩
   .rw[A,lc,uw]at O;rcases O with O|⟨q,I,e⟩
    .exact h.wf j O
    .obtain⟨L,g,o⟩:=hc q I;have e:=ku e;have:q=(j:Int):=aa;rw[<-this];exact⟨aa,o⟩
   .rw[A,lc]at z⊢;have V:b.getD j false=true:=by
     rcases z with z|z
     .exact z
     .obtain⟨q,I,e⟩:=uw.1 z;have:=hc q I;have e:=ku e;omega
    by_cases Y:j=k
    .subst Y;rw[Z]at e;cases e
     right
     exact uw.2 ⟨q,I,aA⟩
    .left;exact h.cl j aa V m e q I
 .rw[af c];refine⟨h.len,h.top,h.wf,fun j O z=>?_⟩;by_cases Y:j=k
  .subst Y;exact absurd z c
  .exact h.cl j aa z
theorem x5{l:List Nd}{i:Nat}:∀(k:Nat) (b:List Bool),k<=i+1->MarkOk l i k b->MarkOk l i 0 (pF l k b)
 |0,b,_,h=>h
 |k+1,b,hk,h=>x5 k _ aa (h.step aa)
theorem x6{l:List Nd}{i:Nat}(h:QF l i≠0):MarkOk l i (i+1) ((List.replicate (i+1) false).set i true):=by
 have A:∀j,((List.replicate (i+1) false).set i true).getD j false=decide (i=j):=fun j=>by
  rw[x4 _ _ _ aA,cN,nz];by_cases c:j<i+1
  .simp[c]
  .simp[c]
 refine⟨aA,by rw[A];simp,fun j O=>?_,fun j O z=>?_⟩
 .rw[A]at O;have:=ku O;subst this;exact⟨aC _,h⟩
 .rw[A]at z;have:=ku z;omega
def el(l:List Nd)(i:Nat):List Bool:=pF l (i+1) ((List.replicate (i+1) false).set i true)
theorem pH{l:List Nd}{i:Nat}(h:QF l i≠0):MarkOk l i 0 (el l i):=x5 (i+1) _ (aC _) (x6 h)
theorem pI(l:List Nd)(i:Nat):Rg l i=if QF l i=0 then []else ((List.range (i+1)).filter fun j=>(el l i).getD j false).map fun(j:Nat)=>(j:Int):=by
 unfold Rg el;rw[cY]
theorem rO{l:List Nd}{i:Nat}{x:Int}:x∈Rg l i↔QF l i≠0/\∃j:Nat,x=j/\(el l i).getD j false=true:=by
 rw[pI];by_cases h:QF l i=0
 .simp[h]
 .rw[af h,jA];constructor
  .rintro⟨j,O,rfl⟩;rw[mb]at O;exact⟨h,j,rfl,O.2⟩
  .rintro⟨_,j,rfl,O⟩;exact⟨j,mb.2 ⟨jy.2 (by have:=(pH h).wf j O;omega),O⟩,rfl⟩
theorem rP{l:List Nd}{i:Nat}{x:Int}(h:x∈Rg l i):QF l x≠0/\0<=x/\x<=i:=by
 obtain⟨Z,j,rfl,g⟩:=rO.1 h;have:=(pH Z).wf j g;exact⟨this.2,aa,aa⟩
theorem EF{l:List Nd}{i:Nat}{x:Int}(h:x∈Rg l i){n:Nd}(m:l[x.toNat]?=some n){c:Int}(V:c∈n.kids):c∈Rg l i:=by
 obtain⟨Z,j,rfl,g⟩:=rO.1 h;rw[cY]at m;have o:=(pH Z).cl j (ca _) g n m c V;have U:=(rN m ((pH Z).wf j g).2 c V).1;exact rO.2 ⟨Z,c.toNat,aa,o⟩
abbrev bM(n:Int):Int:=IntKind.wrap .i64 n
section
variable (q:Ex -> Int -> Bool)
end
section
variable {σ:Type} (q:St -> Int -> σ -> Bool × σ)
end
mutual
def Ex.sz:Ex->Nat
 | .mk _ _ s _ i=>1+s.length+jF i
def jF:List Ex->Nat
 |[]=>0
 |e::es=>1+e.sz+jF es
end
mutual
def St.sz:St->Nat
 | .mk _ g i _ a v Y A C=>1+g.length+i.length+a.sz+v.sz+jF Y+li A+li C
def li:List St->Nat
 |[]=>0
 |x::l=>1+x.sz+li l
end
theorem x7:∀l:List Ex,l.length<=jF l
 |[]=>aC _
 |e::es=>by have:=x7 es;simp only[em,jF];omega
theorem rQ:∀{l:List Ex}{x:Ex},x∈l->x.sz<jF l
 |[],_,h=>by simp at h
 |e::es,x,h=>by
  rcases gJ.1 h with rfl|h
  .simp only[jF];omega
  .have:=rQ h;simp only[jF];omega
theorem uD:∀{l:List St}{x:St},x∈l->x.sz<li l
 |[],_,h=>by simp at h
 |e::es,x,h=>by
  rcases gJ.1 h with rfl|h
  .simp only[li];omega
  .have:=uD h;simp only[li];omega
theorem Ex.sz_eq(e:Ex):e.sz=1+e.name.length+jF e.kids:=by cases e;simp only[Ex.sz,Ex.name,Ex.kids]
theorem St.sz_eq(x:St):x.sz=1+x.name.length+x.to.length+x.at_.sz+x.value.sz+jF x.args+li x.thn+li x.els:=by cases x;simp only[St.sz,St.name,St.to,St.at_,St.value,St.args,St.thn,St.els]
def gP(b:Int):Int:=IntKind.wrap .u64 (IntKind.wrap .i64 (BitVec.ofInt (IntKind.bits .i64) b &&& BitVec.ofInt (IntKind.bits .i64) 63).toNat)
def uE(k:IntKind)(a b:Int):Int:=k.wrap (a*2^ min b.toNat k.bits)
def rR(k:IntKind)(a b:Int):Int:=a.fdiv (2^ min b.toNat k.bits)
def jG(a b:Int):Int:=if b=0 then 0 else if b=-1 then bM (0-a)else bM (a.tdiv b)
def ky(b:Bool):Int:=if b=true then 1 else 0
def rS(op a b:Int):Int:=
 if op=12 then uE .i64 a (gP b)else if op=13 then IntKind.wrap .i64 (rR .u64 (IntKind.wrap .u64 a) (gP b))else if op=14 then rR .i64 a (gP b)
 else if op=15 then ky (decide (a=b))else if op=16 then ky (!decide (a=b))else if op=17 then ky (decide (a<b))else if op=18 then ky (decide (a<=b))
 else if op=19 then ky (decide (IntKind.wrap .u64 a<IntKind.wrap .u64 b))else 0
def gx(op a b:Int):Int:=
 if op=4 then bM (a+b)else if op=5 then bM (a-b)else if op=6 then bM (a*b)else if op=7 then jG a b else if op=8 then (if b=0 then 0 else bM (a-bM (jG a b*b)))
 else if op=9 then IntKind.wrap .i64 (BitVec.ofInt (IntKind.bits .i64) a &&& BitVec.ofInt (IntKind.bits .i64) b).toNat
 else if op=10 then IntKind.wrap .i64 (BitVec.ofInt (IntKind.bits .i64) a |||BitVec.ofInt (IntKind.bits .i64) b).toNat
 else if op=11 then IntKind.wrap .i64 (BitVec.ofInt (IntKind.bits .i64) a^^^ BitVec.ofInt (IntKind.bits .i64) b).toNat
 else rS op a b
def fL(op a:Int):Int:=if op=20 then bM (0-a)else if op=21 then IntKind.wrap .i64 (BitVec.ofInt (IntKind.bits .i64) (-1)^^^ BitVec.ofInt (IntKind.bits .i64) a).toNat else 0
theorem x8{a:Int}:j4 .xor (.int .i64 a)=some (.int .i64 (IntKind.wrap .i64 (BitVec.ofInt (IntKind.bits .i64) (-1)^^^ BitVec.ofInt (IntKind.bits .i64) a).toNat)):=rfl
theorem EG(n:Int):0<=IntKind.wrap .u64 n:=by
 unfold IntKind.wrap;simp only[IntKind.signed,gN,b9,cC];exact Int.emod_nonneg _ (by simp[IntKind.bits])
theorem x9(b:Int):0<=gP b:=EG _
theorem ya{P:Program}{D:BinOp->Sx->Sx->Option Bool}{t:TypeId}{k Z:IntKind}{a b:Int}(z:0<=b):QR P D .shl t (.int k a) (.int Z b)=some (.int k (uE k a b)):=by
 obtain⟨m,rfl⟩:=cX z;simp only[QR,SO];show kN .shl k a (Int.ofNat m)=_;simp[kN,uE]
theorem bin_shr{P:Program}{D:BinOp->Sx->Sx->Option Bool}{t:TypeId}{k Z:IntKind}{a b:Int}(z:0<=b):QR P D .shr t (.int k a) (.int Z b)=some (.int k (rR k a b)):=by
 obtain⟨m,rfl⟩:=cX z;simp only[QR,SO];show kN .shr k a (Int.ofNat m)=_;simp[kN,rR]
def jH(v:List Int)(n:Nd)(j:Nat):Int:=v.getD (n.kids.getD j 0).toNat 0
def dd(Y v:List Int)(n:Nd):Option Int:=
 if n.op=1 then some n.imm
 else if n.op=2/\n.imm<Y.length then some (Y.getD n.imm.toNat 0)
 else if n.op=20\/n.op=21 then some (fL n.op (jH v n 0))
 else if 4<=n.op/\n.op<=19 then some (gx n.op (jH v n 0) (jH v n 1))
 else if n.op=22 then (if jH v n 0≠0 then some (jH v n 1)else some (jH v n 2))
 else none
def iH(l:List Nd)(Y:List Int):List Int->List Int->Option (List Int)
 |[],v=>some v
 |k::ks,v=>(l[k.toNat]?).bind fun n=>(dd Y v n).bind fun x=>iH l Y ks (v.set k.toNat x)
def jI(l:List Nd)(i:Int)(Y:List Int):Option Int:=if QF l i=1 then (iH l Y (Rg l i) (List.replicate (i.toNat+1) 0)).map fun v=>v.getD i.toNat 0 else none
structure VlOk (i:Nat) (n:Nd):Prop where
 kids:∀c∈n.kids,0<=c/\c<=i
 k1:n.op=20\/n.op=21->n.kids.length=1
 k2:4<=n.op/\n.op<=19->n.kids.length=2
 k3:n.op=22->n.kids.length=3
 p:n.op=2->0<=n.imm
theorem uF{l:List Nd}{i:Int}(h:QF l i≠0):0<=i/\i<l.length:=by
 unfold QF at h;split at h
 .exact absurd rfl h
 .omega
theorem yb{l:List Nd}{i:Nat}{k:Int}(h:k∈Rg l i):∃n,l[k.toNat]?=some n/\VlOk i n:=by
 obtain⟨Y,g,V⟩:=rP h;have O:=uF Y;have Z:l[k.toNat]?=some l[k.toNat]:=a1 aa;have M:=fun c=>EF h Z (c:=c);generalize l[k.toNat]=n at *;refine⟨n,Z,?_⟩;obtain⟨m,rfl⟩:=cX g;rw[QF,af aa,cY,nB _ (dh _),xW (dh _)]at Y;rw[cY]at Z;obtain⟨s,U,A,o⟩:=xV Z Y;have K:=jT U;have F:∀q:Nat,(aM n.op).1=q->n.kids.length=q:=fun q I=>by
  unfold Qj at A;split at A
  .cases A
  .split at A
   .cases A
   .omega
 refine⟨fun c hc=>by have:=rP (M c hc);omega,fun c=>F 1 ?_,fun c=>F 2 ?_,fun c=>F 3 ?_,fun c=>?_⟩
 .rcases c with c|c<;>rw[c]<;>rfl
 .have e:∀z:Nat,z<16->(aM ((z:Int)+4)).1=2:=by decide
  have:=e (n.op-4).toNat aa;rw[show(((n.op-4).toNat:Nat):Int)+4=n.op by omega]at this;exact this
 .rw[c];rfl
 .unfold QE at o;rw[af aa,af aa,dn]at o;exact ku o.1
abbrev Rh:=List UInt8
structure MS where
 fuel:Int
 fin:Int
 code:Int
 cells:List (Rh×List Int)
 out:List Int
def eu:List (Rh×Int)->Rh->Int
 |[],_=>0
 |p::l,nm=>if nm=p.1 then p.2 else eu l nm
def setV:List (Rh×Int)->Rh->Int->List (Rh×Int)
 |[],nm,x=>[(nm,x)]
 |p::l,nm,x=>if nm=p.1 then (nm,x)::l else p::setV l nm x
section
variable (p:Pr) (fi:List (Rh × Int))
end
def cI(vs:List (Rh×Int)):List (AV×AV):=vs.map fun p=>(.str p.1,.int .i64 p.2)
theorem yc(nm:Rh):∀(vs:List (Rh×Int)) (i:Nat),(jo .string (.str nm) (cI vs) i=some none/\eu vs nm=0/\∀x,cI (setV vs nm x)=cI vs++[(.str nm,.int .i64 x)]) \/
 ∃j,j<vs.length/\jo .string (.str nm) (cI vs) i=some (some (i+j,.int .i64 (eu vs nm)))/\∀x,cI (setV vs nm x)=(cI vs).set j (.str nm,.int .i64 x)
 |[],i=>.inl ⟨rfl,rfl,fun _=>rfl⟩
 |p::l,i=>by
  by_cases h:nm=p.1
  .refine .inr ⟨0,aA,?_,fun x=>?_⟩
   .simp[cI,jo,jp,eu,h]
   .simp[cI,setV,h]
  .have Y:jo .string (.str nm) (cI (p::l)) i=jo .string (.str nm) (cI l) (i+1):=by
    show jo .string (.str nm) ((.str p.1,.int .i64 p.2)::cI l) i=_;have:(nm == p.1)=false:=iE;simp[jo,jp,this]
   have I:eu (p::l) nm=eu l nm:=by simp[eu,h]
   have K:∀x,cI (setV (p::l) nm x)=(.str p.1,.int .i64 p.2)::cI (setV l nm x):=fun x=>by simp[setV,h,cI]
   rw[Y,I];rcases yc nm l (i+1)with⟨Z,g,o⟩|⟨j,O,Z,o⟩
   .refine .inl ⟨Z,g,fun x=>?_⟩;rw[K,o];simp[cI]
   .refine .inr ⟨j+1,cQ,?_,fun x=>?_⟩
    .rw[Z,show i+1+j=i+(j+1) by omega]
    .rw[K,o];simp[cI]
structure Mx where
 p:Pr
 rm:Nat
 rc:Nat
 rf:Nat
 rs:List Nat
 fi:List (Rh×Int)
theorem EH{P:Program}{H:Hp}{t O e r:Nat}{m:List (AV×AV)}{nm:Rh}{z:AV}(o:P.underlying t=some (.map O e))(j:jN P O=some .string)(C:j0 P e=some z)(A:H.get r=some (.map m)):
 (jo .string (.str nm) m 0=some none->R2 P H t (.map r) (.str nm) false=some z)/\∀i v,jo .string (.str nm) m 0=some (some (i,v))->R2 P H t (.map r) (.str nm) false=some v:=by
 refine⟨fun h=>?_,fun i v h=>?_⟩<;>simp only[R2,o,j,C,lP,A,h,oE]
theorem EI{P:Program}{H:Hp}{t O e r:Nat}{m:List (AV×AV)}{nm:Rh}{x:AV}(o:P.underlying t=some (.map O e))(j:jN P O=some .string)(A:H.get r=some (.map m)):
 (jo .string (.str nm) m 0=some none->SD P H t (.map r) (.str nm) x=some (H.set r (.map (m++[(.str nm,x)]))))/\∀i v,jo .string (.str nm) m 0=some (some (i,v))->SD P H t (.map r) (.str nm) x=some (H.set r (.map (m.set i (.str nm,x)))):=by
 refine⟨fun h=>?_,fun i v h=>?_⟩<;>simp only[SD,o,j,A,h]
theorem yd{P:Program}{H:Hp}{t O e r:Nat}(o:P.underlying t=some (.map O e))(Z:jN P O=some .string)(C:j0 P e=some (.int .i64 0)){vs:List (Rh×Int)}(A:H.get r=some (.map (cI vs)))(nm:Rh):
 R2 P H t (.map r) (.str nm) false=some (.int .i64 (eu vs nm)):=by
 obtain⟨SF,SG⟩:=EH (nm:=nm) o Z C A;rcases yc nm vs 0 with⟨i,g,Y⟩|⟨j,V,i,Y⟩
 .rw[SF i,g]
 .rw[SG _ _ i]
theorem Sx.beq_refl:∀a:Sx,Sx.beq a a=true
 | .var i=>by simp[Sx.beq]
 | .lit n=>by simp[Sx.beq]
 | .bin o k a b=>by simp[Sx.beq,Sx.beq_refl a,Sx.beq_refl b]
 | .conv k a=>by simp[Sx.beq,Sx.beq_refl a]
mutual
theorem AV.beq_refl:∀a:AV,AV.beq a a=true
 | .int k n=>by simp[AV.beq]
 | .sx k e=>by simp[AV.beq,Sx.beq_refl]
 | .bool b=>by simp[AV.beq]
 | .str s=>by simp[AV.beq]
 | .nilP=>rfl
 | .nilM=>rfl
 | .nilF=>rfl
 | .nilS=>rfl
 | .ptr r o=>by simp[AV.beq]
 | .iptr M=>by simp only[AV.beq];exact SW M
 | .sl r o l z=>by simp[AV.beq]
 | .lst K=>by simp only[AV.beq];exact ye K
 | .map r=>by simp[AV.beq]
 | .clo f M=>by simp only[AV.beq,SW M,f0];simp
 | .agg M=>by simp only[AV.beq];exact SW M
 | .tup M=>by simp only[AV.beq];exact SW M
theorem SW:∀a:List AV,Sb a a=true
 |[]=>rfl
 |a::l=>by simp only[Sb,AV.beq_refl a,SW l,f0]
theorem ye:∀a:List (List AV),lT a a=true
 |[]=>rfl
 |a::l=>by simp only[lT,SW a,ye l,f0]
end
def ml(o:Oper):Bool:=kj o.op||jx o.op
def rT(o:Oper):Bool:=ml o||(match o.op with|.store ..|.mapUpdate ..=>true |_=>false)
def rU(ops:List Oper):Bool:=
 kS ops&&(List.range ops.length).all (fun i=>match ops[i]? with|some o=>if Nat.blt (i+1) ops.length then ml o else rT o|none=>true)&&(jr ops).all (fun p=>Nat.blt p.2 ops.length)
section
variable {P:Program} {cfg:Cfg} {f N:Nat}
theorem uG{ih:Task->Res}{U:List Oper}:∀{l:List Oper}{E E':ai}{H H':Hp},jq P cfg ih f N U l E H=.done .normal E' H'->∃rs,eJ P cfg ih f N U l E H=.done E' H' rs
 |[],E,E',H,H',h=>by
  simp only[jq,Res.done.injEq,fJ]at h;obtain⟨rfl,rfl⟩:=h;exact⟨[],rfl⟩
 |o::l,E,E',H,H',h=>by
  rw[pA]at h;simp only[eJ];cases L:RL U E o with
  |true=>
   rw[L]at h;simp only[]at h⊢;cases hop:QU P cfg ih f E H o.op with
   |val v H1=>
    rw[hop]at h;simp only[]at h⊢;cases hp:Q9 N E o.dst v with
    |none=>rw[hp]at h;simp[RX]at h
    |some E1=>
     rw[hp]at h;simp only[RX]at h;obtain⟨rs,hr⟩:=uG h;exact⟨_,by simp only[Sy,hr,ip];rfl⟩
   |done _ _ _=>rw[hop]at h;simp at h
   |fail=>rw[hop]at h;simp at h
  |false=>
   rw[L]at h;simp only[]at h⊢;cases hp:Q9 N E o.dst QQ with
   |none=>rw[hp]at h;simp[RX]at h
   |some E1=>
    rw[hp]at h;simp only[RX]at h;obtain⟨rs,hr⟩:=uG h;exact⟨_,by simp only[Sy,hr,ip];rfl⟩
theorem uH{ih:Task->Res}{E:ai}{o:Oper}{v:AV}{H H':Hp}(j:ml o=true)(h:QU P cfg ih f E H o.op=.val v H'):H'=H:=by
 unfold ml at j;rw[lc]at j;rcases j with j|j
 .have m:∀c,o.op≠.call c:=fun c e=>by
   rw[e]at j;simp only[kj,Ro]at j;split at j
   .rename_i i;split at i<;>simp at i
   .simp at j
  exact(tV j ((l9 m).1 h)).1
 .exact tW j h
theorem EJ{ih:Task->Res}{E:ai}{o:Oper}{v:AV}{H H':Hp}(j:rT o=true)(h:QU P cfg ih f E H o.op=.val v H'):H.next<=H'.next:=by
 unfold rT at j;rw[lc]at j;rcases j with j|j
 .rw[uH j h];exact aC _
 .obtain⟨Z,C,Y,L,M,guard⟩:=o;simp only[]at j h;cases C<;>simp only[b9]at j
  case store t a x=>
   simp only[QU,bP,qv]at h;split at h
   .split at h
    .rename_i K;simp only[Rn,Res.val.injEq]at h;obtain⟨rfl,rfl⟩:=h;unfold RT at K;split at K
     .split at K
      .split at K
       .simp only[au]at K;rw[<-K];exact aC _
       .simp at K
      .simp at K
     .simp at K
    .simp[Rn]at h
   .simp[Rn]at h
  case mapUpdate t m k x=>
   simp only[QU,bP,qE]at h;split at h
   .split at h
    .rename_i K;simp only[Rn,Res.val.injEq]at h;obtain⟨rfl,rfl⟩:=h;unfold SD at K;split at K
     .split at K
      .split at K
       .split at K
        .simp only[au]at K;rw[<-K];exact aC _
        .simp only[au]at K;rw[<-K];exact aC _
        .simp at K
       .simp at K
      .simp at K
     .simp at K
    .simp[Rn]at h
   .simp[Rn]at h
theorem EK{ih ih':Task->Res}{f':FuncId}{E:ai}{op:Op}{H:Hp}(j:jx op=true):QU P cfg ih f E H op=QU P cfg ih' f' E H op:=by
 cases op<;>simp only[jx,Ro,b9]at j<;>try rfl
 rename_i c;simp only[QU,kP];cases hc:c.callee with
 |value g=>rw[hc]at j;simp at j
 |invoke g m=>rfl
 |builtin b=>
  rw[hc]at j;simp only[];cases b<;>simp only[b9]at j<;>rfl
theorem EL{ih:Task->Res}{ops:List Oper}{E E':ai}{H H':Hp}(J:rU ops=true)(h:jq P cfg ih f N ops ops E H=.done .normal E' H'):Sn P cfg ih f N ops E H=.done .normal E' H':=by
 unfold rU at J;simp only[dn,iB,jy]at J;obtain⟨⟨Z,I⟩,m⟩:=J;obtain⟨rs,hr⟩:=uG h;have z:=pi hr;have hlen:=tT z;obtain⟨_,z2⟩:=tU z;have Y:∀(i:Nat) o,ops[i]?=some o->i+1<ops.length->ml o=true:=fun i o U M=>by
  have:=I i aa;rw[U]at this;simp only[show Nat.blt (i+1) ops.length=true by simpa [eZ]using M,cr]at this;exact this
 have F:∀i,i+1<=ops.length->Ql rs H' i=H:=fun i=>by
  induction i with
  |zero=>intro _;exact z2
  |succ i ih=>
   intro M;have g:=a1 (show i<rs.length by omega);obtain⟨o,U,K⟩:=l8 z g;have h1:=ih aa;have h2:Ql rs H' (i+1)=Ql rs H' i:=by
    cases hd:(rs[i]' aa).did with
    |true=>exact uH (Y i o U aa) (K.yes hd)
    |false=>exact(K.no hd).2
   rw[h2,h1]
 unfold Sn;rw[Z];simp only[hr];have V:lU P cfg (jr ops) rs H'=true:=by
  unfold lU;simp only[dn,iB];refine⟨fun r hm=>?_,fun p C=>?_⟩
  .obtain⟨i,M⟩:=t3.1 hm;obtain⟨o,U,K⟩:=l8 z M;have A:i<ops.length:=(cG.1 U).1;rw[K.eH,K.eH'];refine Nat.ble_eq_true_of_le ?_;cases hd:r.did with
   |false=>rw[(K.no hd).2];exact aC _
   |true=>
    by_cases O:i+1<ops.length
    .rw[uH (Y i o U O) (K.yes hd)];exact aC _
    .have:=I i A;rw[U]at this;have hb:Nat.blt (i+1) ops.length=false:=by
      cases hx:Nat.blt (i+1) ops.length with
      |false=>rfl
      |true=>exact(O (by simpa [eZ]using hx)).elim
     simp only[hb,b9,cC]at this;exact EJ this (K.yes hd)
  .have hm:p.2<ops.length:=by simpa [eZ]using m p C
   cases hrp:rs[p.1]? with
   |none=>rfl
   |some r=>
    obtain⟨o,U,K⟩:=l8 z hrp;have A:p.1<ops.length:=(cG.1 U).1;simp only[];cases hd:r.did with
    |false=>rfl
    |true=>
     simp only[gK,iF];have hH:r.H=Ql rs H' p.2:=by rw[K.eH,F _ aa,F _ aa]
     unfold zbz;cases j:Ro r.o.op with
     |calm=>rfl
     |act=>rfl
     |read=>
      simp only[];have hop:=K.yes hd;rw[<-K.eE,<-K.eo,<-K.eH,hH]at hop;rw[EK (P:=P) (cfg:=cfg) (f:=f) (ih:=ih) (ih':=fun _=>.fail) (f':=0) (by simp[jx,j])]at hop;rw[hop];simp only[AV.beq_refl]
     |make=>
      exfalso;rw[K.eo]at j;by_cases O:p.1+1<ops.length
      .have:=Y _ o U O;unfold ml kj jx at this;rw[j]at this;simp at this
      .have L:=I p.1 A;rw[U]at L;have hb:Nat.blt (p.1+1) ops.length=false:=by
        cases hx:Nat.blt (p.1+1) ops.length with
        |false=>rfl
        |true=>exact(O (by simpa [eZ]using hx)).elim
       simp only[hb,b9,cC,rT,ml,kj,jx,j,Bool.or_self,iF]at L;split at L
       .rename_i hop;rw[hop]at j;simp[Ro]at j
       .rename_i hop;rw[hop]at j;simp[Ro]at j
       .simp at L
 rw[V]
theorem Wp.draw{id:Nat}{ops:List Oper}{l:List SOp}{E:ai}{H:Hp}{Q:AX->ai->Hp->Prop}(J:cfg.plan f id=.text)(m:rU ops=true)(Z:Qe N ops ops=some l)
 (h:∀K:ai->Hp->Prop,(∀E' H',Q .normal E' H'->K E' H')->ak P cfg f l E H K):Wp P cfg f N (.draw id ops) E H Q:=by
 unfold Wp;intro code hc;cases code with
 |region Y U draw=>
  cases draw with
  |false=>simp only[aB,Qh]at hc;split at hc<;>simp at hc
  |true=>
   simp only[aB,SC.draw.injEq]at hc;obtain⟨rfl,rfl⟩:=hc;obtain⟨n,E',H',i,g⟩:=ak.run Z (h (Q .normal) fun _ _ h=>h);refine⟨_,_,_,QC.draw (n:=n) (r:=.done .normal E' H') ?_ aA,g⟩;rw[J];simp only[RW];exact EL m i
 |_=>simp[aB]at hc
end
section
variable {P:Program} {H:Hp} {t u e:TypeId} {keep:Bool}
theorem nD{r o n z s:Nat}{cs:List AV}{imm:Nat}{tip:Bool}(A:H.get r=some (.cells cs imm tip))(I:((cs.drop o).take (n*s)).length=n*s):RE H s (.sl r o n z)=some (n,(cs.drop o).take (n*s)):=by
 unfold RE;simp only[A,I,cr]
theorem append_nil{s b n:Nat}{z M:List AV}{x:AV}(o:P.underlying t=some (.slice e))(K:P3 P e=some s)(Z:QI P e=some b)(C:Qx P e=some z)(Y:Sr P u=true)
 (V:RE H s x=some (n+1,M)) (j:M.all AV.one=true) (m:z.length=s) (i:(n+1)*b<=Rd) (g:n+1<=Rd) :
 Rj P keep H t u .nilS x=some (.sl H.next 0 (n+1) s,H.alloc (.cells M 0 true)):=by
 simp only[Rj,o,K,Z,C,Y,V,j,m,lg,cr,RJ,SH,i,g]
end
theorem EM(E:ai):PS E (.const (.slice none 0 0))=some .nilS:=rfl
def hY:List (Rh×Int)->Rh->Bool
 |[],_=>false
 |p::l,nm=>if nm=p.1 then true else hY l nm
theorem uI(nm:Rh):∀(vs:List (Rh×Int)) (i:Nat),(hY vs nm=false->jo .string (.str nm) (cI vs) i=some none/\eu vs nm=0)/\(hY vs nm=true->∃j,jo .string (.str nm) (cI vs) i=some (some (j,.int .i64 (eu vs nm))))
 |[],i=>⟨fun _=>⟨rfl,rfl⟩,fun h=>by simp[hY]at h⟩
 |p::l,i=>by
  by_cases h:nm=p.1
  .refine⟨fun g=>by simp[hY,h]at g,fun _=>⟨i,?_⟩⟩;simp[cI,jo,jp,eu,h]
  .have Z:jo .string (.str nm) (cI (p::l)) i=jo .string (.str nm) (cI l) (i+1):=by
    show jo .string (.str nm) ((.str p.1,.int .i64 p.2)::cI l) i=_;have:(nm == p.1)=false:=iE;simp[jo,jp,this]
   have I:eu (p::l) nm=eu l nm:=by simp[eu,h]
   have Y:hY (p::l) nm=hY l nm:=by simp[hY,h]
   rw[Z,I,Y];exact uI nm l (i+1)
theorem EN{P:Program}{H:Hp}{t O e r:Nat}(o:P.underlying t=some (.map O e))(Z:jN P O=some .string)(C:j0 P e=some (.int .i64 0)){vs:List (Rh×Int)}(A:H.get r=some (.map (cI vs)))(nm:Rh):
 R2 P H t (.map r) (.str nm) true=some (.tup [.int .i64 (eu vs nm),.bool (hY vs nm)]):=by
 obtain⟨i,V⟩:=uI nm vs 0;cases g:hY vs nm with
 |false=>
  obtain⟨Y,U⟩:=i g;simp only[R2,o,Z,C,lP,A,Y,oE,U]
 |true=>
  obtain⟨j,Y⟩:=V g;simp only[R2,o,Z,lP,A,Y,oE]
end Go.Ab
namespace Go.Proofs.YtljebeflbbgibaaGreat
set_option maxRecDepth 20000
open Go Go.Ab
structure S9 where
 cells:List (List Int)
 out:List Int
 fuel:Int
 ed:Int
 code:Int
 last:Int
structure R9 where
 k:Bool
 v:Int
 s:Option S9
end Go.Proofs.YtljebeflbbgibaaGreat
namespace Go.Ab
set_option maxRecDepth 20000
open Go
structure Rc where
 op:Op
 did:Bool
 E:ai
 H:Hp
 val:AV
 H':Hp
section
variable (P:Program) (cfg:Cfg) (f:FuncId)
def cJ:List SOp->List Rc->ai->Hp->(List Rc->ai->Hp->Prop)->Prop
 |[],tr,E,H,Q=>Q tr E H
 |o::l,tr,E,H,Q=>match o.g with
  |none=>ec P cfg f o.op E H fun v H'=>cJ l (tr++[⟨o.op,true,E,H,v,H'⟩]) (Qo E o.d v) H' Q
  |some (s,b)=>(E.at s=.bool b/\ec P cfg f o.op E H fun v H'=>cJ l (tr++[⟨o.op,true,E,H,v,H'⟩]) (Qo E o.d v) H' Q)\/((E.at s=.bool (!b)\/E.at s=QQ)/\cJ l (tr++[⟨o.op,false,E,H,QQ,H⟩]) (Qo E o.d QQ) H Q)
def pJ(K:List Rc)(H':Hp)(m:Nat):Hp:=match K[m]? with
 |some r=>r.H
 |none=>H'
def jJ(r:Rc)(H:Hp):Prop:=match Ro r.op with
 | .read=>∃m,QU P cfg (fun _=>.fail) 0 r.E H r.op=.val r.val m
 | .make=>∃b,H.get r.H.next=some b/\r.H'.get r.H.next=some b
 |_=>True
def rV(K:List Rc)(H':Hp)(i m:Nat):Prop:=match K[i]? with
 |some r=>r.did=true->jJ P cfg r (pJ K H' m)
 |none=>True
def mn(g:List (Nat×Nat))(K:List Rc)(H':Hp):Prop:=(∀r∈K,r.H.next<=r.H'.next)/\∀p∈g,rV P cfg K H' p.1 p.2
end
section
variable {P:Program} {cfg:Cfg} {f N:Nat}
def mo(r:Rec):Rc:=⟨r.o.op,r.did,r.E,r.H,r.val,r.H'⟩
theorem HB.beq_refl(b:HB):HB.beq b b=true:=by
 cases b with
 |cells a i t=>simp[HB.beq,SW]
 |map m=>simp[HB.beq,SW]
theorem cJ.run{U:List Oper}{Q:List Rc->ai->Hp->Prop}:∀{l:List Oper}{r:List SOp}{K:List Rc}{E:ai}{H:Hp},Qe N U l=some r->cJ P cfg f r K E H Q ->
 ∃n E' H' rs,eJ P cfg (QJ P cfg n) f N U l E H=.done E' H' rs/\Q (K++rs.map mo) E' H'
 |[],r,K,E,H,hs,I=>by
  simp only[Qe,au]at hs;subst hs;unfold cJ at I;exact⟨0,E,H,[],rfl,by simpa using I⟩
 |o::l,r,K,E,H,hs,I=>by
  simp only[Qe]at hs;split at hs
  .rename_i d g r' i h2 J;simp only[au]at hs;subst hs;obtain⟨SN,F⟩:=xF (E:=E) h2;have Z:∀k k',k<=k'->RG (QJ P cfg k) (QJ P cfg k'):=fun k k' j t ht=>uz j ht;have hop:ec P cfg f o.op E H (fun v H'=>cJ P cfg f r' (K++[⟨o.op,true,E,H,v,H'⟩]) (Qo E d v) H' Q)->RL U E o=true->∃n E' H' rs,eJ P cfg (QJ P cfg n) f N U (o::l) E H=.done E' H' rs/\Q (K++rs.map mo) E' H':=fun L C=>by
    unfold ec at L;obtain⟨n,v,H1,z,g2⟩:=L;obtain⟨m,M,V,rs,Y,O⟩:=cJ.run J g2;refine⟨max n m,M,V,⟨o,true,E,H,v,H1⟩::rs,?_,by simpa [mo]using O⟩;simp only[eJ,C];rw[rB (Z n (max n m) (rz _ _)) (by rw[z];simp),z];simp only[rF i,Sy];rw[rD (Z m (max n m) (rA _ _)) (by rw[Y];simp),Y];rfl
   unfold cJ at I;cases A:g with
   |none=>
    rw[A]at I;exact hop I (SN A)
   |some sb=>
    obtain⟨s,b⟩:=sb;rw[A]at I;simp only[]at I;rcases I with⟨e,I⟩|⟨e,I⟩
    .exact hop I ((F s b A).1 e)
    .obtain⟨m,M,V,rs,Y,O⟩:=cJ.run J I;refine⟨m,M,V,⟨o,false,E,H,QQ,H⟩::rs,?_,by simpa [mo]using O⟩;simp only[eJ,(F s b A).2 e,rF i,Sy,Y,ip]
  .simp at hs
theorem EO{g:List (Nat×Nat)}{rs:List Rec}{H':Hp}(h:mn P cfg g (rs.map mo) H'):lU P cfg g rs H'=true:=by
 unfold lU;simp only[dn,iB];refine⟨fun r V=>Nat.ble_eq_true_of_le (h.1 _ (jA.2 ⟨r,V,rfl⟩)),fun p hp=>?_⟩;have K:=h.2 p hp;have F:pJ (rs.map mo) H' p.2=Ql rs H' p.2:=by
  unfold pJ Ql;rw[dY];cases rs[p.2]? <;>rfl
 unfold rV at K;rw[dY,F]at K;cases hr:rs[p.1]? with
 |none=>rfl
 |some r=>
  rw[hr]at K;simp only[fW,mo]at K;simp only[lc,fI];cases hd:r.did with
  |false=>exact .inl rfl
  |true=>
   right
   have K:=K hd;unfold jJ at K;unfold zbz;cases j:Ro r.o.op with
   |calm=>rfl
   |act=>rfl
   |read=>
    rw[j]at K;simp only[]at K⊢;obtain⟨m,Z⟩:=K;rw[Z];exact AV.beq_refl _
   |make=>
    rw[j]at K;simp only[]at K⊢;obtain⟨b,i,Z⟩:=K;rw[i,Z];exact HB.beq_refl b
theorem EP{id:Nat}{ops A:List Oper}{l:List SOp}{g:List (Nat×Nat)}{E:ai}{H:Hp}{Q:AX->ai->Hp->Prop}
 (J:∀ih:Task->Res,RW P cfg ih f N E H (cfg.plan f id) ops=Sn P cfg ih f N A E H) (m:kS A=true) (Y:Qe N A A=some l) (V:jr A=g)
 (h:∀K:List Rc->ai->Hp->Prop,(∀Z E' H',mn P cfg g Z H'->Q .normal E' H'->K Z E' H')->cJ P cfg f l [] E H K):Wp P cfg f N (.draw id ops) E H Q:=by
 unfold Wp;intro code hc;cases code with
 |region M U draw=>
  cases draw with
  |false=>simp only[aB,Qh]at hc;split at hc<;>simp at hc
  |true=>
   simp only[aB,SC.draw.injEq]at hc;obtain⟨rfl,rfl⟩:=hc;obtain⟨n,E',H',rs,i,O,o⟩:=cJ.run Y (h (fun Z E' H'=>mn P cfg g Z H'/\Q .normal E' H') fun _ _ _ h j=>⟨h,j⟩);refine⟨_,_,_,QC.draw (n:=n) (r:=.done .normal E' H') ?_ aA,o⟩;rw[J];unfold Sn;rw[m];simp only[i];rw[V,EO oU]
 |_=>simp[aB]at hc
theorem EQ{id:Nat}{ops:List Oper}{l:List SOp}{g:List (Nat×Nat)}{E:ai}{H:Hp}{Q:AX->ai->Hp->Prop}(J:cfg.plan f id=.text)(m:kS ops=true)(Y:Qe N ops ops=some l)(V:jr ops=g)
 (h:∀K:List Rc->ai->Hp->Prop,(∀Z E' H',mn P cfg g Z H'->Q .normal E' H'->K Z E' H')->cJ P cfg f l [] E H K):Wp P cfg f N (.draw id ops) E H Q:=
 EP (fun ih=>by rw[J];rfl) m Y V h
theorem cJ.nil{K:List Rc}{E:ai}{H:Hp}{Q:List Rc->ai->Hp->Prop}(h:Q K E H):cJ P cfg f [] K E H Q:=h
theorem cJ.step{d:Nat}{op:Op}{l:List SOp}{K:List Rc}{E:ai}{H:Hp}{Q:List Rc->ai->Hp->Prop}
 (h:ak P cfg f [⟨some d,op,none⟩] E H fun E' H'=>cJ P cfg f l (K++[⟨op,true,E,H,E'.at d,H'⟩]) E' H' Q):cJ P cfg f (⟨some d,op,none⟩::l) K E H Q:=by
 unfold ak at h;simp only[]at h;unfold cJ;refine ec.mono (fun v H' I=>?_) h;unfold ak at I;have:(Qo E (some d) v).at d=v:=xz;rw[this]at I;exact I
def aS:=@cJ.step
theorem P9{op:Op}{l:List SOp}{K:List Rc}{E:ai}{H:Hp}{Q:List Rc->ai->Hp->Prop}(j:Ro op=.act)
 (h:ak P cfg f [⟨none,op,none⟩] E H fun E' H'=>∀v,cJ P cfg f l (K++[⟨op,true,E,H,v,H'⟩]) E' H' Q):cJ P cfg f (⟨none,op,none⟩::l) K E H Q:=by
 unfold ak at h;simp only[]at h;unfold cJ;refine ec.mono (fun v H' I=>?_) h;unfold ak at I;exact I v
theorem cJ.guard{d:Option Nat}{op:Op}{s:Nat}{b t:Bool}{l:List SOp}{K:List Rc}{E:ai}{H:Hp}{Q:List Rc->ai->Hp->Prop}(h:E.at s=.bool t)(i:t=b->cJ P cfg f (⟨d,op,none⟩::l) K E H Q)(g:t=!b->cJ P cfg f l (K++[⟨op,false,E,H,QQ,H⟩]) (Qo E d QQ) H Q):
 cJ P cfg f (⟨d,op,some (s,b)⟩::l) K E H Q:=by
 unfold cJ;simp only[];by_cases e:t=b
 .left
  refine⟨by rw[h,e],?_⟩;have:=i e;unfold cJ at this;exact this
 .right
  have z:t=!b:=by cases t<;>cases b<;>simp_all
  exact⟨.inl (by rw[h,z]),g z⟩
theorem ER{t:TypeId}{x:Operand}{E:ai}{Qv V H:Hp}{v a:AV}(h:PS E x=some a)(i:Ru P H t a=some v):jJ P cfg ⟨.load t x,true,E,Qv,v,V⟩ H:=
 ⟨H,by simp only[QU,bP,oJ,Go.Ab.ret,h,i,Rn]⟩
theorem ES{t:TypeId}{x y:Operand}{ok:Bool}{E:ai}{Qv V H:Hp}{v a b:AV}(h:PS E x=some a)(i:PS E y=some b)(g:R2 P H t a b ok=some v):jJ P cfg ⟨.lookup t x y ok,true,E,Qv,v,V⟩ H:=
 ⟨H,by simp only[QU,bP,oO,Go.Ab.ret,h,i,g,Rn]⟩
theorem ET{t:TypeId}{x:Operand}{E:ai}{Qv V H:Hp}{v a:AV}(h:PS E x=some a)(i:Qr P H t a=some v):jJ P cfg ⟨.call ⟨.builtin .len,#[x],#[t]⟩,true,E,Qv,v,V⟩ H:=
 ⟨H,by simp only[QU,kP,Rt,h,SI,i,Rn]⟩
theorem EU{s t:TypeId}{x:Operand}{E:ai}{Qv V H:Hp}{v a:AV}(h:PS E x=some a)(i:RU P H s t a=some v):jJ P cfg ⟨.convert s t x,true,E,Qv,v,V⟩ H:=
 ⟨H,by simp only[QU,bP,oK,Go.Ab.ret,h,i,Rn]⟩
theorem EV{t:TypeId}{x:Operand}{lo F:Option Operand}{I J:Option AV}{E:ai}{Qv V H:Hp}{v a:AV}(h:PS E x=some a)(i:RV E lo=some I)(g:RV E F=some J)(o:jB P H t a I J=some v):jJ P cfg ⟨.slice t x lo F none,true,E,Qv,v,V⟩ H:=
 ⟨H,by simp only[QU,bP,oN,Go.Ab.ret,h,i,g,o,Rn]⟩
theorem EW{op:Op}{E:ai}{Qv V H:Hp}{v:AV}{b:HB}(j:Ro op=.make)(h:H.get Qv.next=some b)(g:V.get Qv.next=some b):jJ P cfg ⟨op,true,E,Qv,v,V⟩ H:=by
 unfold jJ;rw[j];exact⟨b,h,g⟩
theorem EX{K:List Rc}{H':Hp}{i m:Nat}{r:Rc}(h:K[i]?=some r)(Z:r.did=true->jJ P cfg r (pJ K H' m)):rV P cfg K H' i m:=by
 unfold rV;rw[h];exact Z
end
section
variable {P:Program} {cfg:Cfg} {f:FuncId} {l:List SOp} {E:ai} {H:Hp} {Q:ai -> Hp -> Prop} {d:Nat} {x y:Operand} {ts:Array TypeId} {k k':IntKind} {a b:Int}
theorem ak.min2(h:PS E x=some (.int k a))(i:PS E y=some (.int k' b))(j:ak P cfg f l (T.set E d (some (.int k (min a b)))) H Q):ak P cfg f (⟨some d,.call ⟨.builtin .min,#[x,y],ts⟩,none⟩::l) E H Q:=
 rH (c:=⟨.builtin .min,#[x,y],ts⟩) rfl (vs:=[.int k a,.int k' b]) (by simp only[Rt,h,i]) (v:=.int k (min a b)) (by
  simp only[SI,kO,mm,b9,cC,i4]
  congr 3;omega) j
theorem ak.max2(h:PS E x=some (.int k a))(i:PS E y=some (.int k' b))(j:ak P cfg f l (T.set E d (some (.int k (max a b)))) H Q):ak P cfg f (⟨some d,.call ⟨.builtin .max,#[x,y],ts⟩,none⟩::l) E H Q:=
 rH (c:=⟨.builtin .max,#[x,y],ts⟩) rfl (vs:=[.int k a,.int k' b]) (by simp only[Rt,h,i]) (v:=.int k (max a b)) (by
  simp only[SI,kO,mm,cr,i4]
  congr 3;omega) j
end
attribute [irreducible] cJ
end Go.Ab
