/- Parts: AbFuel, AbEnv, AbWp, AbWd, AbWt, Tree, Pls. -/
import Derived.IntWalk
import Derived.KernelRfl
import Derived.Test.YtpbcimfiofmoeaaRows
import Derived.Test.YtpbcimfiofmoeaaSDD
set_option linter.unusedSimpArgs false
set_option linter.unusedVariables false
set_option linter.unusedSectionVars false
set_option linter.defProp false
set_option maxHeartbeats 32000000
namespace Go.Ab
set_option maxRecDepth 20000
open Go
def Le (ih ih':Task→Res):Prop:=∀ t,ih t≠.fail→ih' t=ih t
section
variable {P:Program} {cfg:Cfg} {ih ih':Task → Res}
theorem zdh (h:Le ih ih') {f:FuncId}{E:Env}{H:Hp}{op:Op} (hn:yI P cfg ih f E H op≠.fail):yI P cfg ih' f E H op=yI P cfg ih f E H op:=by
 unfold yI at *
 split
 ·rename_i c
  unfold zgx at *
  split
  ·rename_i g hg
   simp only[hg]at hn
   split
   ·rename_i k cap vs h1 h2
    simp only[h1,h2]at hn
    exact h _ hn
   ·rfl
  ·rfl
  ·rfl
 ·rfl
theorem zbH {f N:Nat}{all:List Oper}{o:Oper}{l:List Oper}{E:Env}{H:Hp}:j9 P cfg ih f N all (o::l) E H=match jj all E o with
 | true=>match yI P cfg ih f E H o.op with
   | .val v H=>yW (j9 P cfg ih f N all l) H (zaB N E o.dst v)
   | _=>.fail
 | false=>yW (j9 P cfg ih f N all l) H (zaB N E o.dst yp):=rfl
theorem zcv (h:Le ih ih') {f N:Nat}{all:List Oper}:∀ {l:List Oper}{E:Env}{H:Hp},j9 P cfg ih f N all l E H≠.fail→j9 P cfg ih' f N all l E H=j9 P cfg ih f N all l E H
 | [],_,_,_=>rfl
 | o::l,E,H,hn=>by
   rw[zbH]at hn ⊢
   rw[zbH]
   cases hw:jj all E o with
   | true=>
     simp only[hw]at hn ⊢
     cases ho:yI P cfg ih f E H o.op with
     | fail=>simp[ho]at hn
     | done x E1 H1=>simp[ho]at hn
     | val v H1=>
       rw[zdh h (by rw[ho];simp),ho]
       simp only[ho]at hn ⊢
       cases hp:zaB N E o.dst v with
       | none=>rfl
       | some E1=>
         rw[hp]at hn
         exact zcv h hn
   | false=>
     simp only[hw]at hn ⊢
     cases hp:zaB N E o.dst yp with
     | none=>rfl
     | some E1=>
       rw[hp]at hn
       exact zcv h hn
theorem zei (h:Le ih ih') {f N:Nat}{all:List Oper}:∀ {l:List Oper}{E:Env}{H:Hp},zcN P cfg ih f N all l E H≠.fail→zcN P cfg ih' f N all l E H=zcN P cfg ih f N all l E H
 | [],_,_,_=>rfl
 | o::l,E,H,hn=>by
   have hcons:∀ {r:Rec}{x:ResD},zdA r x≠.fail→x≠.fail:=fun {r x} hx e=>hx (by rw[e];rfl)
   simp only[zcN]at hn ⊢
   cases hw:jj all E o with
   | true=>
     simp only[hw]at hn ⊢
     cases ho:yI P cfg ih f E H o.op with
     | fail=>simp[ho]at hn
     | done x E1 H1=>simp[ho]at hn
     | val v H1=>
       rw[zdh h (by rw[ho];simp),ho]
       simp only[ho]at hn ⊢
       cases hp:zaB N E o.dst v with
       | none=>rfl
       | some E1=>
         rw[hp]at hn
         have:=zei h (hcons hn)
         simp only[jO,this]
   | false=>
     simp only[hw]at hn ⊢
     cases hp:zaB N E o.dst yp with
     | none=>rfl
     | some E1=>
       rw[hp]at hn
       have:=zei h (hcons hn)
       simp only[jO,this]
theorem zfw (h:Le ih ih') {f N:Nat}{ops:List Oper}{E:Env}{H:Hp} (hn:zan P cfg ih f N ops E H≠.fail):zan P cfg ih' f N ops E H=zan P cfg ih f N ops E H:=by
 unfold zan at *
 split
 ·rename_i hc
  simp only[hc]at hn
  cases hr:zcN P cfg ih f N ops ops E H with
  | fail=>simp[hr]at hn
  | done E1 H1 rs=>rw[zei h (by rw[hr];simp),hr]
 ·rfl
theorem zmv {ops:List Oper}{r1 r2 r1' r2':Res} (h1:r1≠.fail→r1'=r1) (h2:r2≠.fail→r2'=r2) (hn:zhC ops r1 r2≠.fail):zhC ops r1' r2'=zhC ops r1 r2:=by
 have g1:r1≠.fail:=fun e=>hn (by rw[e];rfl)
 have g2:r2≠.fail:=fun e=>hn (by rw[e];unfold zhC;split<;>simp_all)
 rw[h1 g1,h2 g2]
theorem zdi (h:Le ih ih') {f N:Nat}{E:Env}{H:Hp}:∀ {pl:Plan}{ops:List Oper},jt P cfg ih f N E H pl ops≠.fail→jt P cfg ih' f N E H pl ops=jt P cfg ih f N E H pl ops
 | .text,ops,hn=>zfw h hn
 | .perm ord,ops,hn=>by
   simp only[jt]at *
   split
   ·rename_i hp
    simp only[hp]at hn
    exact zfw h hn
   ·rfl
 | .split p q a b,ops,hn=>by
   simp only[jt]at *
   split
   ·rfl
   ·rename_i hp
    simp only[hp]at hn
    exact zmv (fun h1=>zdi h h1) (fun h2=>zdi h h2) hn
theorem zcI (h:Le ih ih') {f:FuncId}{args:List AV}{H:Hp} (hn:zaf P ih f args H≠.fail):zaf P ih' f args H=zaf P ih f args H:=by
 unfold zaf at *
 split
 ·rename_i fn hf
  simp only[hf]at hn
  split
  ·rename_i c hb
   simp only[hb]at hn
   cases hr:ih (.code f (max fn.ntmps args.length) c (zO 0 args (zhD (max fn.ntmps args.length))) H)with
   | fail=>simp[hr]at hn
   | val v H1=>rw[h _ (by rw[hr];simp),hr]
   | done x E1 H1=>rw[h _ (by rw[hr];simp),hr]
  ·rfl
 ·rfl
theorem zjW (h:Le ih ih') {f:FuncId}{args:List AV}{H:Hp} (hn:zaR P cfg ih f args H≠.fail):zaR P cfg ih' f args H=zaR P cfg ih f args H:=by
 unfold zaR at *
 split
 ·rename_i hi
  simp only[hi]at hn
  unfold zdH at *
  split
  ·rename_i asx H' hs
   simp only[hs]at hn
   split
   ·rfl
   ·rename_i h1
    simp only[h1]at hn
    exact zcI h hn
  ·rename_i hs
   simp only[hs]at hn
   exact zcI h hn
 ·rename_i hi
  simp only[hi]at hn
  exact zcI h hn
theorem zfx (h:Le ih ih') {f N:Nat}{b:Code}{r r':Res} (hr:r≠.fail→r'=r) (hn:zaQ ih f N b r≠.fail):zaQ ih' f N b r'=zaQ ih f N b r:=by
 cases r with
 | fail=>simp[zaQ]at hn
 | val v H1=>rw[hr (by simp)];rfl
 | done x E1 H1=>
   rw[hr (by simp)]
   cases x with
   | normal=>exact h _ hn
   | exit id=>rfl
   | ret=>rfl
theorem zoK (h:Le ih ih') {t:Task} (hn:step P cfg ih t≠.fail):step P cfg ih' t=step P cfg ih t:=by
 cases t with
 | call f args H=>
   simp only[step]at *
   split
   ·rfl
   ·rename_i hc
    simp only[hc]at hn
    have hany:zaR P cfg ih f args H≠.fail:=fun e=>hn (by rw[e];unfold zfY;split<;>simp_all)
    rw[zjW h hany]
 | code f N c E H=>
   cases c with
   | region id ops draw=>cases draw with
     | false=>exact zcv h hn
     | true=>exact zdi h hn
   | seq a b=>exact zfx h (h _) hn
   | loop a=>exact zfx h (h _) hn
   | cond x a b=>
     simp only[step]at *
     unfold zb1 at *
     split
     ·rename_i hc
      simp only[hc]at hn
      exact h _ hn
     ·rename_i hc
      simp only[hc]at hn
      exact h _ hn
     ·rfl
   | block id a=>
     simp only[step]at *
     cases hr:ih (.code f N a E H)with
     | fail=>simp[hr,jy]at hn
     | val v H1=>rw[h _ (by rw[hr];simp),hr]
     | done x E1 H1=>rw[h _ (by rw[hr];simp),hr]
   | _=>rfl
theorem ev_le:∀ n,Le (ev P cfg n) (ev P cfg (n+1))
 | 0=>fun _ hn=>(hn rfl).elim
 | n+1=>fun _ hn=>zoK (ev_le n) hn
theorem zjX {n m:Nat} (hm:n≤m) {t:Task} (hn:ev P cfg n t≠.fail):ev P cfg m t=ev P cfg n t:=by
 induction m with
 | zero=>rw[show n=0 by omega]
 | succ m ih=>
   by_cases h:n=m+1
   ·rw[h]
   ·have:=ih (by omega)
    rw[ev_le m t (by rw[this];exact hn),this]
theorem zhe {n m:Nat} (hm:n≤m) {t:Task}{r:Res} (h:ev P cfg n t=r) (hr:r≠.fail):ev P cfg m t=r:=by
 rw[zjX hm (by rw[h];exact hr),h]
def Ev (P:Program) (cfg:Cfg) (t:Task) (r:Res):Prop:=r≠.fail∧∃ n,ev P cfg n t=r
theorem Ev.step {t:Task}{r:Res} (hr:r≠.fail) {n:Nat} (h:Ab.step P cfg (ev P cfg n) t=r):Ev P cfg t r:=⟨hr,n+1,h⟩
section
variable {f N id:Nat} {a b:Code} {x:Operand} {E E1:Env} {H H1:Hp} {r:Res} {ex:AX}
theorem Ev.seq (h1:Ev P cfg (.code f N a E H) (.done .normal E1 H1)) (h2:Ev P cfg (.code f N b E1 H1) r):Ev P cfg (.code f N (.seq a b) E H) r:=by
 obtain⟨_,n,h1⟩:=h1
 obtain⟨hr,m,h2⟩:=h2
 refine Ev.step hr (n:=max n m) ?_
 show zaQ (ev P cfg (max n m)) f N b (ev P cfg (max n m) (.code f N a E H))=r
 rw[zhe (Nat.le_max_left n m) h1 (by simp)]
 exact zhe (Nat.le_max_right n m) h2 hr
theorem zfy (h1:Ev P cfg (.code f N a E H) (.done ex E1 H1)) (hx:ex≠.normal):Ev P cfg (.code f N (.seq a b) E H) (.done ex E1 H1):=by
 obtain⟨hr,n,h1⟩:=h1
 refine Ev.step hr (n:=n) ?_
 show zaQ (ev P cfg n) f N b (ev P cfg n (.code f N a E H))=_
 rw[h1]
 cases ex with
 | normal=>exact(hx rfl).elim
 | exit id=>rfl
 | ret=>rfl
theorem Ev.loop (h1:Ev P cfg (.code f N a E H) (.done .normal E1 H1)) (h2:Ev P cfg (.code f N (.loop a) E1 H1) r):Ev P cfg (.code f N (.loop a) E H) r:=by
 obtain⟨_,n,h1⟩:=h1
 obtain⟨hr,m,h2⟩:=h2
 refine Ev.step hr (n:=max n m) ?_
 show zaQ (ev P cfg (max n m)) f N (.loop a) (ev P cfg (max n m) (.code f N a E H))=r
 rw[zhe (Nat.le_max_left n m) h1 (by simp)]
 exact zhe (Nat.le_max_right n m) h2 hr
theorem zeH (h1:Ev P cfg (.code f N a E H) (.done ex E1 H1)) (hx:ex≠.normal):Ev P cfg (.code f N (.loop a) E H) (.done ex E1 H1):=by
 obtain⟨hr,n,h1⟩:=h1
 refine Ev.step hr (n:=n) ?_
 show zaQ (ev P cfg n) f N (.loop a) (ev P cfg n (.code f N a E H))=_
 rw[h1]
 cases ex with
 | normal=>exact(hx rfl).elim
 | exit id=>rfl
 | ret=>rfl
theorem zjY (hx:zn E x=some (.bool true)) (h:Ev P cfg (.code f N a E H) r):Ev P cfg (.code f N (.cond x a b) E H) r:=by
 obtain⟨hr,n,h⟩:=h
 refine Ev.step hr (n:=n) ?_
 show zb1 (ev P cfg n) f N x a b E H=r
 unfold zb1
 rw[hx]
 exact h
theorem zi4 (hx:zn E x=some (.bool false)) (h:Ev P cfg (.code f N b E H) r):Ev P cfg (.code f N (.cond x a b) E H) r:=by
 obtain⟨hr,n,h⟩:=h
 refine Ev.step hr (n:=n) ?_
 show zb1 (ev P cfg n) f N x a b E H=r
 unfold zb1
 rw[hx]
 exact h
theorem Ev.block (h:Ev P cfg (.code f N a E H) (.done (.exit id) E1 H1)):Ev P cfg (.code f N (.block id a) E H) (.done .normal E1 H1):=by
 obtain⟨hr,n,h⟩:=h
 refine Ev.step (by simp) (n:=n) ?_
 show jy id (ev P cfg n (.code f N a E H))=_
 rw[h]
 simp[jy]
theorem zg3 (h:Ev P cfg (.code f N a E H) (.done .normal E1 H1)):Ev P cfg (.code f N (.block id a) E H) (.done .normal E1 H1):=by
 obtain⟨hr,n,h⟩:=h
 refine Ev.step (by simp) (n:=n) ?_
 show jy id (ev P cfg n (.code f N a E H))=_
 rw[h]
 rfl
theorem zjZ (h:Ev P cfg (.code f N a E H) (.done .ret E1 H1)):Ev P cfg (.code f N (.block id a) E H) (.done .ret E1 H1):=by
 obtain⟨hr,n,h⟩:=h
 refine Ev.step (by simp) (n:=n) ?_
 show jy id (ev P cfg n (.code f N a E H))=_
 rw[h]
 rfl
theorem zhZ {id':Nat} (hne:Nat.beq id' id=false) (h:Ev P cfg (.code f N a E H) (.done (.exit id') E1 H1)):Ev P cfg (.code f N (.block id a) E H) (.done (.exit id') E1 H1):=by
 obtain⟨hr,n,h⟩:=h
 refine Ev.step (by simp) (n:=n) ?_
 show jy id (ev P cfg n (.code f N a E H))=_
 rw[h]
 simp only[jy,hne]
theorem Ev.skip:Ev P cfg (.code f N .skip E H) (.done .normal E H):=Ev.step (by simp) (n:=0) rfl
theorem Ev.exit:Ev P cfg (.code f N (.exit id) E H) (.done (.exit id) E H):=Ev.step (by simp) (n:=0) rfl
theorem Ev.ret:Ev P cfg (.code f N .ret E H) (.done .ret E H):=Ev.step (by simp) (n:=0) rfl
theorem Ev.region {ops:Array Oper}{n:Nat} (h:j9 P cfg (ev P cfg n) f N ops.toList ops.toList E H=r) (hr:r≠.fail):Ev P cfg (.code f N (.region id ops false) E H) r:=Ev.step hr (n:=n) h
theorem Ev.draw {ops:Array Oper}{n:Nat} (h:jt P cfg (ev P cfg n) f N E H (cfg.plan f id) ops.toList=r) (hr:r≠.fail):Ev P cfg (.code f N (.region id ops true) E H) r:=Ev.step hr (n:=n) h
theorem Ev.call {args:List AV}{fn:Func}{c:Code}{v:AV} (hk:cfg.call f args=none) (hi:cfg.ice f=false) (hz:cfg.froz f=false) (hf:P.funcs[f]?=some fn) (hb:fn.body=some c)
 (h:Ev P cfg (.code f (max fn.ntmps args.length) c (zO 0 args (zhD (max fn.ntmps args.length))) H) (.done ex E1 H1)) (hx:ex=.normal∨ex=.ret) (hres:retA P fn.results.toList E1 H1=.val v H1):Ev P cfg (.call f args H) (.val v H1):=by
 obtain⟨_,n,h⟩:=h
 refine Ev.step (by simp) (n:=n) ?_
 simp only[Ab.step,hk,hi,hz,zaR,zfY]
 unfold zaf
 simp only[hf,hb,h]
 rcases hx with rfl|rfl<;>exact hres
end
end
noncomputable section
open Go
def ov (L:List (Nat×AV)) (d:Nat→AV):Nat→AV:=
 List.rec (motive:=fun _=>Nat→AV) d (fun p _ go k=>zdD (Nat.beq p.1 k) p.2 (go k)) L
end
structure SOp where
 d:Option Nat
 op:Op
 g:Option (Nat×Bool)
inductive SC where
 | skip|ret|bad
 | ops (l:List SOp)
 | draw (id:Nat) (l:List Oper)
 | seq (a b:SC)
 | cond (x:Operand) (a b:SC)
 | block (id:Nat) (a:SC)
 | loop (a:SC)
 | exit (id:Nat)
def z6 (N:Nat):Option Tmp→Option (Option Nat)
 | none=>some none
 | some d=>match Nat.blt d N with
   | true=>some (some d)
   | false=>none
def z7 (all:List Oper):Option (Nat×Bool)→Option (Option (Nat×Bool))
 | none=>some none
 | some (j,b)=>match (all[j]?).bind (·.dst)with
   | some d=>some (some (d,b))
   | none=>none
def zS (N:Nat) (all:List Oper):List Oper→Option (List SOp)
 | []=>some []
 | o::l=>match z6 N o.dst,z7 all o.guard,zS N all l with
   | some d,some g,some r=>some (⟨d,o.op,g⟩::r)
   | _,_,_=>none
def zZ (l:Option (List SOp)):SC:=match l with
 | some l=>.ops l
 | none=>.bad
def slim (N:Nat):Code→SC
 | .skip=>.skip
 | .region id ops draw=>match draw with
   | false=>zZ (zS N ops.toList ops.toList)
   | true=>.draw id ops.toList
 | .seq a b=>.seq (slim N a) (slim N b)
 | .cond x a b=>.cond x (slim N a) (slim N b)
 | .block id a=>.block id (slim N a)
 | .loop a=>.loop (slim N a)
 | .exit id=>.exit id
 | .ret=>.ret
 | _=>.bad
section
variable (P:Program) (cfg:Cfg) (f N:Nat)
def zr (g:FuncId) (args:List AV) (H:Hp) (Q:AV→Hp→Prop):Prop:=∃ v H',Ev P cfg (.call g args H) (.val v H')∧Q v H'
def zdT (op:Op) (E:Env) (H:Hp) (K:AV→Hp→Prop):Prop:=∃ n v H',yI P cfg (ev P cfg n) f E H op=.val v H'∧K v H'
noncomputable def zA (E:Env):Option Nat→AV→Env
 | some d,v=>T.set E d (some v)
 | none,_=>E
def WpL:List SOp→Env→Hp→(Env→Hp→Prop)→Prop
 | [],E,H,Q=>Q E H
 | o::l,E,H,Q=>match o.g with
   | none=>zdT P cfg f o.op E H fun v H'=>WpL l (zA E o.d v) H' Q
   | some (s,b)=>(E.at s=.bool b∧zdT P cfg f o.op E H fun v H'=>WpL l (zA E o.d v) H' Q)∨((E.at s=.bool (!b)∨E.at s=yp)∧WpL l (zA E o.d yp) H Q)
def Wp (c:SC) (E:Env) (H:Hp) (Q:AX→Env→Hp→Prop):Prop:=∀ code,slim N code=c→∃ x E' H',Ev P cfg (.code f N code E H) (.done x E' H')∧Q x E' H'
end
section
variable {P:Program} {cfg:Cfg} {f N:Nat}
theorem zdT.mono {op:Op}{E:Env}{H:Hp}{K K':AV→Hp→Prop} (h:∀ v H',K v H'→K' v H') (hk:zdT P cfg f op E H K):zdT P cfg f op E H K':=by
 obtain⟨n,v,H',h1,h2⟩:=hk
 exact⟨n,v,H',h1,h v H' h2⟩
theorem Wp.mono {c:SC}{E:Env}{H:Hp}{Q Q':AX→Env→Hp→Prop} (h:∀ x E H,Q x E H→Q' x E H) (hw:Wp P cfg f N c E H Q):Wp P cfg f N c E H Q':=fun code hc=>by
 obtain⟨x,E',H',h1,h2⟩:=hw code hc
 exact⟨x,E',H',h1,h _ _ _ h2⟩
theorem Wp.skip {E:Env}{H:Hp}{Q:AX→Env→Hp→Prop} (h:Q .normal E H):Wp P cfg f N .skip E H Q:=fun code hc=>by
 cases code with
 | skip=>exact⟨_,_,_,Ev.skip,h⟩
 | region id ops draw=>cases draw<;>simp only[slim,zZ,reduceCtorEq]at hc;split at hc<;>simp at hc
 | _=>simp[slim]at hc
theorem Wp.ret {E:Env}{H:Hp}{Q:AX→Env→Hp→Prop} (h:Q .ret E H):Wp P cfg f N .ret E H Q:=fun code hc=>by
 cases code with
 | ret=>exact⟨_,_,_,Ev.ret,h⟩
 | region id ops draw=>cases draw<;>simp only[slim,zZ,reduceCtorEq]at hc;split at hc<;>simp at hc
 | _=>simp[slim]at hc
theorem Wp.exit {id:Nat}{E:Env}{H:Hp}{Q:AX→Env→Hp→Prop} (h:Q (.exit id) E H):Wp P cfg f N (.exit id) E H Q:=fun code hc=>by
 cases code with
 | exit id'=>simp only[slim,SC.exit.injEq]at hc;subst hc;exact⟨_,_,_,Ev.exit,h⟩
 | region id ops draw=>cases draw<;>simp only[slim,zZ,reduceCtorEq]at hc;split at hc<;>simp at hc
 | _=>simp[slim]at hc
def zb9 (Q:AX→Env→Hp→Prop) (K:Env→Hp→Prop):AX→Env→Hp→Prop
 | .normal,E,H=>K E H
 | .exit id,E,H=>Q (.exit id) E H
 | .ret,E,H=>Q .ret E H
theorem Wp.seq {a b:SC}{E:Env}{H:Hp}{Q:AX→Env→Hp→Prop} (h:Wp P cfg f N a E H (zb9 Q fun E H=>Wp P cfg f N b E H Q)):Wp P cfg f N (.seq a b) E H Q:=fun code hc=>by
 cases code with
 | seq p q=>
   simp only[slim,SC.seq.injEq]at hc
   obtain⟨x,E1,H1,h1,h2⟩:=h p hc.1
   cases x with
   | normal=>
     obtain⟨x,E2,H2,h3,h4⟩:=h2 q hc.2
     exact⟨x,E2,H2,Ev.seq h1 h3,h4⟩
   | exit id=>exact⟨_,_,_,zfy h1 (by simp),h2⟩
   | ret=>exact⟨_,_,_,zfy h1 (by simp),h2⟩
 | region id ops draw=>cases draw<;>simp only[slim,zZ,reduceCtorEq]at hc;split at hc<;>simp at hc
 | _=>simp[slim]at hc
theorem Wp.cond {x:Operand}{a b:SC}{E:Env}{H:Hp}{Q:AX→Env→Hp→Prop}{t:Bool} (hx:zn E x=some (.bool t)) (h1:t=true→Wp P cfg f N a E H Q) (h2:t=false→Wp P cfg f N b E H Q) :
 Wp P cfg f N (.cond x a b) E H Q:=fun code hc=>by
 cases code with
 | cond y p q=>
   simp only[slim,SC.cond.injEq]at hc
   obtain⟨rfl,h3,h4⟩:=hc
   cases t with
   | true=>
     obtain⟨x,E1,H1,g1,g2⟩:=h1 rfl p h3
     exact⟨x,E1,H1,zjY hx g1,g2⟩
   | false=>
     obtain⟨x,E1,H1,g1,g2⟩:=h2 rfl q h4
     exact⟨x,E1,H1,zi4 hx g1,g2⟩
 | region id ops draw=>cases draw<;>simp only[slim,zZ,reduceCtorEq]at hc;split at hc<;>simp at hc
 | _=>simp[slim]at hc
def zca (id:Nat) (Q:AX→Env→Hp→Prop):AX→Env→Hp→Prop
 | .normal,E,H=>Q .normal E H
 | .exit id',E,H=>if id'=id then Q .normal E H else Q (.exit id') E H
 | .ret,E,H=>Q .ret E H
theorem Wp.block {id:Nat}{a:SC}{E:Env}{H:Hp}{Q:AX→Env→Hp→Prop} (h:Wp P cfg f N a E H (zca id Q)):Wp P cfg f N (.block id a) E H Q:=fun code hc=>by
 cases code with
 | block id' p=>
   simp only[slim,SC.block.injEq]at hc
   obtain⟨rfl,h3⟩:=hc
   obtain⟨x,E1,H1,g1,g2⟩:=h p h3
   cases x with
   | normal=>exact⟨_,_,_,zg3 g1,g2⟩
   | ret=>exact⟨_,_,_,zjZ g1,g2⟩
   | exit k=>
     simp only[zca]at g2
     split at g2
     ·rename_i e;subst e;exact⟨_,_,_,Ev.block g1,g2⟩
     ·rename_i e
      exact⟨_,_,_,zhZ (by cases hb:Nat.beq k id' with|true=>exact(e (Nat.eq_of_beq_eq_true hb)).elim|false=>rfl) g1,g2⟩
 | region id ops draw=>cases draw<;>simp only[slim,zZ,reduceCtorEq]at hc;split at hc<;>simp at hc
 | _=>simp[slim]at hc
theorem Wp.loop {a:SC}{Q:AX→Env→Hp→Prop} (I:Nat→Env→Hp→Prop) (h:∀ n E H,I n E H→Wp P cfg f N a E H (zb9 Q fun E H=>∃ m,m < n∧I m E H)) {n:Nat}{E:Env}{H:Hp} (h0:I n E H):Wp P cfg f N (.loop a) E H Q:=by
 induction n using Nat.strongRecOn generalizing E H with
 | _ n ih=>
   intro code hc
   cases code with
   | loop p=>
     simp only[slim,SC.loop.injEq]at hc
     obtain⟨x,E1,H1,g1,g2⟩:=h n E H h0 p hc
     cases x with
     | normal=>
       obtain⟨m,hm,hI⟩:=g2
       obtain⟨x,E2,H2,g3,g4⟩:=ih m hm hI (.loop p) (by simp[slim,hc])
       exact⟨x,E2,H2,Ev.loop g1 g3,g4⟩
     | exit id=>exact⟨_,_,_,zeH g1 (by simp),g2⟩
     | ret=>exact⟨_,_,_,zeH g1 (by simp),g2⟩
   | region id ops draw=>cases draw<;>simp only[slim,zZ,reduceCtorEq]at hc;split at hc<;>simp at hc
   | _=>simp[slim]at hc
theorem zaq {a:SC}{Q:AX→Env→Hp→Prop} (I:Nat→Env→Hp→Prop) (N':Nat) (h:∀ i E H,i≤N'→I i E H→Wp P cfg f N a E H (zb9 Q fun E H=>i < N'∧I (i+1) E H)) {E:Env}{H:Hp} (h0:I 0 E H):Wp P cfg f N (.loop a) E H Q:=
 Wp.loop (fun n E H=>n≤N'∧I (N' - n) E H) (fun n E H hI=>Wp.mono (fun x E' H' hq=>by
  cases x with
  | normal=>
    obtain⟨h1,h2⟩:=hq
    have:=hI.1
    refine⟨n - 1,by omega,by omega,?_⟩
    rw[show N' - (n - 1)=N' - n+1 by omega]
    exact h2
  | exit id=>exact hq
  | ret=>exact hq) (h (N' - n) E H (Nat.sub_le _ _) hI.2)) (n:=N') ⟨Nat.le_refl _,by rw[Nat.sub_self];exact h0⟩
theorem zej {N:Nat}{dst:Option Tmp}{d:Option Nat} (h:z6 N dst=some d) (E:Env) (v:AV):zaB N E dst v=some (zA E d v):=by
 cases dst with
 | none=>simp only[z6,Option.some.injEq]at h;subst h;rfl
 | some t=>
   simp only[z6]at h
   split at h
   ·rename_i hb
    simp only[Option.some.injEq]at h
    subst h
    simp only[zaB,hb,zA]
   ·simp at h
theorem zgL {all:List Oper}{E:Env}{o:Oper}{g:Option (Nat×Bool)} (h:z7 all o.guard=some g) :
 (g=none→jj all E o=true)∧∀ s b,g=some (s,b)→(E.at s=.bool b→jj all E o=true)∧(E.at s=.bool (!b)∨E.at s=yp→jj all E o=false):=by
 unfold jj
 cases hg:o.guard with
 | none=>
   rw[hg]at h
   simp only[z7,Option.some.injEq]at h
   subst h
   exact⟨fun _=>rfl,fun s b e=>by simp at e⟩
 | some jb=>
   obtain⟨j,b⟩:=jb
   rw[hg]at h
   simp only[z7]at h
   split at h
   ·rename_i d hd
    simp only[Option.some.injEq]at h
    subst h
    refine⟨fun e=>by simp at e,fun s b' e=>?_⟩
    simp only[Option.some.injEq,Prod.mk.injEq]at e
    obtain⟨rfl,rfl⟩:=e
    simp only[zfi,hd]
    refine⟨fun e=>by rw[e];simp,fun e=>by rcases e with e|e<;>rw[e]<;>simp[yp]⟩
   ·simp at h
theorem WpL.run {all:List Oper}{Q:Env→Hp→Prop}:∀ {l:List Oper}{r:List SOp}{E:Env}{H:Hp},zS N all l=some r→WpL P cfg f r E H Q →
 ∃ n E' H',j9 P cfg (ev P cfg n) f N all l E H=.done .normal E' H'∧Q E' H'
 | [],r,E,H,hs,hq=>by
   simp only[zS,Option.some.injEq]at hs
   subst hs
   exact⟨0,E,H,rfl,hq⟩
 | o::l,r,E,H,hs,hq=>by
   simp only[zS]at hs
   split at hs
   ·rename_i d g r' h1 h2 h3
    simp only[Option.some.injEq]at hs
    subst hs
    obtain⟨w1,w2⟩:=zgL (E:=E) h2
    have hop:∀ {K:Prop},zdT P cfg f o.op E H (fun v H'=>WpL P cfg f r' (zA E d v) H' Q)→jj all E o=true→∃ n E' H',j9 P cfg (ev P cfg n) f N all (o::l) E H=.done .normal E' H'∧Q E' H':=fun {K} hw hwant=>by
     obtain⟨n,v,H1,g1,g2⟩:=hw
     obtain⟨m,E2,H2,g3,g4⟩:=WpL.run h3 g2
     refine⟨max n m,E2,H2,?_,g4⟩
     have hle:∀ k k',k≤k'→Le (ev P cfg k) (ev P cfg k'):=fun k k' hk t ht=>zjX hk ht
     rw[zbH,hwant]
     simp only[]
     rw[zdh (hle n (max n m) (Nat.le_max_left _ _)) (by rw[g1];simp),g1]
     simp only[zej h1,yW]
     rw[zcv (hle m (max n m) (Nat.le_max_right _ _)) (by rw[g3];simp),g3]
    unfold WpL at hq
    cases hg:g with
    | none=>
      rw[hg]at hq
      exact hop (K:=True) hq (w1 hg)
    | some sb=>
      obtain⟨s,b⟩:=sb
      rw[hg]at hq
      simp only[]at hq
      rcases hq with ⟨e,hq⟩|⟨e,hq⟩
      ·exact hop (K:=True) hq ((w2 s b hg).1 e)
      ·obtain⟨m,E2,H2,g3,g4⟩:=WpL.run h3 hq
       refine⟨m,E2,H2,?_,g4⟩
       rw[zbH,(w2 s b hg).2 e]
       simp only[zej h1,yW]
       exact g3
   ·simp at hs
theorem Wp.ops {l:List SOp}{E:Env}{H:Hp}{Q:AX→Env→Hp→Prop} (h:WpL P cfg f l E H (Q .normal)):Wp P cfg f N (.ops l) E H Q:=fun code hc=>by
 cases code with
 | region id ops draw=>
   cases draw with
   | true=>simp[slim]at hc
   | false=>
     simp only[slim,zZ]at hc
     split at hc
     ·rename_i r hr
      simp only[SC.ops.injEq]at hc
      subst hc
      obtain⟨n,E',H',h1,h2⟩:=WpL.run hr h
      exact⟨_,_,_,Ev.region h1 (by simp),h2⟩
     ·simp at hc
 | _=>simp[slim]at hc
theorem zd {l:List SOp}{E:Env}{H:Hp}{Q:AX→Env→Hp→Prop} (h:∀ K:Env→Hp→Prop,(∀ E' H',Q .normal E' H'→K E' H')→WpL P cfg f l E H K):Wp P cfg f N (.ops l) E H Q:=
 Wp.ops (h _ fun _ _ h=>h)
theorem WpL.nil {E:Env}{H:Hp}{Q:Env→Hp→Prop} (h:Q E H):WpL P cfg f [] E H Q:=h
theorem zdT.plain {op:Op}{E:Env}{H H':Hp}{v:AV}{K:AV→Hp→Prop} (h:opA P cfg.dec E H op=some (v,H')) (hn:∀ c,op≠.call c) (hk:K v H'):zdT P cfg f op E H K:=
 ⟨0,v,H',(zbu hn).2 h,hk⟩
def zhf:Op→Bool
 | .call _=>false
 | _=>true
theorem zh0 {op:Op} (h:zhf op=true):∀ c,op≠.call c:=fun c e=>by subst e;simp[zhf]at h
theorem WpL.op {d:Nat}{op:Op}{l:List SOp}{E:Env}{H H':Hp}{v:AV}{Q:Env→Hp→Prop} (hn:zhf op=true) (h:opA P cfg.dec E H op=some (v,H')) (hk:WpL P cfg f l (T.set E d (some v)) H' Q):WpL P cfg f (⟨some d,op,none⟩::l) E H Q:=
 zdT.plain h (zh0 hn) hk
theorem znB {op:Op}{l:List SOp}{E:Env}{H H':Hp}{v:AV}{Q:Env→Hp→Prop} (hn:zhf op=true) (h:opA P cfg.dec E H op=some (v,H')) (hk:WpL P cfg f l E H' Q):WpL P cfg f (⟨none,op,none⟩::l) E H Q:=
 zdT.plain h (zh0 hn) hk
theorem WpL.guard {d:Option Nat}{op:Op}{s:Nat}{b t:Bool}{l:List SOp}{E:Env}{H:Hp}{Q:Env→Hp→Prop} (h:E.at s=.bool t) (h1:t=b→WpL P cfg f (⟨d,op,none⟩::l) E H Q) (h2:t=!b→WpL P cfg f l (zA E d yp) H Q) :
 WpL P cfg f (⟨d,op,some (s,b)⟩::l) E H Q:=by
 unfold WpL
 by_cases e:t=b
 ·exact .inl ⟨by rw[h,e],h1 e⟩
 ·have:t=!b:=by cases t<;>cases b<;>simp_all
  exact .inr ⟨.inl (by rw[h,this]),h2 this⟩
theorem zh1 {d:Option Nat}{op:Op}{s:Nat}{b:Bool}{l:List SOp}{E:Env}{H:Hp}{Q:Env→Hp→Prop}{v:AV} (h:some (E.at s)=some v) (hv:v=yp) (h2:WpL P cfg f l (zA E d yp) H Q) :
 WpL P cfg f (⟨d,op,some (s,b)⟩::l) E H Q:=by
 subst hv
 unfold WpL
 exact .inr ⟨.inr (by simpa using h),h2⟩
theorem WpL.call {d:Option Nat}{c:Call}{g:Operand}{k:FuncId}{cap vs:List AV}{l:List SOp}{E:Env}{H:Hp}{Q:Env→Hp→Prop} (hc:c.callee=.value g) (hg:zn E g=some (.clo k cap)) (hv:yO E c.args.toList=some vs)
 (h:zr P cfg k (vs++cap) H fun v H'=>WpL P cfg f l (zA E d v) H' Q):WpL P cfg f (⟨d,.call c,none⟩::l) E H Q:=by
 obtain⟨v,H',⟨_,n,h1⟩,h2⟩:=h
 refine⟨n,v,H',?_,h2⟩
 simp only[yI,zgx,hc,hg,hv]
 exact h1
theorem WpL.builtin {d:Option Nat}{c:Call}{b:Builtin}{vs:List AV}{v:AV}{l:List SOp}{E:Env}{H H':Hp}{Q:Env→Hp→Prop} (hc:c.callee=.builtin b) (hv:yO E c.args.toList=some vs)
 (h:zaE P (cfg.keep f) H b c.argTypes.toList vs=some (v,H')) (hk:WpL P cfg f l (zA E d v) H' Q):WpL P cfg f (⟨d,.call c,none⟩::l) E H Q:=by
 refine⟨0,v,H',?_,hk⟩
 simp only[yI,zgx,hc,hv,h]
theorem zj0 {g:FuncId}{args:List AV}{r:AV}{H:Hp}{Q:AV→Hp→Prop} (h:cfg.call g args=some r) (hq:Q r H):zr P cfg g args H Q:=
 ⟨r,H,Ev.step (by simp) (n:=0) (by simp only[step,h]),hq⟩
theorem zgM {g:FuncId}{args asx:List AV}{r:AV}{H H':Hp}{Q:AV→Hp→Prop} (h0:cfg.call g args=none) (hi:cfg.ice g=true) (hz:cfg.froz g=false) (ha:zb2 (zc8 100) args H=some (asx,H')) (h:cfg.call g asx=some r) (hq:Q r H'):zr P cfg g args H Q:=
 ⟨r,H',Ev.step (by simp) (n:=0) (by simp only[step,h0,zaR,hi,hz,zfY,zdH,ha,h]),hq⟩
theorem zr.mono {g:FuncId}{args:List AV}{H:Hp}{Q Q':AV→Hp→Prop} (h:∀ v H',Q v H'→Q' v H') (hw:zr P cfg g args H Q):zr P cfg g args H Q':=by
 obtain⟨v,H',h1,h2⟩:=hw
 exact⟨v,H',h1,h _ _ h2⟩
theorem zr.body {g:FuncId}{args:List AV}{H:Hp}{fn:Func}{c:Code}{Q:AV→Hp→Prop} (hk:cfg.call g args=none) (hi:cfg.ice g=false) (hz:cfg.froz g=false) (hf:P.funcs[g]?=some fn) (hb:fn.body=some c)
 (h:Wp P cfg g (max fn.ntmps args.length) (slim (max fn.ntmps args.length) c) (zO 0 args (zhD (max fn.ntmps args.length))) H (fun x E' H'=>(x=.normal∨x=.ret)∧∃ vs,zQ P E' H' fn.results.toList=some vs∧Q (zp vs) H')):zr P cfg g args H Q:=by
 obtain⟨x,E',H',h1,hx,vs,h2,h3⟩:=h c rfl
 exact⟨zp vs,H',Ev.call hk hi hz hf hb h1 hx (by unfold retA;rw[h2]),h3⟩
theorem zj {g:FuncId}{args:List AV}{H:Hp}{fn:Func}{c:Code}{s:SC}{M:Nat}{rs:List ResultVar}{Q:AV→Hp→Prop} (hk:cfg.call g args=none) (hi:cfg.ice g=false) (hz:cfg.froz g=false) (hf:P.funcs[g]?=some fn) (hb:fn.body=some c) (hM:max fn.ntmps args.length=M)
 (hs:slim M c=s) (hr:fn.results.toList=rs) (h:Wp P cfg g M s (zO 0 args (zhD M)) H (fun x E' H'=>(x=.normal∨x=.ret)∧∃ vs,zQ P E' H' rs=some vs∧Q (zp vs) H')):zr P cfg g args H Q:=by
 subst hM hs hr
 exact zr.body hk hi hz hf hb h
theorem zjf (fit:Fit P) {ρ:Nat→Int} (hD:zcP cfg.dec ρ) (hc:∀ f args r,cfg.call f args=some r→Con P ρ f args r) {g:FuncId}{args:List AV}{r:AV}{k m:Nat}
 (hp:zbd k args=true) (h:zr P cfg g args H0 fun v H'=>iceV H' m v=some r):Con P ρ g args r:=by
 obtain⟨v,H',⟨_,n,h1⟩,h2⟩:=h
 exact zga fit hD hc (n:=n) (m:=m) hp (by unfold zkB;rw[h1];exact h2)
section
variable {l:List SOp} {E:Env} {H H':Hp} {Q:Env → Hp → Prop} {d:Nat} {v a b:AV} {x y:Operand} {t u:TypeId}
theorem WpL.move (h:zn E x=some v) (hk:WpL P cfg f l (T.set E d (some v)) H Q):WpL P cfg f (⟨some d,.move x,none⟩::l) E H Q:=WpL.op rfl (by simp only[opA,Go.Ab.ret,h]) hk
theorem WpL.assign (h:zn E x=some v) (hk:WpL P cfg f l (T.set E d (some v)) H Q):WpL P cfg f (⟨some d,.assign x,none⟩::l) E H Q:=WpL.op rfl (by simp only[opA,Go.Ab.ret,h]) hk
theorem WpL.pick {z:Operand}{t:Bool} (h:zn E x=some (.bool t)) (h1:zn E y=some a) (h2:zn E z=some b) (hk:WpL P cfg f l (T.set E d (some (zdD t a b))) H Q):WpL P cfg f (⟨some d,.pick x y z,none⟩::l) E H Q:=
 WpL.op rfl (by cases t<;>simp only[opA,zjN,Go.Ab.ret,h,h1,h2]<;>rfl) hk
theorem WpL.load (h:zn E x=some a) (h1:zaZ P H t a=some v) (hk:WpL P cfg f l (T.set E d (some v)) H Q):WpL P cfg f (⟨some d,.load t x,none⟩::l) E H Q:=WpL.op rfl (by simp only[opA,zhB,Go.Ab.ret,h,h1]) hk
theorem WpL.store (h:zn E x=some a) (h1:zn E y=some b) (h2:zbr P H t a b=some H') (hk:WpL P cfg f l E H' Q):WpL P cfg f (⟨none,.store t x y,none⟩::l) E H Q:=znB rfl (by simp only[opA,zhb,Go.Ab.ret,h,h1,h2];rfl) hk
theorem WpL.nilCheck {r o:Nat} (h:zn E x=some (.ptr r o)) (hk:WpL P cfg f l (T.set E d (some (.ptr r o))) H Q):WpL P cfg f (⟨some d,.nilCheck x,none⟩::l) E H Q:=WpL.op rfl (by simp only[opA,zc5,h]) hk
theorem WpL.bin {op:BinOp} (h:zn E x=some a) (h1:zn E y=some b) (h2:jJ P cfg.dec op t a b=some v) (hk:WpL P cfg f l (T.set E d (some v)) H Q):WpL P cfg f (⟨some d,.binOp op t x y u,none⟩::l) E H Q:=
 WpL.op rfl (by simp only[opA,znt,Go.Ab.ret,h,h1,h2]) hk
theorem WpL.un {op:UnOp} (h:zn E x=some a) (h2:unA op a=some v) (hk:WpL P cfg f l (T.set E d (some v)) H Q):WpL P cfg f (⟨some d,.unOp op t x,none⟩::l) E H Q:=WpL.op rfl (by simp only[opA,opUn,Go.Ab.ret,h,h2]) hk
theorem WpL.convert (h:zn E x=some a) (h2:jo P H t u a=some v) (hk:WpL P cfg f l (T.set E d (some v)) H Q):WpL P cfg f (⟨some d,.convert t u x,none⟩::l) E H Q:=WpL.op rfl (by simp only[opA,zcL,Go.Ab.ret,h,h2]) hk
theorem WpL.fieldAddr {i:Nat} (h:zn E x=some a) (h2:zg P t a i=some v) (hk:WpL P cfg f l (T.set E d (some v)) H Q):WpL P cfg f (⟨some d,.fieldAddr t x i,none⟩::l) E H Q:=WpL.op rfl (by simp only[opA,zco,Go.Ab.ret,h,h2]) hk
theorem WpL.field {i:Nat} (h:zn E x=some a) (h2:zN P t a i=some v) (hk:WpL P cfg f l (T.set E d (some v)) H Q):WpL P cfg f (⟨some d,.field t x i,none⟩::l) E H Q:=WpL.op rfl (by simp only[opA,zhc,Go.Ab.ret,h,h2]) hk
theorem WpL.indexAddr (h:zn E x=some a) (h1:zn E y=some b) (h2:zq P t a b=some v) (hk:WpL P cfg f l (T.set E d (some v)) H Q):WpL P cfg f (⟨some d,.indexAddr t x y,none⟩::l) E H Q:=WpL.op rfl (by simp only[opA,zcp,Go.Ab.ret,h,h1,h2]) hk
theorem WpL.index (h:zn E x=some a) (h1:zn E y=some b) (h2:zbX P t a b=some v) (hk:WpL P cfg f l (T.set E d (some v)) H Q):WpL P cfg f (⟨some d,.index t x y,none⟩::l) E H Q:=WpL.op rfl (by simp only[opA,zhd,Go.Ab.ret,h,h1,h2]) hk
theorem WpL.extract {i:Nat} (h:zn E x=some a) (h2:Ab.extract a i=some v) (hk:WpL P cfg f l (T.set E d (some v)) H Q):WpL P cfg f (⟨some d,.extract x i,none⟩::l) E H Q:=WpL.op rfl (by simp only[opA,zed,Go.Ab.ret,h,h2]) hk
theorem WpL.alloc {z:List AV}{n:Nat} (h:yl P t=some z) (hn:some H.next=some n) (hk:WpL P cfg f l (T.set E d (some (.ptr n 0))) (H.alloc (.cells z 0 true)) Q):WpL P cfg f (⟨some d,.alloc t,none⟩::l) E H Q:=by
 simp only[Option.some.injEq]at hn
 subst hn
 exact WpL.op rfl (by simp only[opA,zfg,h]) hk
theorem WpL.box {cs:List AV}{n:Nat} (h:zn E x=some a) (hc:some a.cells=some cs) (hn:some H.next=some n) (hk:WpL P cfg f l (T.set E d (some (.ptr n 0))) (H.alloc (.cells cs 0 true)) Q):WpL P cfg f (⟨some d,.box t x,none⟩::l) E H Q:=by
 simp only[Option.some.injEq]at hc hn
 subst hc hn
 exact WpL.op rfl (by simp only[opA,zky,h]) hk
theorem WpL.build {parts:Array (Nat×Operand)}{ps:List (Nat×AV)} (h:jS E parts.toList=some ps) (h2:yj P t ps=some v) (hk:WpL P cfg f l (T.set E d (some v)) H Q):WpL P cfg f (⟨some d,.build t parts,none⟩::l) E H Q:=WpL.op rfl (by simp only[opA,zha,Go.Ab.ret,h,h2]) hk
theorem WpL.buildSlice {n:Nat}{parts:Array (Nat×Operand)}{ps:List (Nat×AV)} (h:jS E parts.toList=some ps) (h2:zI P H t n ps=some (v,H')) (hk:WpL P cfg f l (T.set E d (some v)) H' Q):WpL P cfg f (⟨some d,.buildSlice t n parts,none⟩::l) E H Q:=
 WpL.op rfl (by simp only[opA,zbc,h,h2]) hk
theorem WpL.makeMap {n:Nat} (hn:some H.next=some n) (hk:WpL P cfg f l (T.set E d (some (.map n))) (H.alloc (.map [])) Q):WpL P cfg f (⟨some d,.makeMap t none,none⟩::l) E H Q:=by
 simp only[Option.some.injEq]at hn
 subst hn
 exact WpL.op rfl (by simp only[opA,zcM]) hk
theorem WpL.lookup {ok:Bool} (h:zn E x=some a) (h1:zn E y=some b) (h2:ji P H t a b ok=some v) (hk:WpL P cfg f l (T.set E d (some v)) H Q):WpL P cfg f (⟨some d,.lookup t x y ok,none⟩::l) E H Q:=WpL.op rfl (by simp only[opA,zdF,Go.Ab.ret,h,h1,h2]) hk
theorem WpL.mapUpdate {z:Operand}{c:AV} (h:zn E x=some a) (h1:zn E y=some b) (h2:zn E z=some c) (h3:yZ P H t a b c=some H') (hk:WpL P cfg f l E H' Q):WpL P cfg f (⟨none,.mapUpdate t x y z,none⟩::l) E H Q:=
 znB rfl (by simp only[opA,zcq,Go.Ab.ret,h,h1,h2,h3];rfl) hk
theorem WpL.makeFunc {g:FuncId}{cap:Array Operand}{vs:List AV} (h:yO E cap.toList=some vs) (hk:WpL P cfg f l (T.set E d (some (.clo g vs))) H Q):WpL P cfg f (⟨some d,.makeFunc (.func g) #[] cap,none⟩::l) E H Q:=WpL.op rfl (by simp only[opA,zc6,h]) hk
theorem WpL.slice {lo hi:Option Operand}{lv hv:Option AV} (h:zn E x=some a) (h1:jK E lo=some lv) (h2:jK E hi=some hv) (h3:zaP P H t a lv hv=some v) (hk:WpL P cfg f l (T.set E d (some v)) H Q):WpL P cfg f (⟨some d,.slice t x lo hi none,none⟩::l) E H Q:=
 WpL.op rfl (by simp only[opA,zfh,Go.Ab.ret,h,h1,h2,h3]) hk
theorem WpL.makeSlice (h:zn E x=some a) (h1:zn E y=some b) (h2:jB P H t a b=some (v,H')) (hk:WpL P cfg f l (T.set E d (some v)) H' Q):WpL P cfg f (⟨some d,.makeSlice t x y,none⟩::l) E H Q:=WpL.op rfl (by simp only[opA,zbF,h,h1,h2]) hk
theorem WpL.len {c:AV} (h:zn E x=some a) (h1:ye P H t a=some c) (hk:WpL P cfg f l (T.set E d (some c)) H Q):WpL P cfg f (⟨some d,.call ⟨.builtin .len,#[x],#[t]⟩,none⟩::l) E H Q:=
 WpL.builtin (c:=⟨.builtin .len,#[x],#[t]⟩) rfl (vs:=[a]) (by simp only[yO,h]) (by simp only[zaE,h1]) hk
theorem WpL.append (h:zn E x=some a) (h1:zn E y=some b) (h2:zX P (cfg.keep f) H t u a b=some (v,H')) (hk:WpL P cfg f l (T.set E d (some v)) H' Q):WpL P cfg f (⟨some d,.call ⟨.builtin .append,#[x,y],#[t,u]⟩,none⟩::l) E H Q:=
 WpL.builtin (c:=⟨.builtin .append,#[x,y],#[t,u]⟩) rfl (vs:=[a,b]) (by simp only[yO,h,h1]) (by simp only[zaE,h2]) hk
end
theorem at_set (E:Env) (d t:Nat) (v:AV):Env.at (T.set E d (some v)) t=bif t == d then v else E.at t:=by
 rw[zbs]
 by_cases h:t=d
 ·simp[h]
 ·have:(t == d)=false:=by simpa using h
  rw[if_neg h,this,cond_false]
theorem get_set (H:Hp) (d t:Nat) (b:HB):(H.set d b).get t=bif t == d then some b else H.get t:=by
 rw[Hp.get_set]
 by_cases h:t=d
 ·simp[h]
 ·have:(t == d)=false:=by simpa using h
  rw[if_neg h,this,cond_false]
theorem zsj (E:Env) (t:Nat):zn E (.tmp t)=some (E.at t):=rfl
theorem zsk (E:Env) (k:IntKind) (n:Int):zn E (.const (.int k n))=some (.int k n):=rfl
theorem zsl (E:Env) (b:Bool):zn E (.const (.bool b))=some (.bool b):=rfl
theorem zsm (E:Env) (g:FuncId):zn E (.func g)=some (.clo g []):=rfl
theorem zsn (E:Env) (s:ByteArray):zn E (.const (.string s))=some (.str s.data.toList):=rfl
section
variable {D:BinOp → Sx → Sx → Option Bool} {t:TypeId} {k:IntKind} {a b:Int} {s u:List UInt8}
theorem zso:jJ P D .add t (.int k a) (.int k b)=some (.int k (k.wrap (a+b))):=by simp[jJ,zbE,yV]
theorem zsp:jJ P D .sub t (.int k a) (.int k b)=some (.int k (k.wrap (a - b))):=by simp[jJ,zbE,yV]
theorem zsq:jJ P D .mul t (.int k a) (.int k b)=some (.int k (k.wrap (a * b))):=by simp[jJ,zbE,yV]
theorem zhg (h:b≠0):jJ P D .quo t (.int k a) (.int k b)=some (.int k (k.wrap (a.tdiv b))):=by simp[jJ,zbE,yV,h]
theorem zhh (h:b≠0):jJ P D .rem t (.int k a) (.int k b)=some (.int k (a.tmod b)):=by simp[jJ,zbE,yV,h]
theorem zsr:jJ P D .and t (.int k a) (.int k b)=some (.int k (k.wrap (BitVec.ofInt k.bits a &&& BitVec.ofInt k.bits b).toNat)):=by simp[jJ,zbE,yV]
theorem bin_or:jJ P D .or t (.int k a) (.int k b)=some (.int k (k.wrap (BitVec.ofInt k.bits a ||| BitVec.ofInt k.bits b).toNat)):=by simp[jJ,zbE,yV]
theorem zss:jJ P D .xor t (.int k a) (.int k b)=some (.int k (k.wrap (BitVec.ofInt k.bits a ^^^ BitVec.ofInt k.bits b).toNat)):=by simp[jJ,zbE,yV]
theorem znC:jJ P D .eql t (.int k a) (.int k b)=some (.bool (decide (a=b))):=by simp[jJ,zbE,yV];rfl
theorem zst:jJ P D .neq t (.int k a) (.int k b)=some (.bool (!decide (a=b))):=by simp[jJ,zbE,yV];rfl
theorem zsu:jJ P D .lss t (.int k a) (.int k b)=some (.bool (decide (a < b))):=by simp[jJ,zbE,yV]
theorem zsv:jJ P D .leq t (.int k a) (.int k b)=some (.bool (decide (a≤b))):=by simp[jJ,zbE,yV]
theorem zsw:jJ P D .gtr t (.int k a) (.int k b)=some (.bool (decide (b < a))):=by simp[jJ,zbE,yV]
theorem zsx:jJ P D .geq t (.int k a) (.int k b)=some (.bool (decide (b≤a))):=by simp[jJ,zbE,yV]
theorem zsy:jJ P D .eql t (.str s) (.str u)=some (.bool (decide (s=u))):=by
 simp only[jJ,zhA]
 by_cases h:s=u<;>simp[h]
theorem zsz:jJ P D .neq t (.str s) (.str u)=some (.bool (!decide (s=u))):=by
 simp only[jJ,zhA]
 by_cases h:s=u<;>simp[h]
theorem un_not {x:Bool}:unA .not (.bool x)=some (.bool !x):=rfl
theorem un_neg:unA .neg (.int k a)=some (.int k (k.wrap (0 - a))):=rfl
end
theorem z9 {i:Nat} (h:i < 2 ^ 62):IntKind.wrap .i64 ((i:Int)+1)=((i+1:Nat):Int):=by
 rw[IntWalk.i64_in _ (by omega)];rfl
theorem jk {H:Hp}{t e:TypeId} (h:P.underlying t=some (.slice e)) (xs:List (List AV)):ye P H t (.lst xs)=some (.int .i64 xs.length):=by unfold ye;rw[h]
theorem jq {H:Hp}{t e:TypeId} (h:P.underlying t=some (.slice e)) (r o n z:Nat):ye P H t (.sl r o n z)=some (.int .i64 n):=by unfold ye;rw[h]
theorem ja {H:Hp}{t e:TypeId} (h:P.underlying t=some (.slice e)):ye P H t .nilS=some (.int .i64 0):=by unfold ye;rw[h]
theorem zoL {H:Hp}{t:TypeId} (h:P.underlying t=some .string) (s:List UInt8):ye P H t (.str s)=some (.int .i64 s.length):=by unfold ye;rw[h]
theorem zdU {t e:TypeId}{s:Nat} (h:P.underlying t=some (.slice e)) (hs:zG P e=some s) {r o n z i:Nat} (hi:i < n):zq P t (.sl r o n z) (.int .i64 (i:Int))=some (.ptr r (o+i * s)):=by
 show zq P t (.sl r o n z) (.int .i64 (Int.ofNat i))=_
 simp only[zq,h,hs,hi,if_true]
def zfz:TypeDesc→Bool
 | .struct _|.array _ _=>false
 | _=>true
theorem yu {t:TypeId}{d:TypeDesc} (h:P.underlying t=some d) (hd:zfz d=true) (cs:List AV) (o:Nat):zy P t cs o=cs[o]?:=by
 unfold zy
 rw[h]
 cases d<;>simp_all[zfz]
theorem zh2 {H:Hp}{t:TypeId}{d:TypeDesc} (h:P.underlying t=some d) (hd:zfz d=true) {r o:Nat}{cs:List AV}{imm:Nat}{tip:Bool} (hg:H.get r=some (.cells cs imm tip)):zaZ P H t (.ptr r o)=cs[o]?:=by
 simp only[zaZ,hg,yu h hd]
def zeu (z:Nat):Option (List AV)→Option AV
 | some row=>if row.length=z then some (.iptr row)else none
 | none=>none
theorem zoM (z:Nat) (row:List AV):zeu z (some row)=if row.length=z then some (.iptr row)else none:=rfl
def znD:Option UInt8→Option AV
 | some b=>some (.int .u8 b.toNat)
 | none=>none
theorem zmw (b:UInt8):znD (some b)=some (.int .u8 b.toNat):=rfl
def yL (s:Nat) (cs:List AV):Option AV:=if (cs.take s).length=s then some (.agg (cs.take s))else none
theorem jD {t:TypeId}{d:TypeDesc}{s:Nat} (h:P.underlying t=some d) (hd:zfz d=false) (hs:zG P t=some s) (cs:List AV) (o:Nat):zy P t cs o=yL s (cs.drop o):=by
 unfold zy yL
 rw[h]
 cases d<;>simp_all[zfz]
theorem jc {t e:TypeId}{s:Nat} (h:P.underlying t=some (.slice e)) (hs:zG P e=some s) (xs:List (List AV)) {n:Int} (hn:0≤n) (k:IntKind):zq P t (.lst xs) (.int k n)=zeu s (xs[n.toNat]?):=by
 obtain⟨m,rfl⟩:=Int.eq_ofNat_of_zero_le hn
 show zq P t (.lst xs) (.int k (Int.ofNat m))=zeu s (xs[m]?)
 simp only[zq,h,hs]
 cases xs[m]? <;>rfl
theorem jz {t e:TypeId}{s:Nat} (h:P.underlying t=some (.slice e)) (hs:zG P e=some s) (r o l z:Nat) {n:Int} (hn:0≤n) (k:IntKind):zq P t (.sl r o l z) (.int k n)=bif decide (n.toNat < l)then some (.ptr r (o+n.toNat * s))else none:=by
 obtain⟨m,rfl⟩:=Int.eq_ofNat_of_zero_le hn
 show zq P t (.sl r o l z) (.int k (Int.ofNat m))=bif decide (m < l)then some (.ptr r (o+m * s))else none
 simp only[zq,h,hs]
 by_cases hm:m < l<;>simp[hm]
theorem zoN {t:TypeId} (h:P.underlying t=some .string) (s:List UInt8) {n:Int} (hn:0≤n) (k:IntKind):zbX P t (.str s) (.int k n)=znD (s[n.toNat]?):=by
 obtain⟨m,rfl⟩:=Int.eq_ofNat_of_zero_le hn
 show zbX P t (.str s) (.int k (Int.ofNat m))=znD (s[m]?)
 simp only[zbX,h]
 cases s[m]? <;>rfl
def loadC (P:Program) (t:TypeId) (o:Nat):Option HB→Option AV
 | some (.cells cs _ _)=>zy P t cs o
 | _=>none
theorem zk6 (t:TypeId) (o:Nat) (cs:List AV) (imm:Nat) (tip:Bool):loadC P t o (some (.cells cs imm tip))=zy P t cs o:=rfl
theorem zsA (H:Hp) (t:TypeId) (r o:Nat):zaZ P H t (.ptr r o)=loadC P t o (H.get r):=rfl
theorem zsB (H:Hp) (t:TypeId) (cs:List AV):zaZ P H t (.iptr cs)=zy P t cs 0:=rfl
theorem get_alloc (H:Hp) (b:HB) (t:Nat):(H.alloc b).get t=bif t == H.next then some b else H.get t:=by
 rw[za]
 by_cases h:t=H.next
 ·simp[h]
 ·have:(t == H.next)=false:=by simpa using h
  rw[if_neg h,this,cond_false]
noncomputable def zpP (H:Hp) (r o:Nat) (vc:List AV):Option Nat→Option HB→Option Hp
 | some s,some (.cells cs imm tip)=>if vc.length=s∧imm≤o∧o+s≤cs.length∧vc.all AV.one=true then some (H.set r (.cells (splice cs o vc) imm tip))else none
 | _,_=>none
theorem zdj (H:Hp) (r o:Nat) (vc:List AV) (s:Nat) (cs:List AV) (imm:Nat) (tip:Bool):zpP H r o vc (some s) (some (.cells cs imm tip))=if vc.length=s∧imm≤o∧o+s≤cs.length∧vc.all AV.one=true then some (H.set r (.cells (splice cs o vc) imm tip))else none:=rfl
theorem zh3 (H:Hp) (t:TypeId) (r o:Nat) (v:AV):zbr P H t (.ptr r o) v=zpP H r o v.cells (zG P t) (H.get r):=by
 unfold zbr
 simp only[]
 cases h1:H.get r with
 | none=>cases zG P t<;>rfl
 | some b=>cases b with
   | map es=>cases zG P t<;>rfl
   | cells cs imm tip=>cases zG P t with
     | none=>rfl
     | some s=>rfl
theorem zjg (cs:List AV) (o:Nat) (new:List AV):splice cs o new=cs.take o++new++cs.drop (o+new.length):=rfl
theorem zoO (cs:List AV):AV.cells (.agg cs)=cs:=rfl
theorem cells_int (k:IntKind) (n:Int):AV.cells (.int k n)=[.int k n]:=rfl
theorem zh4 (b:Bool):AV.cells (.bool b)=[.bool b]:=rfl
theorem zoP (b:List UInt8):AV.cells (.str b)=[.str b]:=rfl
theorem zoQ (b:List (List AV)):AV.cells (.lst b)=[.lst b]:=rfl
theorem zpQ (r o l z:Nat):AV.cells (.sl r o l z)=[.sl r o l z]:=rfl
theorem zmx:AV.cells .nilS=[.nilS]:=rfl
theorem zoR (r o:Nat):AV.cells (.ptr r o)=[.ptr r o]:=rfl
theorem zoS (r:Nat):AV.cells (.map r)=[.map r]:=rfl
theorem zoT (g:Nat) (cap:List AV):AV.cells (.clo g cap)=[.clo g cap]:=rfl
theorem zsC (k:IntKind) (n:Int):AV.one (.int k n)=true:=rfl
theorem zpR (b:Bool):AV.one (.bool b)=true:=rfl
theorem zsD (b:List UInt8):AV.one (.str b)=true:=rfl
theorem zsE (b:List (List AV)):AV.one (.lst b)=true:=rfl
theorem one_sl (r o l z:Nat):AV.one (.sl r o l z)=true:=rfl
theorem zpS:AV.one .nilS=true:=rfl
theorem zsF (r o:Nat):AV.one (.ptr r o)=true:=rfl
theorem zsG (r:Nat):AV.one (.map r)=true:=rfl
theorem zsH (g:Nat) (cap:List AV):AV.one (.clo g cap)=true:=rfl
theorem zH:H0.next=0:=rfl
theorem zmy (H:Hp) (t:TypeId) (s:List UInt8) (lo hi:Option AV):zaP P H t (.str s) lo hi=zaj P t (.str s) lo hi:=rfl
theorem zmz (H:Hp) (t:TypeId) (s:List (List AV)) (lo hi:Option AV):zaP P H t (.lst s) lo hi=zaj P t (.lst s) lo hi:=rfl
theorem zoU (H:Hp) (t:TypeId) (r o n z:Nat) (lo hi:Option AV):zaP P H t (.sl r o n z) lo hi=zaj P t (.sl r o n z) lo hi:=rfl
theorem zmA (H:Hp) (t:TypeId) (lo hi:Option AV):zaP P H t .nilS lo hi=zaj P t .nilS lo hi:=rfl
theorem nb1 (n k:Nat):(n == n+(k+1))=false:=by simp
theorem nb2 (n k:Nat):(n+(k+1) == n)=false:=by simp
theorem nb3 (n a b:Nat):(n+a == n+b)=(a == b):=by
 by_cases h:a=b
 ·simp[h]
 ·have h1:(a == b)=false:=by simpa using h
  rw[h1];simp;omega
end
attribute [irreducible] WpL Wp zr zdT
theorem Sx.beq_refl:∀ a:Sx,Sx.beq a a=true
 | .var i=>by simp[Sx.beq]
 | .lit n=>by simp[Sx.beq]
 | .bin o k a b=>by simp[Sx.beq,Sx.beq_refl a,Sx.beq_refl b]
 | .conv k a=>by simp[Sx.beq,Sx.beq_refl a]
mutual
theorem AV.beq_refl:∀ a:AV,AV.beq a a=true
 | .int k n=>by simp[AV.beq]
 | .sx k e=>by simp[AV.beq,Sx.beq_refl]
 | .bool b=>by simp[AV.beq]
 | .str s=>by simp[AV.beq]
 | .nilP=>rfl
 | .nilM=>rfl
 | .nilF=>rfl
 | .nilS=>rfl
 | .ptr r o=>by simp[AV.beq]
 | .iptr cs=>by simp only[AV.beq];exact ju cs
 | .sl r o l z=>by simp[AV.beq]
 | .lst xs=>by simp only[AV.beq];exact zeI xs
 | .map r=>by simp[AV.beq]
 | .clo f cs=>by simp only[AV.beq,ju cs,Bool.and_true];simp
 | .agg cs=>by simp only[AV.beq];exact ju cs
 | .tup cs=>by simp only[AV.beq];exact ju cs
theorem ju:∀ a:List AV,jW a a=true
 | []=>rfl
 | a::l=>by simp only[jW,AV.beq_refl a,ju l,Bool.and_true]
theorem zeI:∀ a:List (List AV),zb0 a a=true
 | []=>rfl
 | a::l=>by simp only[zb0,ju a,zeI l,Bool.and_true]
end
def zdk (o:Oper):Bool:=zdf o.op||zcF o.op
def zj1 (o:Oper):Bool:=zdk o||(match o.op with|.store ..|.mapUpdate ..=>true | _=>false)
def zj2 (ops:List Oper):Bool:=
 zeD ops&&(List.range ops.length).all (fun i=>match ops[i]? with|some o=>if Nat.blt (i+1) ops.length then zdk o else zj1 o|none=>true)&&(zdB ops).all (fun p=>Nat.blt p.2 ops.length)
section
variable {P:Program} {cfg:Cfg} {f N:Nat}
theorem zcb {ih:Task→Res}{all:List Oper}:∀ {l:List Oper}{E E':Env}{H H':Hp},j9 P cfg ih f N all l E H=.done .normal E' H'→∃ rs,zcN P cfg ih f N all l E H=.done E' H' rs
 | [],E,E',H,H',h=>by
   simp only[j9,Res.done.injEq,true_and]at h
   obtain⟨rfl,rfl⟩:=h
   exact⟨[],rfl⟩
 | o::l,E,E',H,H',h=>by
   rw[zbH]at h
   simp only[zcN]
   cases hw:jj all E o with
   | true=>
     rw[hw]at h
     simp only[]at h ⊢
     cases hop:yI P cfg ih f E H o.op with
     | val v H1=>
       rw[hop]at h
       simp only[]at h ⊢
       cases hp:zaB N E o.dst v with
       | none=>rw[hp]at h;simp[yW]at h
       | some E1=>
         rw[hp]at h
         simp only[yW]at h
         obtain⟨rs,hr⟩:=zcb h
         exact⟨_,by simp only[jO,hr,zdA];rfl⟩
     | done _ _ _=>rw[hop]at h;simp at h
     | fail=>rw[hop]at h;simp at h
   | false=>
     rw[hw]at h
     simp only[]at h ⊢
     cases hp:zaB N E o.dst yp with
     | none=>rw[hp]at h;simp[yW]at h
     | some E1=>
       rw[hp]at h
       simp only[yW]at h
       obtain⟨rs,hr⟩:=zcb h
       exact⟨_,by simp only[jO,hr,zdA];rfl⟩
theorem ze2 {ih:Task→Res}{E:Env}{o:Oper}{v:AV}{H H':Hp} (hk:zdk o=true) (h:yI P cfg ih f E H o.op=.val v H'):H'=H:=by
 unfold zdk at hk
 rw[Bool.or_eq_true]at hk;rcases hk with hk|hk
 ·have hn:∀ c,o.op≠.call c:=fun c e=>by
   rw[e]at hk
   simp only[zdf,y9]at hk
   split at hk
   ·rename_i h1;split at h1<;>simp at h1
   ·simp at hk
  exact(zhR hk ((zbu hn).1 h)).1
 ·exact zf3 hk h
theorem zoV {ih:Task→Res}{E:Env}{o:Oper}{v:AV}{H H':Hp} (hk:zj1 o=true) (h:yI P cfg ih f E H o.op=.val v H'):H.next≤H'.next:=by
 unfold zj1 at hk
 rw[Bool.or_eq_true]at hk;rcases hk with hk|hk
 ·rw[ze2 hk h];exact Nat.le_refl _
 ·obtain⟨dst,op,ty,pos,after,guard⟩:=o
  simp only[]at hk h
  cases op<;>simp only[Bool.false_eq_true]at hk
  case store t a x=>
   simp only[yI,opA,zhb]at h
   split at h
   ·split at h
    ·rename_i hs
     simp only[jZ,Res.val.injEq]at h
     obtain⟨rfl,rfl⟩:=h
     unfold zbr at hs
     split at hs
     ·split at hs
      ·split at hs
       ·simp only[Option.some.injEq]at hs;rw[← hs];exact Nat.le_refl _
       ·simp at hs
      ·simp at hs
     ·simp at hs
    ·simp[jZ]at h
   ·simp[jZ]at h
  case mapUpdate t m k x=>
   simp only[yI,opA,zcq]at h
   split at h
   ·split at h
    ·rename_i hs
     simp only[jZ,Res.val.injEq]at h
     obtain⟨rfl,rfl⟩:=h
     unfold yZ at hs
     split at hs
     ·split at hs
      ·split at hs
       ·split at hs
        ·simp only[Option.some.injEq]at hs;rw[← hs];exact Nat.le_refl _
        ·simp only[Option.some.injEq]at hs;rw[← hs];exact Nat.le_refl _
        ·simp at hs
       ·simp at hs
      ·simp at hs
     ·simp at hs
    ·simp[jZ]at h
   ·simp[jZ]at h
theorem zpT {ih ih':Task→Res}{f':FuncId}{E:Env}{op:Op}{H:Hp} (hk:zcF op=true):yI P cfg ih f E H op=yI P cfg ih' f' E H op:=by
 cases op<;>simp only[zcF,y9,Bool.false_eq_true]at hk<;>try rfl
 rename_i c
 simp only[yI,zgx]
 cases hc:c.callee with
 | value g=>rw[hc]at hk;simp at hk
 | invoke g m=>rfl
 | builtin b=>
   rw[hc]at hk
   simp only[]
   cases b<;>simp only[Bool.false_eq_true]at hk<;>rfl
theorem zmB {ih:Task→Res}{ops:List Oper}{E E':Env}{H H':Hp} (hp:zj2 ops=true) (h:j9 P cfg ih f N ops ops E H=.done .normal E' H'):zan P cfg ih f N ops E H=.done .normal E' H':=by
 unfold zj2 at hp
 simp only[Bool.and_eq_true,List.all_eq_true,List.mem_range]at hp
 obtain⟨⟨hcalm,hst⟩,hneed⟩:=hp
 obtain⟨rs,hr⟩:=zcb h
 have hch:=zb5 hr
 have hlen:=zf2 hch
 obtain⟨_,z2⟩:=zeW hch
 have hstill:∀ (i:Nat) o,ops[i]?=some o→i+1 < ops.length→zdk o=true:=fun i o ho hi=>by
  have:=hst i (by omega)
  rw[ho]at this
  simp only[show Nat.blt (i+1) ops.length=true by simpa [Nat.blt_eq]using hi,if_true]at this
  exact this
 have hheap:∀ i,i+1≤ops.length→zL rs H' i=H:=fun i=>by
  induction i with
  | zero=>intro _;exact z2
  | succ i ih=>
    intro hi
    have hri:=List.getElem?_eq_getElem (show i < rs.length by omega)
    obtain⟨o,ho,ha⟩:=zb6 hch hri
    have h1:=ih (by omega)
    have h2:zL rs H' (i+1)=zL rs H' i:=by
     cases hd:(rs[i]'(by omega)).did with
     | true=>exact ze2 (hstill i o ho (by omega)) (ha.yes hd)
     | false=>exact(ha.no hd).2
    rw[h2,h1]
 unfold zan
 rw[hcalm]
 simp only[hr]
 have hlook:zeR P cfg (zdB ops) rs H'=true:=by
  unfold zeR
  simp only[Bool.and_eq_true,List.all_eq_true]
  refine⟨fun r hm=>?_,fun p hpm=>?_⟩
  ·obtain⟨i,hi⟩:=List.mem_iff_getElem?.1 hm
   obtain⟨o,ho,ha⟩:=zb6 hch hi
   have hil:i < ops.length:=(List.getElem?_eq_some_iff.1 ho).1
   rw[ha.eH,ha.eH']
   refine Nat.ble_eq_true_of_le ?_
   cases hd:r.did with
   | false=>rw[(ha.no hd).2];exact Nat.le_refl _
   | true=>
     by_cases hl:i+1 < ops.length
     ·rw[ze2 (hstill i o ho hl) (ha.yes hd)];exact Nat.le_refl _
     ·have:=hst i hil
      rw[ho]at this
      have hb:Nat.blt (i+1) ops.length=false:=by
       cases hx:Nat.blt (i+1) ops.length with
       | false=>rfl
       | true=>exact(hl (by simpa [Nat.blt_eq]using hx)).elim
      simp only[hb,Bool.false_eq_true,if_false]at this
      exact zoV this (ha.yes hd)
  ·have hm:p.2 < ops.length:=by simpa [Nat.blt_eq]using hneed p hpm
   cases hrp:rs[p.1]? with
   | none=>rfl
   | some r=>
     obtain⟨o,ho,ha⟩:=zb6 hch hrp
     have hil:p.1 < ops.length:=(List.getElem?_eq_some_iff.1 ho).1
     simp only[]
     cases hd:r.did with
     | false=>rfl
     | true=>
       simp only[Bool.not_true,Bool.false_or]
       have hH:r.H=zL rs H' p.2:=by rw[ha.eH,hheap _ (by omega),hheap _ (by omega)]
       unfold zc7
       cases hk:y9 r.o.op with
       | calm=>rfl
       | act=>rfl
       | read=>
         simp only[]
         have hop:=ha.yes hd
         rw[← ha.eE,← ha.eo,← ha.eH,hH]at hop
         rw[zpT (P:=P) (cfg:=cfg) (f:=f) (ih:=ih) (ih':=fun _=>.fail) (f':=0) (by simp[zcF,hk])]at hop
         rw[hop]
         simp only[AV.beq_refl]
       | make=>
         exfalso
         rw[ha.eo]at hk
         by_cases hl:p.1+1 < ops.length
         ·have:=hstill _ o ho hl
          unfold zdk zdf zcF at this
          rw[hk]at this
          simp at this
         ·have h3:=hst p.1 hil
          rw[ho]at h3
          have hb:Nat.blt (p.1+1) ops.length=false:=by
           cases hx:Nat.blt (p.1+1) ops.length with
           | false=>rfl
           | true=>exact(hl (by simpa [Nat.blt_eq]using hx)).elim
          simp only[hb,Bool.false_eq_true,if_false,zj1,zdk,zdf,zcF,hk,Bool.or_self,Bool.false_or]at h3
          split at h3
          ·rename_i hop;rw[hop]at hk;simp[y9]at hk
          ·rename_i hop;rw[hop]at hk;simp[y9]at hk
          ·simp at h3
 rw[hlook]
theorem Wp.draw {id:Nat}{ops:List Oper}{l:List SOp}{E:Env}{H:Hp}{Q:AX→Env→Hp→Prop} (hpl:cfg.plan f id=.text) (hp:zj2 ops=true) (hs:zS N ops ops=some l)
 (h:∀ K:Env→Hp→Prop,(∀ E' H',Q .normal E' H'→K E' H')→WpL P cfg f l E H K):Wp P cfg f N (.draw id ops) E H Q:=by
 unfold Wp
 intro code hc
 cases code with
 | region id' ops' draw=>
   cases draw with
   | false=>simp only[slim,zZ]at hc;split at hc<;>simp at hc
   | true=>
     simp only[slim,SC.draw.injEq]at hc
     obtain⟨rfl,rfl⟩:=hc
     obtain⟨n,E',H',h1,h2⟩:=WpL.run hs (h (Q .normal) fun _ _ h=>h)
     refine⟨_,_,_,Ev.draw (n:=n) (r:=.done .normal E' H') ?_ (by simp),h2⟩
     rw[hpl]
     simp only[jt]
     exact zmB hp h1
 | _=>simp[slim]at hc
end
section
variable {P:Program} {H:Hp} {t u e:TypeId} {keep:Bool}
theorem zsI {D:BinOp→Sx→Sx→Option Bool}{t:TypeId}{s u:List UInt8}:jJ P D .leq t (.str s) (.str u)=some (.bool (zcn s u||s == u)):=rfl
theorem zdV {r o n z s:Nat}{cs:List AV}{imm:Nat}{tip:Bool} (hg:H.get r=some (.cells cs imm tip)) (hl:((cs.drop o).take (n * s)).length=n * s):yk H s (.sl r o n z)=some (n,(cs.drop o).take (n * s)):=by
 unfold yk
 simp only[hg,hl,if_true]
theorem zh5 {k:IntKind}{s:List UInt8}{m:Nat} (ht:P.underlying t=some .string) (hm:m≤s.length):zaj P t (.str s) none (some (.int k (m:Int)))=some (.str (s.take m)):=by
 show zaj P t (.str s) none (some (.int k (Int.ofNat m)))=_
 simp[zaj,ht,jl,hm]
theorem zk7 {k:IntKind}{s:List UInt8}{m:Nat} (ht:P.underlying t=some .string) (hm:m≤s.length):zaj P t (.str s) (some (.int k (m:Int))) none=some (.str (s.drop m)):=by
 show zaj P t (.str s) (some (.int k (Int.ofNat m))) none=_
 simp only[zaj,ht,jl]
 rw[if_pos ⟨hm,Nat.le_refl _⟩]
 rw[List.take_of_length_le (by simp)]
theorem append_nil {s b n:Nat}{z new:List AV}{x:AV} (ht:P.underlying t=some (.slice e)) (hs:zG P e=some s) (hb:z8 P e=some b) (hz:yl P e=some z) (hu:jh P u=true)
 (hx:yk H s x=some (n+1,new)) (hone:new.all AV.one=true) (hzl:z.length=s) (h1:(n+1) * b≤zW) (h2:n+1≤zW) :
 zX P keep H t u .nilS x=some (.sl H.next 0 (n+1) s,H.alloc (.cells new 0 true)):=by
 simp only[zX,ht,hs,hb,hz,hu,hx,hone,hzl,and_self,if_true,zae,yY,h1,h2]
theorem zoW {s b n r len:Nat}{z new cs:List AV}{x:AV} (ht:P.underlying t=some (.slice e)) (hs:zG P e=some s) (hb:z8 P e=some b) (hz:yl P e=some z) (hu:jh P u=true)
 (hx:yk H s x=some (n+1,new)) (hone:new.all AV.one=true) (hzl:z.length=s) (hg:H.get r=some (.cells cs 0 true)) (hl:cs.length=len * s) (h1:(len+(n+1)) * b≤zW) (h2:len+(n+1)≤zW) :
 zX P false H t u (.sl r 0 len s) x=some (.sl H.next 0 (len+(n+1)) s,(H.kill r).alloc (.cells (cs++new) 0 true)):=by
 have htr:zae false H s (.sl r 0 len s)=H:=by
  unfold zae
  simp only[hg,Nat.zero_add]
  have:Nat.blt (len * s) cs.length=false:=by
   cases hb:Nat.blt (len * s) cs.length with
   | false=>rfl
   | true=>rw[Nat.blt_eq]at hb;omega
  simp[this]
 simp only[zX,ht,hs,hb,hz,hu,hx,hone,hzl,and_self,if_true,htr,yY,hg,h1,h2,Nat.zero_add,hl,Nat.zero_le,Nat.sub_self,List.drop_zero,Bool.false_eq_true,if_false]
end
theorem zpU (E:Env):zn E (.const (.slice none 0 0))=some .nilS:=rfl
theorem zk8 (E:Env):zn E (.const (.map none))=some .nilM:=rfl
structure Rc where
 op:Op
 did:Bool
 E:Env
 H:Hp
 val:AV
 H':Hp
section
variable (P:Program) (cfg:Cfg) (f:FuncId)
def WpT:List SOp→List Rc→Env→Hp→(List Rc→Env→Hp→Prop)→Prop
 | [],tr,E,H,Q=>Q tr E H
 | o::l,tr,E,H,Q=>match o.g with
   | none=>zdT P cfg f o.op E H fun v H'=>WpT l (tr++[⟨o.op,true,E,H,v,H'⟩]) (zA E o.d v) H' Q
   | some (s,b)=>(E.at s=.bool b∧zdT P cfg f o.op E H fun v H'=>WpT l (tr++[⟨o.op,true,E,H,v,H'⟩]) (zA E o.d v) H' Q)∨((E.at s=.bool (!b)∨E.at s=yp)∧WpT l (tr++[⟨o.op,false,E,H,yp,H⟩]) (zA E o.d yp) H Q)
def zk9 (tr:List Rc) (H':Hp) (m:Nat):Hp:=match tr[m]? with
 | some r=>r.H
 | none=>H'
def zeJ (r:Rc) (H:Hp):Prop:=match y9 r.op with
 | .read=>∃ H2,yI P cfg (fun _=>.fail) 0 r.E H r.op=.val r.val H2
 | .make=>∃ b,H.get r.H.next=some b∧r.H'.get r.H.next=some b
 | _=>True
def znE (tr:List Rc) (H':Hp) (i m:Nat):Prop:=match tr[i]? with
 | some r=>r.did=true→zeJ P cfg r (zk9 tr H' m)
 | none=>True
def zdl (need:List (Nat×Nat)) (tr:List Rc) (H':Hp):Prop:=(∀ r∈tr,r.H.next≤r.H'.next)∧∀ p∈need,znE P cfg tr H' p.1 p.2
end
section
variable {P:Program} {cfg:Cfg} {f N:Nat}
def zmC (r:Rec):Rc:=⟨r.o.op,r.did,r.E,r.H,r.val,r.H'⟩
theorem HB.beq_refl (b:HB):HB.beq b b=true:=by
 cases b with
 | cells a i t=>simp[HB.beq,ju]
 | map es=>simp[HB.beq,ju]
theorem WpT.run {all:List Oper}{Q:List Rc→Env→Hp→Prop}:∀ {l:List Oper}{r:List SOp}{tr:List Rc}{E:Env}{H:Hp},zS N all l=some r→WpT P cfg f r tr E H Q →
 ∃ n E' H' rs,zcN P cfg (ev P cfg n) f N all l E H=.done E' H' rs∧Q (tr++rs.map zmC) E' H'
 | [],r,tr,E,H,hs,hq=>by
   simp only[zS,Option.some.injEq]at hs
   subst hs
   unfold WpT at hq;exact⟨0,E,H,[],rfl,by simpa using hq⟩
 | o::l,r,tr,E,H,hs,hq=>by
   simp only[zS]at hs
   split at hs
   ·rename_i d g r' h1 h2 h3
    simp only[Option.some.injEq]at hs
    subst hs
    obtain⟨w1,w2⟩:=zgL (E:=E) h2
    have hle:∀ k k',k≤k'→Le (ev P cfg k) (ev P cfg k'):=fun k k' hk t ht=>zjX hk ht
    have hop:zdT P cfg f o.op E H (fun v H'=>WpT P cfg f r' (tr++[⟨o.op,true,E,H,v,H'⟩]) (zA E d v) H' Q)→jj all E o=true→∃ n E' H' rs,zcN P cfg (ev P cfg n) f N all (o::l) E H=.done E' H' rs∧Q (tr++rs.map zmC) E' H':=fun hw hwant=>by
     unfold zdT at hw
     obtain⟨n,v,H1,g1,g2⟩:=hw
     obtain⟨m,E2,H2,rs,g3,g4⟩:=WpT.run h3 g2
     refine⟨max n m,E2,H2,⟨o,true,E,H,v,H1⟩::rs,?_,by simpa [zmC]using g4⟩
     simp only[zcN,hwant]
     rw[zdh (hle n (max n m) (Nat.le_max_left _ _)) (by rw[g1];simp),g1]
     simp only[zej h1,jO]
     rw[zei (hle m (max n m) (Nat.le_max_right _ _)) (by rw[g3];simp),g3]
     rfl
    unfold WpT at hq
    cases hg:g with
    | none=>
      rw[hg]at hq
      exact hop hq (w1 hg)
    | some sb=>
      obtain⟨s,b⟩:=sb
      rw[hg]at hq
      simp only[]at hq
      rcases hq with ⟨e,hq⟩|⟨e,hq⟩
      ·exact hop hq ((w2 s b hg).1 e)
      ·obtain⟨m,E2,H2,rs,g3,g4⟩:=WpT.run h3 hq
       refine⟨m,E2,H2,⟨o,false,E,H,yp,H⟩::rs,?_,by simpa [zmC]using g4⟩
       simp only[zcN,(w2 s b hg).2 e,zej h1,jO,g3,zdA]
   ·simp at hs
theorem zpV {need:List (Nat×Nat)}{rs:List Rec}{H':Hp} (h:zdl P cfg need (rs.map zmC) H'):zeR P cfg need rs H'=true:=by
 unfold zeR
 simp only[Bool.and_eq_true,List.all_eq_true]
 refine⟨fun r hm=>Nat.ble_eq_true_of_le (h.1 _ (List.mem_map.2 ⟨r,hm,rfl⟩)),fun p hp=>?_⟩
 have hs:=h.2 p hp
 have hheap:zk9 (rs.map zmC) H' p.2=zL rs H' p.2:=by
  unfold zk9 zL
  rw[List.getElem?_map]
  cases rs[p.2]? <;>rfl
 unfold znE at hs
 rw[List.getElem?_map,hheap]at hs
 cases hr:rs[p.1]? with
 | none=>rfl
 | some r=>
   rw[hr]at hs
   simp only[Option.map_some,zmC]at hs
   simp only[Bool.or_eq_true,Bool.not_eq_true']
   cases hd:r.did with
   | false=>exact .inl rfl
   | true=>
     right
     have hs:=hs hd
     unfold zeJ at hs
     unfold zc7
     cases hk:y9 r.o.op with
     | calm=>rfl
     | act=>rfl
     | read=>
       rw[hk]at hs
       simp only[]at hs ⊢
       obtain⟨H2,h2⟩:=hs
       rw[h2]
       exact AV.beq_refl _
     | make=>
       rw[hk]at hs
       simp only[]at hs ⊢
       obtain⟨b,h1,h2⟩:=hs
       rw[h1,h2]
       exact HB.beq_refl b
theorem zla {id:Nat}{ops ops2:List Oper}{l:List SOp}{need:List (Nat×Nat)}{E:Env}{H:Hp}{Q:AX→Env→Hp→Prop}
 (hpl:∀ ih:Task→Res,jt P cfg ih f N E H (cfg.plan f id) ops=zan P cfg ih f N ops2 E H) (hp:zeD ops2=true) (hs:zS N ops2 ops2=some l) (hn:zdB ops2=need)
 (h:∀ K:List Rc→Env→Hp→Prop,(∀ tr E' H',zdl P cfg need tr H'→Q .normal E' H'→K tr E' H')→WpT P cfg f l [] E H K):Wp P cfg f N (.draw id ops) E H Q:=by
 unfold Wp
 intro code hc
 cases code with
 | region id' ops' draw=>
   cases draw with
   | false=>simp only[slim,zZ]at hc;split at hc<;>simp at hc
   | true=>
     simp only[slim,SC.draw.injEq]at hc
     obtain⟨rfl,rfl⟩:=hc
     obtain⟨n,E',H',rs,h1,h2,h3⟩:=WpT.run hs (h (fun tr E' H'=>zdl P cfg need tr H'∧Q .normal E' H') fun _ _ _ h h'=>⟨h,h'⟩)
     refine⟨_,_,_,Ev.draw (n:=n) (r:=.done .normal E' H') ?_ (by simp),h3⟩
     rw[hpl]
     unfold zan
     rw[hp]
     simp only[h1]
     rw[hn,zpV (by simpa using h2)]
 | _=>simp[slim]at hc
theorem zpW {id:Nat}{ops:List Oper}{l:List SOp}{need:List (Nat×Nat)}{E:Env}{H:Hp}{Q:AX→Env→Hp→Prop} (hpl:cfg.plan f id=.text) (hp:zeD ops=true) (hs:zS N ops ops=some l) (hn:zdB ops=need)
 (h:∀ K:List Rc→Env→Hp→Prop,(∀ tr E' H',zdl P cfg need tr H'→Q .normal E' H'→K tr E' H')→WpT P cfg f l [] E H K):Wp P cfg f N (.draw id ops) E H Q:=
 zla (fun ih=>by rw[hpl];rfl) hp hs hn h
theorem zpX {id:Nat}{ops:List Oper}{ord:List Nat}{l:List SOp}{need:List (Nat×Nat)}{E:Env}{H:Hp}{Q:AX→Env→Hp→Prop} (hpl:cfg.plan f id=.perm ord) (hb:zkz ord ops=true) (hp:zeD (zao ord ops)=true) (hs:zS N (zao ord ops) (zao ord ops)=some l) (hn:zdB (zao ord ops)=need)
 (h:∀ K:List Rc→Env→Hp→Prop,(∀ tr E' H',zdl P cfg need tr H'→Q .normal E' H'→K tr E' H')→WpT P cfg f l [] E H K):Wp P cfg f N (.draw id ops) E H Q:=
 zla (fun ih=>by rw[hpl];simp only[jt,hb]) hp hs hn h
theorem WpT.nil {tr:List Rc}{E:Env}{H:Hp}{Q:List Rc→Env→Hp→Prop} (h:Q tr E H):WpT P cfg f [] tr E H Q:=h
theorem WpT.step {d:Nat}{op:Op}{l:List SOp}{tr:List Rc}{E:Env}{H:Hp}{Q:List Rc→Env→Hp→Prop}
 (h:WpL P cfg f [⟨some d,op,none⟩] E H fun E' H'=>WpT P cfg f l (tr++[⟨op,true,E,H,E'.at d,H'⟩]) E' H' Q):WpT P cfg f (⟨some d,op,none⟩::l) tr E H Q:=by
 unfold WpL at h
 simp only[]at h
 unfold WpT
 refine zdT.mono (fun v H' hq=>?_) h
 unfold WpL at hq
 have:(zA E (some d) v).at d=v:=by simp only[zA,at_set,beq_self_eq_true,cond_true]
 rw[this]at hq
 exact hq
theorem zo {op:Op}{l:List SOp}{tr:List Rc}{E:Env}{H:Hp}{Q:List Rc→Env→Hp→Prop} (hk:y9 op=.act)
 (h:WpL P cfg f [⟨none,op,none⟩] E H fun E' H'=>∀ v,WpT P cfg f l (tr++[⟨op,true,E,H,v,H'⟩]) E' H' Q):WpT P cfg f (⟨none,op,none⟩::l) tr E H Q:=by
 unfold WpL at h
 simp only[]at h
 unfold WpT
 refine zdT.mono (fun v H' hq=>?_) h
 unfold WpL at hq
 exact hq v
theorem zoX {t:TypeId}{x:Operand}{E:Env}{H0 H0' H:Hp}{v a:AV} (h:zn E x=some a) (h1:zaZ P H t a=some v):zeJ P cfg ⟨.load t x,true,E,H0,v,H0'⟩ H:=
 ⟨H,by simp only[yI,opA,zhB,Go.Ab.ret,h,h1,jZ]⟩
theorem zlb {t:TypeId}{x y:Operand}{ok:Bool}{E:Env}{H0 H0' H:Hp}{v a b:AV} (h:zn E x=some a) (h1:zn E y=some b) (h2:ji P H t a b ok=some v):zeJ P cfg ⟨.lookup t x y ok,true,E,H0,v,H0'⟩ H:=
 ⟨H,by simp only[yI,opA,zdF,Go.Ab.ret,h,h1,h2,jZ]⟩
theorem zpY {t:TypeId}{x:Operand}{E:Env}{H0 H0' H:Hp}{v a:AV} (h:zn E x=some a) (h1:ye P H t a=some v):zeJ P cfg ⟨.call ⟨.builtin .len,#[x],#[t]⟩,true,E,H0,v,H0'⟩ H:=
 ⟨H,by simp only[yI,zgx,yO,h,zaE,h1,jZ]⟩
theorem zoY {s t:TypeId}{x:Operand}{E:Env}{H0 H0' H:Hp}{v a:AV} (h:zn E x=some a) (h1:jo P H s t a=some v):zeJ P cfg ⟨.convert s t x,true,E,H0,v,H0'⟩ H:=
 ⟨H,by simp only[yI,opA,zcL,Go.Ab.ret,h,h1,jZ]⟩
theorem zmD {t:TypeId}{x:Operand}{lo hi:Option Operand}{lv hv:Option AV}{E:Env}{H0 H0' H:Hp}{v a:AV} (h:zn E x=some a) (h1:jK E lo=some lv) (h2:jK E hi=some hv) (h3:zaP P H t a lv hv=some v):zeJ P cfg ⟨.slice t x lo hi none,true,E,H0,v,H0'⟩ H:=
 ⟨H,by simp only[yI,opA,zfh,Go.Ab.ret,h,h1,h2,h3,jZ]⟩
theorem zoZ {op:Op}{E:Env}{H0 H0' H:Hp}{v:AV}{b:HB} (hk:y9 op=.make) (h:H.get H0.next=some b) (h2:H0'.get H0.next=some b):zeJ P cfg ⟨op,true,E,H0,v,H0'⟩ H:=by
 unfold zeJ
 rw[hk]
 exact⟨b,h,h2⟩
theorem zpZ {tr:List Rc}{H':Hp}{i m:Nat}{r:Rc} (h:tr[i]?=some r) (hs:r.did=true→zeJ P cfg r (zk9 tr H' m)):znE P cfg tr H' i m:=by
 unfold znE;rw[h];exact hs
end
section
variable {P:Program} {cfg:Cfg} {f:FuncId} {l:List SOp} {E:Env} {H:Hp} {Q:Env → Hp → Prop} {d:Nat} {x y:Operand} {ts:Array TypeId} {k k':IntKind} {a b:Int}
theorem WpL.min2 (h:zn E x=some (.int k a)) (h1:zn E y=some (.int k' b)) (hk:WpL P cfg f l (T.set E d (some (.int k (min a b)))) H Q):WpL P cfg f (⟨some d,.call ⟨.builtin .min,#[x,y],ts⟩,none⟩::l) E H Q:=
 WpL.builtin (c:=⟨.builtin .min,#[x,y],ts⟩) rfl (vs:=[.int k a,.int k' b]) (by simp only[yO,h,h1]) (v:=.int k (min a b)) (by
  simp only[zaE,mms,mm,Bool.false_eq_true,if_false,decide_eq_true_eq]
  congr 3;omega) hk
theorem WpL.max2 (h:zn E x=some (.int k a)) (h1:zn E y=some (.int k' b)) (hk:WpL P cfg f l (T.set E d (some (.int k (max a b)))) H Q):WpL P cfg f (⟨some d,.call ⟨.builtin .max,#[x,y],ts⟩,none⟩::l) E H Q:=
 WpL.builtin (c:=⟨.builtin .max,#[x,y],ts⟩) rfl (vs:=[.int k a,.int k' b]) (by simp only[yO,h,h1]) (v:=.int k (max a b)) (by
  simp only[zaE,mms,mm,if_true,decide_eq_true_eq]
  congr 3;omega) hk
end
attribute [irreducible] WpT
abbrev je (l:List (List UInt8)):AV:=.lst (l.map fun s=>[.str s])
abbrev lstI (l:List Int):AV:=.lst (l.map fun n=>[.int .i64 n])
def str (s:String):List UInt8:=s.toUTF8.data.toList
inductive Ex where
 | mk (kind:Int) (n:Int) (name:List UInt8) (op:Int) (kids:List Ex)
def Ex.kind:Ex→Int|.mk x _ _ _ _=>x
def Ex.n:Ex→Int|.mk _ x _ _ _=>x
def Ex.name:Ex→List UInt8|.mk _ _ x _ _=>x
def Ex.op:Ex→Int|.mk _ _ _ x _=>x
def Ex.kids:Ex→List Ex|.mk _ _ _ _ x=>x
mutual
def Ex.cells:Ex→List AV
 | .mk a0 a1 a2 a3 a4=>[.int .i64 a0,.int .i64 a1,.str a2,.int .i64 a3,.lst (zj3 a4)]
def zj3:List Ex→List (List AV)
 | []=>[]
 | x::xs=>Ex.cells x::zj3 xs
end
theorem zjh:∀ l:List Ex,zj3 l=l.map Ex.cells
 | []=>rfl
 | x::xs=>by rw[zj3,zjh xs];rfl
theorem Ex.cells_eq (x:Ex):x.cells=[.int .i64 x.kind,.int .i64 x.n,.str x.name,.int .i64 x.op,.lst (x.kids.map Ex.cells)]:=by
 cases x
 simp only[Ex.cells,zjh,Ex.kind,Ex.n,Ex.name,Ex.op,Ex.kids]
theorem Ex.clen (x:Ex):x.cells.length=5:=by rw[Ex.cells_eq];rfl
theorem Ex.c0 (x:Ex):x.cells[0]?=some (.int .i64 x.kind):=by rw[Ex.cells_eq];rfl
theorem Ex.c1 (x:Ex):x.cells[1]?=some (.int .i64 x.n):=by rw[Ex.cells_eq];rfl
theorem Ex.c2 (x:Ex):x.cells[2]?=some (.str x.name):=by rw[Ex.cells_eq];rfl
theorem Ex.c3 (x:Ex):x.cells[3]?=some (.int .i64 x.op):=by rw[Ex.cells_eq];rfl
theorem Ex.c4 (x:Ex):x.cells[4]?=some (.lst (x.kids.map Ex.cells)):=by rw[Ex.cells_eq];rfl
theorem Ex.whole (x:Ex):yL 5 x.cells=some (.agg x.cells):=by unfold yL;rw[Ex.cells_eq];rfl
theorem Ex.one (x:Ex):x.cells.all AV.one=true:=by rw[Ex.cells_eq];rfl
inductive St where
 | mk (kind:Int) (name:List UInt8) (to:List UInt8) (n:Int) (at_:Ex) (value:Ex) (args:List Ex) (thn:List St) (els:List St)
def St.kind:St→Int|.mk x _ _ _ _ _ _ _ _=>x
def St.name:St→List UInt8|.mk _ x _ _ _ _ _ _ _=>x
def St.to:St→List UInt8|.mk _ _ x _ _ _ _ _ _=>x
def St.n:St→Int|.mk _ _ _ x _ _ _ _ _=>x
def St.at_:St→Ex|.mk _ _ _ _ x _ _ _ _=>x
def St.value:St→Ex|.mk _ _ _ _ _ x _ _ _=>x
def St.args:St→List Ex|.mk _ _ _ _ _ _ x _ _=>x
def St.thn:St→List St|.mk _ _ _ _ _ _ _ x _=>x
def St.els:St→List St|.mk _ _ _ _ _ _ _ _ x=>x
mutual
def St.cells:St→List AV
 | .mk a0 a1 a2 a3 a4 a5 a6 a7 a8=>[.int .i64 a0,.str a1,.str a2,.int .i64 a3,.int .i64 a4.kind,.int .i64 a4.n,.str a4.name,.int .i64 a4.op,.lst (a4.kids.map Ex.cells),.int .i64 a5.kind,.int .i64 a5.n,.str a5.name,.int .i64 a5.op,.lst (a5.kids.map Ex.cells),.lst (a6.map Ex.cells),.lst (zh6 a7),.lst (zh6 a8)]
def zh6:List St→List (List AV)
 | []=>[]
 | x::xs=>St.cells x::zh6 xs
end
theorem zji:∀ l:List St,zh6 l=l.map St.cells
 | []=>rfl
 | x::xs=>by rw[zh6,zji xs];rfl
theorem St.cells_eq (x:St):x.cells=[.int .i64 x.kind,.str x.name,.str x.to,.int .i64 x.n,.int .i64 x.at_.kind,.int .i64 x.at_.n,.str x.at_.name,.int .i64 x.at_.op,.lst (x.at_.kids.map Ex.cells),.int .i64 x.value.kind,.int .i64 x.value.n,.str x.value.name,.int .i64 x.value.op,.lst (x.value.kids.map Ex.cells),.lst (x.args.map Ex.cells),.lst (x.thn.map St.cells),.lst (x.els.map St.cells)]:=by
 cases x
 simp only[St.cells,zji,St.kind,St.name,St.to,St.n,St.at_,St.value,St.args,St.thn,St.els]
theorem St.clen (x:St):x.cells.length=17:=by rw[St.cells_eq];rfl
theorem St.c0 (x:St):x.cells[0]?=some (.int .i64 x.kind):=by rw[St.cells_eq];rfl
theorem St.c1 (x:St):x.cells[1]?=some (.str x.name):=by rw[St.cells_eq];rfl
theorem St.c2 (x:St):x.cells[2]?=some (.str x.to):=by rw[St.cells_eq];rfl
theorem St.c3 (x:St):x.cells[3]?=some (.int .i64 x.n):=by rw[St.cells_eq];rfl
theorem St.c4 (x:St):x.cells[4]?=some (.int .i64 x.at_.kind):=by rw[St.cells_eq];rfl
theorem St.c5 (x:St):x.cells[5]?=some (.int .i64 x.at_.n):=by rw[St.cells_eq];rfl
theorem St.c6 (x:St):x.cells[6]?=some (.str x.at_.name):=by rw[St.cells_eq];rfl
theorem St.c7 (x:St):x.cells[7]?=some (.int .i64 x.at_.op):=by rw[St.cells_eq];rfl
theorem St.c8 (x:St):x.cells[8]?=some (.lst (x.at_.kids.map Ex.cells)):=by rw[St.cells_eq];rfl
theorem St.c9 (x:St):x.cells[9]?=some (.int .i64 x.value.kind):=by rw[St.cells_eq];rfl
theorem St.c10 (x:St):x.cells[10]?=some (.int .i64 x.value.n):=by rw[St.cells_eq];rfl
theorem St.c11 (x:St):x.cells[11]?=some (.str x.value.name):=by rw[St.cells_eq];rfl
theorem St.c12 (x:St):x.cells[12]?=some (.int .i64 x.value.op):=by rw[St.cells_eq];rfl
theorem St.c13 (x:St):x.cells[13]?=some (.lst (x.value.kids.map Ex.cells)):=by rw[St.cells_eq];rfl
theorem St.c14 (x:St):x.cells[14]?=some (.lst (x.args.map Ex.cells)):=by rw[St.cells_eq];rfl
theorem St.c15 (x:St):x.cells[15]?=some (.lst (x.thn.map St.cells)):=by rw[St.cells_eq];rfl
theorem St.c16 (x:St):x.cells[16]?=some (.lst (x.els.map St.cells)):=by rw[St.cells_eq];rfl
theorem St.whole (x:St):yL 17 x.cells=some (.agg x.cells):=by unfold yL;rw[St.cells_eq];rfl
theorem St.one (x:St):x.cells.all AV.one=true:=by rw[St.cells_eq];rfl
theorem zlc (x:St):yL 5 (x.cells.drop 4)=some (.agg x.at_.cells):=by unfold yL;rw[St.cells_eq,Ex.cells_eq];rfl
theorem St.part_value (x:St):yL 5 (x.cells.drop 9)=some (.agg x.value.cells):=by unfold yL;rw[St.cells_eq,Ex.cells_eq];rfl
structure Fu where
 name:List UInt8
 params:List (List UInt8)
 locals:List (List UInt8)
 body:List St
 value:Ex
def Fu.cells (x:Fu):List AV:=[.str x.name,je x.params,je x.locals,.lst (x.body.map St.cells),.int .i64 x.value.kind,.int .i64 x.value.n,.str x.value.name,.int .i64 x.value.op,.lst (x.value.kids.map Ex.cells)]
theorem Fu.cells_eq (x:Fu):x.cells=[.str x.name,je x.params,je x.locals,.lst (x.body.map St.cells),.int .i64 x.value.kind,.int .i64 x.value.n,.str x.value.name,.int .i64 x.value.op,.lst (x.value.kids.map Ex.cells)]:=rfl
theorem Fu.clen (x:Fu):x.cells.length=9:=by rw[Fu.cells_eq];rfl
theorem Fu.c0 (x:Fu):x.cells[0]?=some (.str x.name):=by rw[Fu.cells_eq];rfl
theorem Fu.c1 (x:Fu):x.cells[1]?=some (je x.params):=by rw[Fu.cells_eq];rfl
theorem Fu.c2 (x:Fu):x.cells[2]?=some (je x.locals):=by rw[Fu.cells_eq];rfl
theorem Fu.c3 (x:Fu):x.cells[3]?=some (.lst (x.body.map St.cells)):=by rw[Fu.cells_eq];rfl
theorem Fu.c4 (x:Fu):x.cells[4]?=some (.int .i64 x.value.kind):=by rw[Fu.cells_eq];rfl
theorem Fu.c5 (x:Fu):x.cells[5]?=some (.int .i64 x.value.n):=by rw[Fu.cells_eq];rfl
theorem Fu.c6 (x:Fu):x.cells[6]?=some (.str x.value.name):=by rw[Fu.cells_eq];rfl
theorem Fu.c7 (x:Fu):x.cells[7]?=some (.int .i64 x.value.op):=by rw[Fu.cells_eq];rfl
theorem Fu.c8 (x:Fu):x.cells[8]?=some (.lst (x.value.kids.map Ex.cells)):=by rw[Fu.cells_eq];rfl
theorem Fu.whole (x:Fu):yL 9 x.cells=some (.agg x.cells):=by unfold yL;rw[Fu.cells_eq];rfl
theorem Fu.one (x:Fu):x.cells.all AV.one=true:=by rw[Fu.cells_eq];rfl
theorem Fu.part_value (x:Fu):yL 5 (x.cells.drop 4)=some (.agg x.value.cells):=by unfold yL;rw[Fu.cells_eq,Ex.cells_eq];rfl
structure Ar where
 name:List UInt8
 len:Int
def Ar.cells (x:Ar):List AV:=[.str x.name,.int .i64 x.len]
theorem Ar.cells_eq (x:Ar):x.cells=[.str x.name,.int .i64 x.len]:=rfl
theorem Ar.clen (x:Ar):x.cells.length=2:=by rw[Ar.cells_eq];rfl
theorem Ar.c0 (x:Ar):x.cells[0]?=some (.str x.name):=by rw[Ar.cells_eq];rfl
theorem Ar.c1 (x:Ar):x.cells[1]?=some (.int .i64 x.len):=by rw[Ar.cells_eq];rfl
theorem Ar.whole (x:Ar):yL 2 x.cells=some (.agg x.cells):=by unfold yL;rw[Ar.cells_eq];rfl
theorem Ar.one (x:Ar):x.cells.all AV.one=true:=by rw[Ar.cells_eq];rfl
structure Pr where
 arrays:List Ar
 funcs:List Fu
def Pr.cells (x:Pr):List AV:=[.lst (x.arrays.map Ar.cells),.lst (x.funcs.map Fu.cells)]
theorem Pr.cells_eq (x:Pr):x.cells=[.lst (x.arrays.map Ar.cells),.lst (x.funcs.map Fu.cells)]:=rfl
theorem Pr.clen (x:Pr):x.cells.length=2:=by rw[Pr.cells_eq];rfl
theorem Pr.c0 (x:Pr):x.cells[0]?=some (.lst (x.arrays.map Ar.cells)):=by rw[Pr.cells_eq];rfl
theorem Pr.c1 (x:Pr):x.cells[1]?=some (.lst (x.funcs.map Fu.cells)):=by rw[Pr.cells_eq];rfl
theorem Pr.whole (x:Pr):yL 2 x.cells=some (.agg x.cells):=by unfold yL;rw[Pr.cells_eq];rfl
theorem Pr.one (x:Pr):x.cells.all AV.one=true:=by rw[Pr.cells_eq];rfl
structure Tk where
 kind:Int
 text:List UInt8
 at_:Int
def Tk.cells (x:Tk):List AV:=[.int .i64 x.kind,.str x.text,.int .i64 x.at_]
theorem Tk.cells_eq (x:Tk):x.cells=[.int .i64 x.kind,.str x.text,.int .i64 x.at_]:=rfl
theorem Tk.clen (x:Tk):x.cells.length=3:=by rw[Tk.cells_eq];rfl
theorem Tk.c0 (x:Tk):x.cells[0]?=some (.int .i64 x.kind):=by rw[Tk.cells_eq];rfl
theorem Tk.c1 (x:Tk):x.cells[1]?=some (.str x.text):=by rw[Tk.cells_eq];rfl
theorem Tk.c2 (x:Tk):x.cells[2]?=some (.int .i64 x.at_):=by rw[Tk.cells_eq];rfl
theorem Tk.whole (x:Tk):yL 3 x.cells=some (.agg x.cells):=by unfold yL;rw[Tk.cells_eq];rfl
theorem Tk.one (x:Tk):x.cells.all AV.one=true:=by rw[Tk.cells_eq];rfl
structure Nd where
 op:Int
 imm:Int
 kids:List Int
def Nd.cells (x:Nd):List AV:=[.int .i64 x.op,.int .i64 x.imm,lstI x.kids]
theorem Nd.cells_eq (x:Nd):x.cells=[.int .i64 x.op,.int .i64 x.imm,lstI x.kids]:=rfl
theorem Nd.clen (x:Nd):x.cells.length=3:=by rw[Nd.cells_eq];rfl
theorem Nd.c0 (x:Nd):x.cells[0]?=some (.int .i64 x.op):=by rw[Nd.cells_eq];rfl
theorem Nd.c1 (x:Nd):x.cells[1]?=some (.int .i64 x.imm):=by rw[Nd.cells_eq];rfl
theorem Nd.c2 (x:Nd):x.cells[2]?=some (lstI x.kids):=by rw[Nd.cells_eq];rfl
theorem Nd.whole (x:Nd):yL 3 x.cells=some (.agg x.cells):=by unfold yL;rw[Nd.cells_eq];rfl
theorem Nd.one (x:Nd):x.cells.all AV.one=true:=by rw[Nd.cells_eq];rfl
structure Gr where
 name:List UInt8
 params:Int
 nodes:List Nd
 value:Int
 state:Int
def Gr.cells (x:Gr):List AV:=[.str x.name,.int .i64 x.params,.lst (x.nodes.map Nd.cells),.int .i64 x.value,.int .i64 x.state]
theorem Gr.cells_eq (x:Gr):x.cells=[.str x.name,.int .i64 x.params,.lst (x.nodes.map Nd.cells),.int .i64 x.value,.int .i64 x.state]:=rfl
theorem Gr.clen (x:Gr):x.cells.length=5:=by rw[Gr.cells_eq];rfl
theorem Gr.c0 (x:Gr):x.cells[0]?=some (.str x.name):=by rw[Gr.cells_eq];rfl
theorem Gr.c1 (x:Gr):x.cells[1]?=some (.int .i64 x.params):=by rw[Gr.cells_eq];rfl
theorem Gr.c2 (x:Gr):x.cells[2]?=some (.lst (x.nodes.map Nd.cells)):=by rw[Gr.cells_eq];rfl
theorem Gr.c3 (x:Gr):x.cells[3]?=some (.int .i64 x.value):=by rw[Gr.cells_eq];rfl
theorem Gr.c4 (x:Gr):x.cells[4]?=some (.int .i64 x.state):=by rw[Gr.cells_eq];rfl
theorem Gr.whole (x:Gr):yL 5 x.cells=some (.agg x.cells):=by unfold yL;rw[Gr.cells_eq];rfl
theorem Gr.one (x:Gr):x.cells.all AV.one=true:=by rw[Gr.cells_eq];rfl
structure Un where
 arrays:List Ar
 funcs:List Gr
def Un.cells (x:Un):List AV:=[.lst (x.arrays.map Ar.cells),.lst (x.funcs.map Gr.cells)]
theorem Un.cells_eq (x:Un):x.cells=[.lst (x.arrays.map Ar.cells),.lst (x.funcs.map Gr.cells)]:=rfl
theorem Un.clen (x:Un):x.cells.length=2:=by rw[Un.cells_eq];rfl
theorem Un.c0 (x:Un):x.cells[0]?=some (.lst (x.arrays.map Ar.cells)):=by rw[Un.cells_eq];rfl
theorem Un.c1 (x:Un):x.cells[1]?=some (.lst (x.funcs.map Gr.cells)):=by rw[Un.cells_eq];rfl
theorem Un.whole (x:Un):yL 2 x.cells=some (.agg x.cells):=by unfold yL;rw[Un.cells_eq];rfl
theorem Un.one (x:Un):x.cells.all AV.one=true:=by rw[Un.cells_eq];rfl
end Go.Ab
namespace Go.Proofs.Ytpbcimfiofmoeaa
set_option maxRecDepth 20000
open Go Go.Ab
theorem fit:Fit Try.prog:=Fit.of (by kernel_rfl)
def pls:List (Nat×Nat×Plan):=[(6,3,(.perm [0,1,4,2,3,5])),
 (18,11,(.perm [0,1,2,4,5,6,7,8,10,11,12,13,16,3,9,14,15,17])),
 (51,14,(.perm [0,1,2,4,5,7,9,3,6,8,10])),
 (93,23,(.perm [0,1,2,3,4,5,6,7,9,10,11,12,13,14,8,15,16,17,18,19])),
 (93,24,(.perm [0,1,2,3,4,5,6,8,9,10,11,12,13,7,14,15,16])),
 (129,23,(.perm [0,2,3,4,5,6,7,1,8,9]))]
end Go.Proofs.Ytpbcimfiofmoeaa
