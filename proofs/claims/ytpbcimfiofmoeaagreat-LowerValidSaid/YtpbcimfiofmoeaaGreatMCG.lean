/- Parts: Rules, AbPure, Spec4, TreeP, Lex. -/
import Derived.Test.YtpbcimfiofmoeaaGreatMCF
set_option linter.unusedSimpArgs false
set_option linter.unusedVariables false
set_option linter.unusedSectionVars false
set_option linter.defProp false
set_option maxHeartbeats 32000000
namespace Go.Ab
set_option maxRecDepth 20000
open Go
theorem CF{P:Prop}(h:P:=by first|(dsimp only[lF,pR];first|done|exact rfl)|(dsimp only[];first|done|exact rfl)|exact rfl):P:=h
theorem xg{P:Prop}(h:P:=by first|(dsimp only[zk6];first|done|exact rfl)|exact rfl):P:=h
theorem eL{P:Prop}(h:P:=by ((first|simp only[zk1,Nat.reduceBEq,ne_eq,not_false_eq_true, *,-hK]|simp only[zk1,Nat.reduceBEq,ne_eq,not_false_eq_true, *]|skip);first|done|with_reducible rfl)):P:=h
theorem ky{P:Prop}(h:P:=by ((first|simp only[zk1,zk7,tyF,Nat.reduceBEq,Nat.reduceAdd,Nat.reduceLeDiff,ne_eq,not_false_eq_true, *,-hK]|simp only[zk1,zk7,tyF,Nat.reduceBEq,Nat.reduceAdd,Nat.reduceLeDiff,ne_eq,not_false_eq_true, *]|skip);first|done|with_reducible rfl)):P:=h
theorem xh{P:Prop}(h:P:=by ((try simp only[zk9,zli,zlI,Nat.add_assoc,Nat.reduceAdd,Nat.zero_add]);with_reducible rfl)):P:=h
theorem Mg{P:Prop}(h:P:=by ((first|simp only[zk1,Nat.reduceBEq,lT,ne_eq,not_false_eq_true, *,-hK]|simp only[zk1,Nat.reduceBEq,lT,ne_eq,not_false_eq_true, *]|skip);first|done|with_reducible rfl)):P:=h
theorem Mh{P:Prop}(h:P:=by ((first|simp only[zk1,Nat.reduceBEq,znk,List.cons_append,List.nil_append,ne_eq,not_false_eq_true, *,-hK]|simp only[zk1,Nat.reduceBEq,znk,List.cons_append,List.nil_append,ne_eq,not_false_eq_true, *]|skip);first|done|with_reducible rfl)):P:=h
theorem Mi{P:Prop}(h:P:=by ((first|simp only[zk1,Nat.reduceBEq,lw,ne_eq,not_false_eq_true, *,-hK]|simp only[zk1,Nat.reduceBEq,lw,ne_eq,not_false_eq_true, *]|skip);first|done|with_reducible rfl)):P:=h
theorem eF{P:Prop}(h:P:=by ((first|simp only[zk1,Nat.reduceBEq,ne_eq,not_false_eq_true,decide_true,decide_false,Int.reduceEq,Int.reduceLE,Int.reduceToNat,Nat.mul_one, *,-hK]|simp only[zk1,Nat.reduceBEq,ne_eq,not_false_eq_true,decide_true,decide_false,Int.reduceEq,Int.reduceLE,Int.reduceToNat,Nat.mul_one, *]|skip);first|done|with_reducible rfl)):P:=h
theorem kA{P:Prop}(h:P:=by ((first|simp only[zk1,zk7,tyF,Nat.reduceBEq,Nat.reduceAdd,Nat.reduceLeDiff,ne_eq,not_false_eq_true,decide_true,decide_false,Int.reduceEq,Int.reduceLE,Int.reduceToNat,Nat.mul_one, *,-hK]|simp only[zk1,zk7,tyF,Nat.reduceBEq,Nat.reduceAdd,Nat.reduceLeDiff,ne_eq,not_false_eq_true,decide_true,decide_false,Int.reduceEq,Int.reduceLE,Int.reduceToNat,Nat.mul_one, *]|skip);first|done|with_reducible rfl)):P:=h
theorem Mj{P:Prop}(h:P:=by ((first|simp only[zk1,Nat.reduceBEq,lT,ne_eq,not_false_eq_true,decide_true,decide_false,Int.reduceEq,Int.reduceLE,Int.reduceToNat,Nat.mul_one, *,-hK]|simp only[zk1,Nat.reduceBEq,lT,ne_eq,not_false_eq_true,decide_true,decide_false,Int.reduceEq,Int.reduceLE,Int.reduceToNat,Nat.mul_one, *]|skip);first|done|with_reducible rfl)):P:=h
theorem Mk{P:Prop}(h:P:=by ((first|simp only[zk1,Nat.reduceBEq,znk,List.cons_append,List.nil_append,ne_eq,not_false_eq_true,decide_true,decide_false,Int.reduceEq,Int.reduceLE,Int.reduceToNat,Nat.mul_one, *,-hK]|simp only[zk1,Nat.reduceBEq,znk,List.cons_append,List.nil_append,ne_eq,not_false_eq_true,decide_true,decide_false,Int.reduceEq,Int.reduceLE,Int.reduceToNat,Nat.mul_one, *]|skip);first|done|with_reducible rfl)):P:=h
theorem Ml{P:Prop}(h:P:=by ((first|simp only[zk1,Nat.reduceBEq,lw,ne_eq,not_false_eq_true,decide_true,decide_false,Int.reduceEq,Int.reduceLE,Int.reduceToNat,Nat.mul_one, *,-hK]|simp only[zk1,Nat.reduceBEq,lw,ne_eq,not_false_eq_true,decide_true,decide_false,Int.reduceEq,Int.reduceLE,Int.reduceToNat,Nat.mul_one, *]|skip);first|done|with_reducible rfl)):P:=h
theorem GW{P:Prop}(h:P:=by first|(simp only[zk1,Nat.reduceBEq, *];done)|rfl):P:=h
theorem CG{P:Prop}(h:P:=by first|rfl|exact hplan _|(rw[hS.plan];rfl)):P:=h
theorem GX{P:Prop}(h:P:=by simp only[zle,zlp,zln,Nat.blt,Nat.ble];rfl):P:=h
theorem GY{P:Prop}(h:P:=by simp only[zmE,sr,List.filterMap_cons,List.filterMap_nil,List.getElem?_cons_succ,List.getElem?_cons_zero,zle,zlp,zln,Nat.blt,Nat.ble];rfl):P:=h
theorem zB{P:Prop}(h:P:=by simpa using e):P:=h
def lI:=@List.cons_append
def xi:=@List.getElem?_cons_succ
def sR:=@List.getElem?_cons_zero
def zC:=@List.drop_succ_cons
def lJ:=@decide_eq_false_iff_not
def GZ:=@List.getElem?_nil
def G3:=@Classical.choose_spec
def cE:=@Nat.lt_succ_self
def fS:=@List.drop_eq_getElem_cons
def iu:=@Bool.or_false
def uf:=@List.flatMap_cons
def CH:=And.intro @lI.{0} @ly.{0}
def iw:=And.intro CH @bj.{0}
end Go.Ab
namespace Go.Proofs.YtpbcimfiofmoeaaGreat
set_option maxRecDepth 20000
open Go Go.Ab
def znX:=ad lC ir
def znY:=ad @jJ @lJ
section
variable {P:Program} {cfg:Cfg} {f:FuncId} {l:List SOp} {E:aw} {H H':Hp} {Q:aw -> Hp -> Prop} {d:Nat} {v a b:AV} {x y:Operand} {t u:TypeId}
def cA(P:Program)(cfg:Cfg)(f:FuncId)(op:Op)(E:aw)(H:Hp)(v:AV)(H':Hp):Prop:=∃n,zmz P cfg (zmi P cfg n) f E H op=.val v H'
theorem cA.of{op:Op}(h:∀Q:aw->Hp->Prop,aH P cfg f [] (T.set E 0 (some v)) H' Q->aH P cfg f [⟨some 0,op,none⟩] E H Q):cA P cfg f op E H v H':=by
 have m:=h (fun U I=>U.at 0=v/\I=H') (w7 ⟨by rw[kh];rfl,rfl⟩);unfold aH at m;simp only[]at m;unfold jn at m;obtain⟨n,w,I,j,z⟩:=m;unfold aH at z;obtain⟨Y,rfl⟩:=z;have:(zk6 E (some 0) w).at 0=w:=La;rw[this]at Y;exact⟨n,by rw[j,Y]⟩
def dJ:=@cA.of
theorem CI{op:Op}(h:∀Q:aw->Hp->Prop,aH P cfg f [] E H' Q->aH P cfg f [⟨none,op,none⟩] E H Q):∃v,cA P cfg f op E H v H':=by
 have m:=h (fun U I=>I=H') (w7 rfl);unfold aH at m;simp only[]at m;unfold jn at m;obtain⟨n,w,I,j,z⟩:=m;unfold aH at z;subst z;exact⟨w,n,j⟩
theorem cA.go{op:Op}(o:aH P cfg f l (T.set E d (some v)) H' Q)(h:cA P cfg f op E H v H'):aH P cfg f (⟨some d,op,none⟩::l) E H Q:=by
 obtain⟨n,h⟩:=h;unfold aH;show jn _ _ _ _ _ _ _;unfold jn;exact⟨n,v,H',h,o⟩
theorem Mm{op:Op}(o:aH P cfg f l E H' Q)(h:∃v,cA P cfg f op E H v H'):aH P cfg f (⟨none,op,none⟩::l) E H Q:=by
 obtain⟨v,n,h⟩:=h;unfold aH;show jn _ _ _ _ _ _ _;unfold jn;exact⟨n,v,H',h,o⟩
attribute [irreducible] cA
theorem Rx.nl{U K:aw->Hp->Prop}{R:Prop}(h:R)(hK:∀E H,U E H->K E H:=by assumption)(e:U E H=R:=by exact CF):aH P cfg f [] E H K:=w7 (hK _ _ (e▸h))
def ah:=@Rx.nl
theorem zlC{R:Prop}(h:R)(e:Q E H=R:=by first|(dsimp only[];first|done|exact rfl)|exact rfl):aH P cfg f [] E H Q:=w7 (e▸h)
theorem zmk{need:List (Nat×Nat)}{V:List Rc}{U:aw->Hp->Prop}{K:List Rc->aw->Hp->Prop}{R:Prop}(h1:oO P cfg need V H)(h:R)(hK:∀V E' H',oO P cfg need V H'->U E' H'->K V E' H':=by assumption)(e:U E H=R:=by exact CF):eh P cfg f [] V E H K:=zw (hK _ _ _ h1 (e▸h))
theorem zlc{g:FuncId}{ar:List AV}{r:AV}{K:AV->Hp->Prop}{R:Prop}(c:zk5 P cfg g ar H fun v H'=>v=r/\H'=H)(h:R)(e:K r H=R:=by exact xg):zk5 P cfg g ar H K:=aS (by rintro _ _ ⟨rfl,rfl⟩;exact e▸h) c
theorem Ox.mv(h:zk4 E x=some v:=by exact eL):cA P cfg f (.move x) E H v H:=dJ fun Q o=>aH.move h o
theorem Ox.as(h:zk4 E x=some v:=by exact eL):cA P cfg f (.assign x) E H v H:=dJ fun Q o=>aH.assign h o
theorem Ox.pk{z:Operand}{t:Bool}(h:zk4 E x=some (.bool t):=by exact eL)(h1:zk4 E y=some a:=by exact eL)(h2:zk4 E z=some b:=by exact eL):cA P cfg f (.pick x y z) E H (jR t a b) H:=dJ fun Q o=>aH.pick h h1 h2 o
theorem Ox.ld(h:zk4 E x=some a:=by exact eL)(h1:iN P H t a=some v:=by exact ky):cA P cfg f (.load t x) E H v H:=dJ fun Q o=>aH.load h h1 o
theorem Ox.st(h:zk4 E x=some a:=by exact eL)(h1:zk4 E y=some b:=by exact eL)(h2:lS P H t a b=some H':=by exact ky):∃v,cA P cfg f (.store t x y) E H v H':=CI fun Q o=>oN h h1 h2 o
theorem Ox.nc{r o:Nat}(h:zk4 E x=some (.ptr r o):=by exact eL):cA P cfg f (.nilCheck x) E H (.ptr r o) H:=dJ fun Q Z=>aH.nilCheck h Z
theorem Ox.bn{op:BinOp}(h:zk4 E x=some a:=by exact eL)(h1:zk4 E y=some b:=by exact eL)(h2:zmt P cfg.dec op t a b=some v:=by exact ky):cA P cfg f (.binOp op t x y u) E H v H:=dJ fun Q o=>aH.bin h h1 h2 o
theorem Ox.un{op:UnOp}(h:zk4 E x=some a:=by exact eL)(h2:tQ op a=some v:=by exact ky):cA P cfg f (.unOp op t x) E H v H:=dJ fun Q o=>aH.un h h2 o
theorem Ox.cv(h:zk4 E x=some a:=by exact eL)(h2:zny P H t u a=some v:=by exact ky):cA P cfg f (.convert t u x) E H v H:=dJ fun Q o=>aH.convert h h2 o
theorem Ox.fa{i:Nat}(h:zk4 E x=some a:=by exact eL)(h2:zlg P t a i=some v:=by exact ky):cA P cfg f (.fieldAddr t x i) E H v H:=dJ fun Q o=>Ll h h2 o
theorem Ox.fi{i:Nat}(h:zk4 E x=some a:=by exact eL)(h2:zlW P t a i=some v:=by exact ky):cA P cfg f (.field t x i) E H v H:=dJ fun Q o=>aH.field h h2 o
theorem Ox.ia(h:zk4 E x=some a:=by exact eL)(h1:zk4 E y=some b:=by exact eL)(h2:zlO P t a b=some v:=by exact ky):cA P cfg f (.indexAddr t x y) E H v H:=dJ fun Q o=>Lm h h1 h2 o
theorem Ox.ix(h:zk4 E x=some a:=by exact eL)(h1:zk4 E y=some b:=by exact eL)(h2:qC P t a b=some v:=by exact ky):cA P cfg f (.index t x y) E H v H:=dJ fun Q o=>aH.index h h1 h2 o
theorem Ox.ex{i:Nat}(h:zk4 E x=some a:=by exact eL)(h2:Ab.extract a i=some v:=by exact ky):cA P cfg f (.extract x i) E H v H:=dJ fun Q o=>aH.extract h h2 o
theorem Ox.al{z:List AV}{n:Nat}(h:zlV P t=some z:=by exact ky)(J:some H.next=some n:=by exact xh):cA P cfg f (.alloc t) E H (.ptr n 0) (H.alloc (.cells z 0 true)):=dJ fun Q o=>aH.alloc h J o
theorem Ox.bx{cs:List AV}{n:Nat}(h:zk4 E x=some a:=by exact eL)(z:some a.cells=some cs:=by exact ky)(J:some H.next=some n:=by exact xh):cA P cfg f (.box t x) E H (.ptr n 0) (H.alloc (.cells cs 0 true)):=dJ fun Q o=>aH.box h z J o
theorem Ox.bd{I:Array (Nat×Operand)}{ps:List (Nat×AV)}(h:lT E I.toList=some ps:=by exact Mg)(h2:zma P t ps=some v:=by exact ky):cA P cfg f (.build t I) E H v H:=dJ fun Q o=>aH.build h h2 o
theorem Ox.bs{n:Nat}{I:Array (Nat×Operand)}{ps:List (Nat×AV)}(h:lT E I.toList=some ps:=by exact Mg)(h2:zmb P H t n ps=some (v,H'):=by exact ky):cA P cfg f (.buildSlice t n I) E H v H':=dJ fun Q o=>Ln h h2 o
theorem Ox.mm{n:Nat}(J:some H.next=some n:=by exact xh):cA P cfg f (.makeMap t none) E H (.map n) (H.alloc (.map [])):=dJ fun Q o=>aH.makeMap J o
theorem Ox.ms(h:zk4 E x=some a:=by exact eL)(h1:zk4 E y=some b:=by exact eL)(h2:znz P H t a b=some (v,H'):=by exact ky):cA P cfg f (.makeSlice t x y) E H v H':=dJ fun Q o=>Lp h h1 h2 o
theorem Ox.lu{ok:Bool}(h:zk4 E x=some a:=by exact eL)(h1:zk4 E y=some b:=by exact eL)(h2:jK P H t a b ok=some v:=by exact ky):cA P cfg f (.lookup t x y ok) E H v H:=dJ fun Q o=>aH.lookup h h1 h2 o
theorem Ox.mu{z:Operand}{c:AV}(h:zk4 E x=some a:=by exact eL)(h1:zk4 E y=some b:=by exact eL)(h2:zk4 E z=some c:=by exact eL)(Z:znN P H t a b c=some H':=by exact ky):∃v,cA P cfg f (.mapUpdate t x y z) E H v H':=CI fun Q o=>Lo h h1 h2 Z o
theorem Ox.mf{g:FuncId}{cap:Array Operand}{vs:List AV}(h:znk E cap.toList=some vs:=by exact Mh):cA P cfg f (.makeFunc (.func g) #[] cap) E H (.clo g vs) H:=dJ fun Q o=>aH.makeFunc h o
theorem Ox.sl{lo I:Option Operand}{m Z:Option AV}(h:zk4 E x=some a:=by exact eL)(h1:lw E lo=some m:=by exact Mi)(h2:lw E I=some Z:=by exact Mi)(z:pC P H t a m Z=some v:=by exact ky):cA P cfg f (.slice t x lo I none) E H v H:=dJ fun Q o=>aH.slice h h1 h2 z o
theorem Ox.ln{c:AV}(h:zk4 E x=some a:=by exact eL)(h1:zlS P H t a=some c:=by exact ky):cA P cfg f (.call ⟨.builtin .len,#[x],#[t]⟩) E H c H:=dJ fun Q o=>aH.len h h1 o
theorem Ox.ap(h:zk4 E x=some a:=by exact eL)(h1:zk4 E y=some b:=by exact eL)(h2:zmc P (cfg.keep f) H t u a b=some (v,H'):=by exact ky):cA P cfg f (.call ⟨.builtin .append,#[x,y],#[t,u]⟩) E H v H':=dJ fun Q o=>jv h h1 h2 o
theorem Ox.mi{I:Array TypeId}{k C:IntKind}{m M:Int}(h:zk4 E x=some (.int k m):=by exact eL)(h1:zk4 E y=some (.int C M):=by exact eL):cA P cfg f (.call ⟨.builtin .min,#[x,y],I⟩) E H (.int k (min m M)) H:=dJ fun Q o=>aH.min2 h h1 o
theorem Ox.ma{I:Array TypeId}{k C:IntKind}{m M:Int}(h:zk4 E x=some (.int k m):=by exact eL)(h1:zk4 E y=some (.int C M):=by exact eL):cA P cfg f (.call ⟨.builtin .max,#[x,y],I⟩) E H (.int k (max m M)) H:=dJ fun Q o=>aH.max2 h h1 o
theorem Rx.o{op:Op}(o:aH P cfg f l (T.set E d (some v)) H' Q)(h:cA P cfg f op E H v H':=by first|apply(Ox.mv)|apply(Ox.as)|apply(Ox.pk)|apply(Ox.ld)|apply(Ox.nc)|apply(Ox.bn)|apply(Ox.un)|apply(Ox.cv)|apply(Ox.fa)|apply(Ox.fi)|apply(Ox.ia)|apply(Ox.ix)|apply(Ox.ex)|apply(Ox.al)|apply(Ox.bx)|apply(Ox.bd)|apply(Ox.bs)|apply(Ox.mm)|apply(Ox.ms)|apply(Ox.lu)|apply(Ox.mf)|apply(Ox.sl)|apply(Ox.ln)|apply(Ox.ap)|apply(Ox.mi)|apply(Ox.ma)):aH P cfg f (⟨some d,op,none⟩::l) E H Q:=cA.go o h
theorem Rx.on{op:Op}(o:aH P cfg f l E H' Q)(h:∃v,cA P cfg f op E H v H':=by first|apply(Ox.st)|apply(Ox.mu)):aH P cfg f (⟨none,op,none⟩::l) E H Q:=Mm o h
def bS:=@Rx.on
theorem Rx.call{K:Option Nat}{c:Call}{g:Operand}{k:FuncId}{cap vs ar:List AV}(o:zk5 P cfg k ar H fun v H'=>aH P cfg f l (zk6 E K v) H' Q)(z:c.callee=.value g:=by rfl)(Z:zk4 E g=some (.clo k cap):=by exact eL)(Y:znk E c.args.toList=some vs:=by exact Mh)(J:vs++cap=ar:=by simp only[iw];first|done|exact rfl):aH P cfg f (⟨K,.call c,none⟩::l) E H Q:=aZ z Z Y (J▸o)
def eM:=@Rx.call
theorem Rx.gu{K:Option Nat}{op:Op}{s:Nat}{t:Bool}{v:AV}{R:Prop}(o:R)(h:some (E.at s)=some v:=by exact eL)(Z:v=zmx:=by with_reducible rfl)(e:aH P cfg f l (zk6 E K zmx) H Q=R:=by exact xg):aH P cfg f (⟨K,op,some (s,t)⟩::l) E H Q:=Li h Z (e▸o)
def qP:=@Rx.gu
theorem Rx.gd{K:Option Nat}{op:Op}{s:Nat}{j t:Bool}{Z m Y o R:Prop}(h1:Z->Y->aH P cfg f (⟨K,op,none⟩::l) E H Q)(h2:m->o->R)(h:E.at s=.bool t:=by exact eL)(V:(t=j)=Z:=by(try simp only[znX,reduceCtorEq]);first|done|exact rfl)(U:(t=!j)=m:=by(try simp only[znX,reduceCtorEq]);first|done|exact rfl)(C:Z=Y:=by(try simp only[znY]);first|done|exact rfl)(O:m=o:=by(try simp only[znY]);first|done|exact rfl)(e:aH P cfg f l (zk6 E K zmx) H Q=R:=by exact xg):aH P cfg f (⟨K,op,some (s,j)⟩::l) E H Q:=aH.guard h (fun k=>h1 (V▸k) (C▸V▸k)) (fun k=>e▸h2 (U▸k) (O▸U▸k))
def cz:=@Rx.gd
theorem Rx.cd{N:Nat}{V Y:SC}{Q:AX->aw->Hp->Prop}{t:Bool}{j m K o:Prop}(h1:j->K->zlt P cfg f N V E H Q)(h2:m->o->zlt P cfg f N Y E H Q)(O:zk4 E x=some (.bool t):=by exact eL)(Z:(t=true)=j:=by(try simp only[znX,reduceCtorEq]);first|done|exact rfl)(U:(t=false)=m:=by(try simp only[znX,reduceCtorEq]);first|done|exact rfl)(C:j=K:=by(try simp only[znY]);first|done|exact rfl)(M:m=o:=by(try simp only[znY]);first|done|exact rfl):zlt P cfg f N (.cond x V Y) E H Q:=zlt.cond O (fun k=>h1 (Z▸k) (C▸Z▸k)) (fun k=>h2 (U▸k) (M▸U▸k))
def a0:=@Rx.cd
theorem Oy.mv(h:zk4 E x=some v:=by exact eF):cA P cfg f (.move x) E H v H:=dJ fun Q o=>aH.move h o
theorem Oy.as(h:zk4 E x=some v:=by exact eF):cA P cfg f (.assign x) E H v H:=dJ fun Q o=>aH.assign h o
theorem Oy.pk{z:Operand}{t:Bool}(h:zk4 E x=some (.bool t):=by exact eF)(h1:zk4 E y=some a:=by exact eF)(h2:zk4 E z=some b:=by exact eF):cA P cfg f (.pick x y z) E H (jR t a b) H:=dJ fun Q o=>aH.pick h h1 h2 o
theorem Oy.ld(h:zk4 E x=some a:=by exact eF)(h1:iN P H t a=some v:=by exact kA):cA P cfg f (.load t x) E H v H:=dJ fun Q o=>aH.load h h1 o
theorem Oy.st(h:zk4 E x=some a:=by exact eF)(h1:zk4 E y=some b:=by exact eF)(h2:lS P H t a b=some H':=by exact kA):∃v,cA P cfg f (.store t x y) E H v H':=CI fun Q o=>oN h h1 h2 o
theorem Oy.nc{r o:Nat}(h:zk4 E x=some (.ptr r o):=by exact eF):cA P cfg f (.nilCheck x) E H (.ptr r o) H:=dJ fun Q Z=>aH.nilCheck h Z
theorem Oy.bn{op:BinOp}(h:zk4 E x=some a:=by exact eF)(h1:zk4 E y=some b:=by exact eF)(h2:zmt P cfg.dec op t a b=some v:=by exact kA):cA P cfg f (.binOp op t x y u) E H v H:=dJ fun Q o=>aH.bin h h1 h2 o
theorem Oy.un{op:UnOp}(h:zk4 E x=some a:=by exact eF)(h2:tQ op a=some v:=by exact kA):cA P cfg f (.unOp op t x) E H v H:=dJ fun Q o=>aH.un h h2 o
theorem Oy.cv(h:zk4 E x=some a:=by exact eF)(h2:zny P H t u a=some v:=by exact kA):cA P cfg f (.convert t u x) E H v H:=dJ fun Q o=>aH.convert h h2 o
theorem Oy.fa{i:Nat}(h:zk4 E x=some a:=by exact eF)(h2:zlg P t a i=some v:=by exact kA):cA P cfg f (.fieldAddr t x i) E H v H:=dJ fun Q o=>Ll h h2 o
theorem Oy.fi{i:Nat}(h:zk4 E x=some a:=by exact eF)(h2:zlW P t a i=some v:=by exact kA):cA P cfg f (.field t x i) E H v H:=dJ fun Q o=>aH.field h h2 o
theorem Oy.ia(h:zk4 E x=some a:=by exact eF)(h1:zk4 E y=some b:=by exact eF)(h2:zlO P t a b=some v:=by exact kA):cA P cfg f (.indexAddr t x y) E H v H:=dJ fun Q o=>Lm h h1 h2 o
theorem Oy.ix(h:zk4 E x=some a:=by exact eF)(h1:zk4 E y=some b:=by exact eF)(h2:qC P t a b=some v:=by exact kA):cA P cfg f (.index t x y) E H v H:=dJ fun Q o=>aH.index h h1 h2 o
theorem Oy.ex{i:Nat}(h:zk4 E x=some a:=by exact eF)(h2:Ab.extract a i=some v:=by exact kA):cA P cfg f (.extract x i) E H v H:=dJ fun Q o=>aH.extract h h2 o
theorem Oy.al{z:List AV}{n:Nat}(h:zlV P t=some z:=by exact kA)(J:some H.next=some n:=by exact xh):cA P cfg f (.alloc t) E H (.ptr n 0) (H.alloc (.cells z 0 true)):=dJ fun Q o=>aH.alloc h J o
theorem Oy.bx{cs:List AV}{n:Nat}(h:zk4 E x=some a:=by exact eF)(z:some a.cells=some cs:=by exact kA)(J:some H.next=some n:=by exact xh):cA P cfg f (.box t x) E H (.ptr n 0) (H.alloc (.cells cs 0 true)):=dJ fun Q o=>aH.box h z J o
theorem Oy.bd{I:Array (Nat×Operand)}{ps:List (Nat×AV)}(h:lT E I.toList=some ps:=by exact Mj)(h2:zma P t ps=some v:=by exact kA):cA P cfg f (.build t I) E H v H:=dJ fun Q o=>aH.build h h2 o
theorem Oy.bs{n:Nat}{I:Array (Nat×Operand)}{ps:List (Nat×AV)}(h:lT E I.toList=some ps:=by exact Mj)(h2:zmb P H t n ps=some (v,H'):=by exact kA):cA P cfg f (.buildSlice t n I) E H v H':=dJ fun Q o=>Ln h h2 o
theorem Oy.mm{n:Nat}(J:some H.next=some n:=by exact xh):cA P cfg f (.makeMap t none) E H (.map n) (H.alloc (.map [])):=dJ fun Q o=>aH.makeMap J o
theorem Oy.ms(h:zk4 E x=some a:=by exact eF)(h1:zk4 E y=some b:=by exact eF)(h2:znz P H t a b=some (v,H'):=by exact kA):cA P cfg f (.makeSlice t x y) E H v H':=dJ fun Q o=>Lp h h1 h2 o
theorem Oy.lu{ok:Bool}(h:zk4 E x=some a:=by exact eF)(h1:zk4 E y=some b:=by exact eF)(h2:jK P H t a b ok=some v:=by exact kA):cA P cfg f (.lookup t x y ok) E H v H:=dJ fun Q o=>aH.lookup h h1 h2 o
theorem Oy.mu{z:Operand}{c:AV}(h:zk4 E x=some a:=by exact eF)(h1:zk4 E y=some b:=by exact eF)(h2:zk4 E z=some c:=by exact eF)(Z:znN P H t a b c=some H':=by exact kA):∃v,cA P cfg f (.mapUpdate t x y z) E H v H':=CI fun Q o=>Lo h h1 h2 Z o
theorem Oy.mf{g:FuncId}{cap:Array Operand}{vs:List AV}(h:znk E cap.toList=some vs:=by exact Mk):cA P cfg f (.makeFunc (.func g) #[] cap) E H (.clo g vs) H:=dJ fun Q o=>aH.makeFunc h o
theorem Oy.sl{lo I:Option Operand}{m Z:Option AV}(h:zk4 E x=some a:=by exact eF)(h1:lw E lo=some m:=by exact Ml)(h2:lw E I=some Z:=by exact Ml)(z:pC P H t a m Z=some v:=by exact kA):cA P cfg f (.slice t x lo I none) E H v H:=dJ fun Q o=>aH.slice h h1 h2 z o
theorem Oy.ln{c:AV}(h:zk4 E x=some a:=by exact eF)(h1:zlS P H t a=some c:=by exact kA):cA P cfg f (.call ⟨.builtin .len,#[x],#[t]⟩) E H c H:=dJ fun Q o=>aH.len h h1 o
theorem Oy.ap(h:zk4 E x=some a:=by exact eF)(h1:zk4 E y=some b:=by exact eF)(h2:zmc P (cfg.keep f) H t u a b=some (v,H'):=by exact kA):cA P cfg f (.call ⟨.builtin .append,#[x,y],#[t,u]⟩) E H v H':=dJ fun Q o=>jv h h1 h2 o
theorem Oy.mi{I:Array TypeId}{k C:IntKind}{m M:Int}(h:zk4 E x=some (.int k m):=by exact eF)(h1:zk4 E y=some (.int C M):=by exact eF):cA P cfg f (.call ⟨.builtin .min,#[x,y],I⟩) E H (.int k (min m M)) H:=dJ fun Q o=>aH.min2 h h1 o
theorem Oy.ma{I:Array TypeId}{k C:IntKind}{m M:Int}(h:zk4 E x=some (.int k m):=by exact eF)(h1:zk4 E y=some (.int C M):=by exact eF):cA P cfg f (.call ⟨.builtin .max,#[x,y],I⟩) E H (.int k (max m M)) H:=dJ fun Q o=>aH.max2 h h1 o
theorem Ry.o{op:Op}(o:aH P cfg f l (T.set E d (some v)) H' Q)(h:cA P cfg f op E H v H':=by first|apply(Oy.mv)|apply(Oy.as)|apply(Oy.pk)|apply(Oy.ld)|apply(Oy.nc)|apply(Oy.bn)|apply(Oy.un)|apply(Oy.cv)|apply(Oy.fa)|apply(Oy.fi)|apply(Oy.ia)|apply(Oy.ix)|apply(Oy.ex)|apply(Oy.al)|apply(Oy.bx)|apply(Oy.bd)|apply(Oy.bs)|apply(Oy.mm)|apply(Oy.ms)|apply(Oy.lu)|apply(Oy.mf)|apply(Oy.sl)|apply(Oy.ln)|apply(Oy.ap)|apply(Oy.mi)|apply(Oy.ma)):aH P cfg f (⟨some d,op,none⟩::l) E H Q:=cA.go o h
theorem Ry.on{op:Op}(o:aH P cfg f l E H' Q)(h:∃v,cA P cfg f op E H v H':=by first|apply(Oy.st)|apply(Oy.mu)):aH P cfg f (⟨none,op,none⟩::l) E H Q:=Mm o h
def dG:=@Ry.on
theorem Ry.call{K:Option Nat}{c:Call}{g:Operand}{k:FuncId}{cap vs ar:List AV}(o:zk5 P cfg k ar H fun v H'=>aH P cfg f l (zk6 E K v) H' Q)(z:c.callee=.value g:=by rfl)(Z:zk4 E g=some (.clo k cap):=by exact eF)(Y:znk E c.args.toList=some vs:=by exact Mk)(J:vs++cap=ar:=by simp only[iw];first|done|exact rfl):aH P cfg f (⟨K,.call c,none⟩::l) E H Q:=aZ z Z Y (J▸o)
def d7:=@Ry.call
theorem Ry.gu{K:Option Nat}{op:Op}{s:Nat}{t:Bool}{v:AV}{R:Prop}(o:R)(h:some (E.at s)=some v:=by exact eF)(Z:v=zmx:=by with_reducible rfl)(e:aH P cfg f l (zk6 E K zmx) H Q=R:=by exact xg):aH P cfg f (⟨K,op,some (s,t)⟩::l) E H Q:=Li h Z (e▸o)
theorem Ry.gd{K:Option Nat}{op:Op}{s:Nat}{j t:Bool}{Z m Y o R:Prop}(h1:Z->Y->aH P cfg f (⟨K,op,none⟩::l) E H Q)(h2:m->o->R)(h:E.at s=.bool t:=by exact eF)(V:(t=j)=Z:=by(try simp only[znX,reduceCtorEq]);first|done|exact rfl)(U:(t=!j)=m:=by(try simp only[znX,reduceCtorEq]);first|done|exact rfl)(C:Z=Y:=by(try simp only[znY]);first|done|exact rfl)(O:m=o:=by(try simp only[znY]);first|done|exact rfl)(e:aH P cfg f l (zk6 E K zmx) H Q=R:=by exact xg):aH P cfg f (⟨K,op,some (s,j)⟩::l) E H Q:=aH.guard h (fun k=>h1 (V▸k) (C▸V▸k)) (fun k=>e▸h2 (U▸k) (O▸U▸k))
def eA:=@Ry.gd
theorem xj{K:Option Nat}{op:Op}{s:Nat}{j t:Bool}{V:List Rc}{Q:List Rc->aw->Hp->Prop}{Z m Y o R:Prop}(h1:Z->Y->eh P cfg f (⟨K,op,none⟩::l) V E H Q)(h2:m->o->R)(h:E.at s=.bool t:=by exact eF)(U:(t=j)=Z:=by(try simp only[znX,reduceCtorEq]);first|done|exact rfl)(O:(t=!j)=m:=by(try simp only[znX,reduceCtorEq]);first|done|exact rfl)(C:Z=Y:=by(try simp only[znY]);first|done|exact rfl)(M:m=o:=by(try simp only[znY]);first|done|exact rfl)(e:eh P cfg f l (V++[⟨op,false,E,H,zmx,H⟩]) (zk6 E K zmx) H Q=R:=by exact xg):eh P cfg f (⟨K,op,some (s,j)⟩::l) V E H Q:=eh.guard h (fun k=>h1 (U▸k) (C▸U▸k)) (fun k=>e▸h2 (O▸k) (M▸O▸k))
theorem Ry.cd{N:Nat}{V Y:SC}{Q:AX->aw->Hp->Prop}{t:Bool}{j m K o:Prop}(h1:j->K->zlt P cfg f N V E H Q)(h2:m->o->zlt P cfg f N Y E H Q)(O:zk4 E x=some (.bool t):=by exact eF)(Z:(t=true)=j:=by(try simp only[znX,reduceCtorEq]);first|done|exact rfl)(U:(t=false)=m:=by(try simp only[znX,reduceCtorEq]);first|done|exact rfl)(C:j=K:=by(try simp only[znY]);first|done|exact rfl)(M:m=o:=by(try simp only[znY]);first|done|exact rfl):zlt P cfg f N (.cond x V Y) E H Q:=zlt.cond O (fun k=>h1 (Z▸k) (C▸Z▸k)) (fun k=>h2 (U▸k) (M▸U▸k))
def bb:=@Ry.cd
theorem eE{p:Prop}(h:p:=by exact GW):p:=h
theorem zn2{p:Prop}(h:p:=by first|(simp only[zk1,zk7,tyF,Nat.reduceBEq,Nat.reduceAdd,Nat.reduceLeDiff, *];done)|rfl):p:=h
theorem eV{p:Prop}(h:p:=by((try simp only[zk1,Nat.reduceBEq, *]);first|done|with_reducible rfl)):p:=h
theorem zn1{p:Prop}(h:p:=by((try simp only[zk1,zk7,tyF,Nat.reduceBEq,Nat.reduceAdd,Nat.reduceLeDiff, *]);first|done|with_reducible rfl)):p:=h
theorem eR{p:Prop}(h:p:=by((try simp only[zk1,Nat.reduceBEq,zlX,zl1, *]);first|done|with_reducible rfl)):p:=h
theorem qQ{p:Prop}(h:p:=by((try simp only[zk1,zk7,tyF,Nat.reduceBEq,Nat.reduceAdd,Nat.reduceLeDiff,zlX,zl1, *]);first|done|with_reducible rfl)):p:=h
theorem bc{p:Prop}(h:p:=by((try simp only[zk1,Nat.reduceBEq, *,-hK]);first|done|with_reducible rfl)):p:=h
theorem bi{p:Prop}(h:p:=by((try simp only[zk1,Nat.reduceBEq,znk,CH, *,-hK]);first|done|with_reducible rfl)):p:=h
theorem eI{p:Prop}(h:p:=by first|exact .inl rfl|exact .inr rfl|exact .inl trivial|exact .inr trivial):p:=h
theorem zk8{p:Prop}(h:p:=by simp only[zlm,zlb,aR,zk1,zk7,tyF,Nat.reduceBEq,Nat.reduceAdd,Nat.reduceLeDiff, *]):p:=h
theorem zlF{p:Prop}(h:p:=by(try simp only[zk9,zli,zlI,bL,Nat.reduceAdd]);omega):p:=h
theorem zk3{N:Nat}{Q:AX->aw->Hp->Prop}{R:Prop}(h:R)(e:Q .normal E H=R:=by exact CF):zlt P cfg f N .skip E H Q:=zlt.skip (e▸h)
theorem Rx.rt{N:Nat}{Q:AX->aw->Hp->Prop}{R:Prop}(h:R)(e:Q .ret E H=R:=by exact CF):zlt P cfg f N .ret E H Q:=zlt.ret (e▸h)
def aF:=@Rx.rt
theorem zlu{N id:Nat}{Q:AX->aw->Hp->Prop}{R:Prop}(h:R)(e:Q (.exit id) E H=R:=by first|(simp only[lF,pR,reduceIte];first|done|exact rfl)|(dsimp only[];first|done|exact rfl)|exact rfl):zlt P cfg f N (.exit id) E H Q:=zlt.exit (e▸h)
theorem zlU{p:Prop}(h:p:=by(refine⟨?_,?_⟩<;>simp only[ly,lI,i8,xi,sR,GZ,Ct,zk9,zli,aB,j9,aR]<;>(repeat' apply ad)<;>first
 |(intro r hr;cases hr;done)
 |(refine WS (by simp only[ly,lI,i8,xi,sR,GZ];rfl) (fun hd=>?_)
   simp only[zu,ly,lI,i8,xi,sR,GZ]at hd⊢;first
   |(cases hd;done)
   |exact WM eV zn1
   |exact WN eV eV zn1
   |exact WO eV zn1
   |exact WP eV zn1
   |exact WQ eV (by simp only[lw];first|rfl|simp only[zk1,Nat.reduceBEq, *]) (by simp only[lw];first|rfl|simp only[zk1,Nat.reduceBEq, *]) zn1
   |exact WR rfl zn1 zn1)
 |exact aB _
 |assumption
 |omega)):p:=h
variable {N:Nat} {ops:List Oper} {Q2:AX -> aw -> Hp -> Prop}
theorem zmm(id:Nat)(need:List (Nat×Nat))(h:∀K:List Rc->aw->Hp->Prop,(∀V E' H',oO P cfg need V H'->Q2 .normal E' H'->K V E' H')->eh P cfg f l [] E H K)(Y:cfg.plan f id=.text:=by exact CG)(C:nJ ops=true:=by kernel_rfl)(U:zle N ops ops=some l:=by exact GX)(J:mz ops=need:=by kernel_rfl):zlt P cfg f N (.draw id ops) E H Q2:=WL Y C U J h
theorem Rx.dS{Z:aw}{Y:Hp}{l1 J:List SOp}(id p q:Nat)(ord:List Nat)(M O:List (Nat×Nat))(h1:eh P cfg f l1 [] E H fun U E' H'=>oO P cfg M U H'/\E'=Z/\H'=Y)(h2:eh P cfg f J [] E H fun U E' H'=>oO P cfg O U H'/\E'=Z/\H'=Y)(o:Q2 .normal Z Y)(V:cfg.plan f id=.split p q .text (.perm ord):=by exact CG)(K:Nat.beq p q=false:=by rfl)(I:nJ (eJ q p ops)=true:=by kernel_rfl)(C:zle N ops ops=some l1:=by exact GX)(zlQ:mz (eJ q p ops)=M:=by kernel_rfl)(z:vc ord (eJ p q ops)=true:=by kernel_rfl)(j:nJ (zmE ord (eJ p q ops))=true:=by kernel_rfl)(m:zle N (zmE ord ops) (zmE ord ops)=some J:=by exact GY)(n2:mz (zmE ord (eJ p q ops))=O:=by kernel_rfl):zlt P cfg f N (.draw id ops) E H Q2:=zvi V K I C zlQ z j m n2 h1 h2 o
theorem Rx.dP(id:Nat)(ord:List Nat)(need:List (Nat×Nat))(h:∀K:List Rc->aw->Hp->Prop,(∀V E' H',oO P cfg need V H'->Q2 .normal E' H'->K V E' H')->eh P cfg f l [] E H K)(Y:cfg.plan f id=.perm ord:=by exact CG)(C:vc ord ops=true:=by kernel_rfl)(Z:nJ (zmE ord ops)=true:=by kernel_rfl)(U:zle N (zmE ord ops) (zmE ord ops)=some l:=by exact GY)(J:mz (zmE ord ops)=need:=by kernel_rfl):zlt P cfg f N (.draw id ops) E H Q2:=LB Y C Z U J h
theorem rK(id:Nat)(h:∀K:aw->Hp->Prop,(∀E' H',Q2 .normal E' H'->K E' H')->aH P cfg f l E H K)(Y:cfg.plan f id=.text:=by exact CG)(C:Cp ops=true:=by kernel_rfl)(U:zle N ops ops=some l:=by exact GX):zlt P cfg f N (.draw id ops) E H Q2:=zlt.draw Y C U h
end
end Go.Proofs.YtpbcimfiofmoeaaGreat
namespace Go.Ab
set_option maxRecDepth 20000
open Go
def fJ(v:AV):Prop:=∃k,∀m,k<=m->∀H,iceV H m v=some v
def gw(l:List AV):Prop:=∀v∈l,fJ v
theorem gw.nil:gw []:=fun _ h=>lY
theorem gw.cons{v:AV}{l:List AV}(h:fJ v)(M:gw l):gw (v::l):=fun w O=>by
 rcases fX.1 O with rfl|O
 .exact h
 .exact M _ O
theorem gw.bound:∀{l:List AV},gw l->∃k,∀m,k<=m->∀H,iceL (iceV H m) l=some l
 |[],_=>⟨0,fun _ _ _=>rfl⟩
 |v::l,h=>by
  obtain⟨k1,Z⟩:=h v ee;obtain⟨Y,j⟩:=gw.bound (l:=l) fun w O=>h w (el _ O)
  exact⟨max k1 Y,fun m V H=>by simp only[iceL,Z m ac H,j m ac H]⟩
theorem Mn:∀{l:List (List AV)},(∀V∈l,gw V)->∃k,∀m,k<=m->∀H,tW (iceV H m) l=some l
 |[],_=>⟨0,fun _ _ _=>rfl⟩
 |v::l,h=>by
  obtain⟨k1,Z⟩:=(h v ee).bound;obtain⟨Y,j⟩:=Mn (l:=l) fun w O=>h w (el _ O)
  exact⟨max k1 Y,fun m U H=>by simp only[tW,Z m ac H,j m ac H]⟩
theorem fJ.one{v:AV}(h:∀m H,iceV H (m+1) v=some v):fJ v:=⟨1,fun m V H=>by
 obtain⟨m,rfl⟩:∃k,m=k+1:=⟨m-1,ac⟩;exact h m H⟩
theorem fJ.int(k:IntKind)(n:Int):fJ (.int k n):=.one fun _ _=>rfl
theorem fJ.bool(b:Bool):fJ (.bool b):=.one fun _ _=>rfl
theorem fJ.str(s:List UInt8):fJ (.str s):=.one fun _ _=>rfl
theorem fJ.nilS:fJ .nilS:=.one fun _ _=>rfl
theorem fJ.lst{l:List (List AV)}(h:∀V∈l,gw V):fJ (.lst l):=by
 obtain⟨k,o⟩:=Mn h;refine⟨k+1,fun m Z H=>?_⟩;obtain⟨m,rfl⟩:∃k,m=k+1:=⟨m-1,ac⟩;simp only[iceV,o m ac H]
theorem fJ.agg{l:List AV}(h:gw l):fJ (.agg l):=by
 obtain⟨k,o⟩:=h.bound;refine⟨k+1,fun m V H=>?_⟩;obtain⟨m,rfl⟩:∃k,m=k+1:=⟨m-1,ac⟩;simp only[iceV,o m ac H]
theorem fJ.tup{l:List AV}(h:gw l):fJ (.tup l):=by
 obtain⟨k,o⟩:=h.bound;refine⟨k+1,fun m V H=>?_⟩;obtain⟨m,rfl⟩:∃k,m=k+1:=⟨m-1,ac⟩;simp only[iceV,o m ac H]
theorem fJ.map{Z:Type}{l:List Z}{f:Z->List AV}(h:∀x∈l,gw (f x)):fJ (.lst (l.map f)):=.lst fun V hr=>by
 obtain⟨x,hx,rfl⟩:=kV.1 hr;exact h x hx
theorem Mo{M:List AV}(h:gw M):∃k,ss k M=true:=by
 obtain⟨k,o⟩:=h.bound;exact⟨k,by unfold ss;rw[o k (aB _) zlv];exact jZ M⟩
theorem Mp{P:Program}{cfg:Cfg}(fit:Fit P){ρ:Nat->Int}(J:oE cfg.dec ρ)(z:∀f M r,cfg.call f M=some r->bM P ρ f M r){g:FuncId}{M:List AV}{r:AV}
 (C:gw M) (hr:fJ r) (h:zk5 P cfg g M zlv fun v _=>v=r):bM P ρ g M r:=by
 obtain⟨k,o⟩:=Mo C;obtain⟨m,V⟩:=hr;exact Lk (m:=m) fit J z o (aS (fun v H' e=>by rw[e];exact V m (aB _) H') h)
theorem vH{P:Program}{cfg:Cfg}(fit:Fit P){ρ:Nat->Int}(J:oE cfg.dec ρ)(z:∀f M r,cfg.call f M=some r->bM P ρ f M r){g:FuncId}{M:List AV}{r:AV}{m:Nat}
 (C:gw M) (h:zk5 P cfg g M zlv fun v H'=>iceV H' m v=some r):bM P ρ g M r:=by
 obtain⟨k,o⟩:=Mo C;exact Lk (m:=m) fit J z o h
structure En where
 f:FuncId
 ice:Bool
 sp:List AV->Option AV
def zme:List En->FuncId->List AV->Option AV
 |[],_,_=>none
 |e::l,f,args=>match Nat.beq e.f f with
  |true=>e.sp args
  |false=>zme l f args
def jb:List En->FuncId->Bool
 |[],_=>false
 |e::l,f=>match Nat.beq e.f f with
  |true=>e.ice
  |false=>jb l f
noncomputable def zkY(pls:List (Nat×Nat×Plan))(l:List En):Cfg:={keep:=fun _=>false,call:=zme l,ice:=jb l,plan:=zl pls}
def zl0(P:Program)(ρ:Nat->Int)(e:En):Prop:=∀M r,e.sp M=some r->bM P ρ e.f M r
def fK(P:Program)(ρ:Nat->Int):List En->Prop
 |[]=>True
 |e::l=>zl0 P ρ e/\fK P ρ l
theorem fK.look{P:Program}{ρ:Nat->Int}:∀{l:List En},fK P ρ l->∀f M r,zme l f M=some r->bM P ρ f M r
 |[],_,_,_,_,h=>by simp[zme]at h
 |e::l,hl,f,M,r,h=>by
  simp only[zme]at h;split at h
  .rename_i K;rw[<-jk K];exact hl.1 M r h
  .exact fK.look hl.2 f M r h
noncomputable def b7{Z:Type}(ok:Z->Prop)(enc:Z->List AV)(out:Z->AV)(M:List AV):Option AV:=open Classical in
 if h:∃x,ok x/\enc x=M then some (out (Classical.choose h))else none
theorem CJ{Z:Type}{ok:Z->Prop}{enc:Z->List AV}{out:Z->AV}(V:∀x y,enc x=enc y->x=y){x:Z}(o:ok x):b7 ok enc out (enc x)=some (out x):=by
 unfold b7;have h:∃y,ok y/\enc y=enc x:=⟨x,o,rfl⟩;rw[dif_pos h];rw[V _ _ (G3 h).2]
theorem G4{Z:Type}{ok:Z->Prop}{enc:Z->List AV}{out:Z->AV}{M:List AV}(h:∀x,ok x->enc x≠M):b7 ok enc out M=none:=by
 unfold b7;rw[dif_neg];rintro⟨x,hx,e⟩;exact h x hx e
theorem zl7{P:Program}{ρ:Nat->Int}{Z:Type}{ok:Z->Prop}{f:FuncId}{ice:Bool}{enc:Z->List AV}{out:Z->AV}(h:∀x,ok x->bM P ρ f (enc x) (out x)):zl0 P ρ ⟨f,ice,b7 ok enc out⟩:=fun M r hr=>by
 change b7 ok enc out M=some r at hr;unfold b7 at hr;split at hr
 .rename_i hx;simp only[aL]at hr;subst hr;have:=h (Classical.choose hx) (G3 hx).1;rw[(G3 hx).2]at this;exact this
 .simp at hr
attribute [irreducible] b7
theorem G5{P:Program}{cfg:Cfg}{g:FuncId}{M:List AV}{r:AV}{H:Hp}(h:cfg.call g M=some r):zk5 P cfg g M H fun v H'=>v=r/\H'=H:=VK h ⟨rfl,rfl⟩
theorem zlM{P:Program}{pls:List (Nat×Nat×Plan)}{l:List En}{Z:Type}{ok:Z->Prop}{enc:Z->List AV}{out:Z->AV}(V:∀x y,enc x=enc y->x=y){g:FuncId}{x:Z}(M:zme l g (enc x)=b7 ok enc out (enc x))(o:ok x){H:Hp}:
 zk5 P (zkY pls l) g (enc x) H fun v H'=>v=out x/\H'=H:=G5 (by show zme l g (enc x)=_;rw[M];exact CJ V o)
theorem CK{P:Program}{pls:List (Nat×Nat×Plan)}{l:List En}{Z:Type}{ok:Z->Prop}{enc:Z->List AV}{out:Z->AV}(V:∀x y,enc x=enc y->x=y){g:FuncId}{x:Z}(Y:∀I,zme l g I=b7 ok enc out I)(U:jb l g=true)(o:ok x){M:List AV}{H H':Hp}
 (J:∀y,ok y->enc y≠M) (O:gO (fh 100) M H=some (enc x,H')) :
 zk5 P (zkY pls l) g M H fun v K=>v=out x/\K=H':=Lj (by show zme l g M=none;rw[Y];exact G4 J) U rfl O (by show zme l g (enc x)=_;rw[Y];exact CJ V o) ⟨rfl,rfl⟩
theorem vI{P:Program}{ρ:Nat->Int}(fit:Fit P){pls:List (Nat×Nat×Plan)}{l:List En}(V:fK P ρ l){Z:Type}(sz:Z->Nat){f:FuncId}{ok:Z->Prop}{enc:Z->List AV}{out:Z->AV}
 (C:∀x,ok x->gw (enc x)) (hr:∀x,ok x->fJ (out x))
 (h:∀x,ok x->zk5 P (zkY pls (⟨f,false,b7 (fun y=>ok y/\sz y<sz x) enc out⟩::l)) f (enc x) zlv fun v _=>v=out x):∀x,ok x->bM P ρ f (enc x) (out x):=by
 have Y:∀n x,sz x<n->ok x->bM P ρ f (enc x) (out x):=by
  intro n;induction n with
  |zero=>intro x hx;omega
  |succ n ih=>
   intro x hx z;exact Mp (cfg:=zkY pls (⟨f,false,b7 (fun y=>ok y/\sz y<sz x) enc out⟩::l)) fit (pP ρ) (fun g M r K=>fK.look (l:=⟨f,false,b7 (fun y=>ok y/\sz y<sz x) enc out⟩::l) ⟨zl7 fun y hy=>ih y ac hy.1,V⟩ g M r K) (C x z) (hr x z) (h x z)
 exact fun x=>Y (sz x+1) x (cE _)
theorem zmy{P:Program}{ρ:Nat->Int}(fit:Fit P){pls:List (Nat×Nat×Plan)}{l:List En}(Z:fK P ρ l){f:FuncId}{M:List AV}{r:AV}(C:gw M)(hr:fJ r)(h:zk5 P (zkY pls l) f M zlv fun v _=>v=r):bM P ρ f M r:=
 Mp fit (pP ρ) (fun g I r K=>fK.look Z g I r K) C hr h
abbrev bE(n:Int):Int:=IntKind.wrap .i64 n
section
variable (q:Ex -> Int -> Bool)
mutual
def m1:Ex->Int->Bool
 | .mk k n s o M,d=>q (.mk k n s o M) d&&jx M (bE (d+1))
def jx:List Ex->Int->Bool
 |[],_=>true
 |e::es,d=>m1 e d&&jx es d
end
theorem G6(e:Ex)(d:Int):m1 q e d=(q e d&&jx q e.kids (bE (d+1))):=by
 cases e;simp only[m1,Ex.kids]
theorem CL{l:List Ex}{i:Nat}(h:i<l.length)(d:Int):jx q (l.drop i) d=(m1 q l[i] d&&jx q (l.drop (i+1)) d):=by
 rw[fS h,jx]
end
section
variable {σ:Type} (q:St -> Int -> σ -> Bool × σ)
mutual
def lK:St->Int->σ->Bool×σ
 | .mk k Z Y n a v M j m,d,s=>match q (.mk k Z Y n a v M j m) d s with
   |(false,s)=>(false,s)
   |(true,s)=>match zmG j (bE (d+1)) s with
    |(false,s)=>(false,s)
    |(true,s)=>zmG m (bE (d+1)) s
def zmG:List St->Int->σ->Bool×σ
 |[],_,s=>(true,s)
 |x::l,d,s=>match lK x d s with
  |(false,s)=>(false,s)
  |(true,s)=>zmG l d s
end
theorem zvj(x:St)(d:Int)(s:σ):lK q x d s=match q x d s with
 |(false,s)=>(false,s)
 |(true,s)=>match zmG q x.thn (bE (d+1)) s with
  |(false,s)=>(false,s)
  |(true,s)=>zmG q x.els (bE (d+1)) s:=by
 cases x;simp only[lK,St.thn,St.els]
theorem zqu{l:List St}{i:Nat}(h:i<l.length)(d:Int)(s:σ):zmG q (l.drop i) d s=match lK q l[i] d s with
 |(false,s)=>(false,s)
 |(true,s)=>zmG q (l.drop (i+1)) d s:=by
 rw[fS h,zmG]
end
mutual
def Ex.sz:Ex->Nat
 | .mk _ _ s _ M=>1+s.length+zlZ M
def zlZ:List Ex->Nat
 |[]=>0
 |e::es=>1+e.sz+zlZ es
end
mutual
def St.sz:St->Nat
 | .mk _ Z Y _ a v M j m=>1+Z.length+Y.length+a.sz+v.sz+zlZ M+zld j+zld m
def zld:List St->Nat
 |[]=>0
 |x::l=>1+x.sz+zld l
end
def zmd:List (List UInt8)->Nat
 |[]=>0
 |s::l=>1+s.length+zmd l
def Fu.sz(f:Fu):Nat:=1+f.name.length+zmd f.params+zmd f.locals+zld f.body+f.value.sz
def zmv:List Fu->Nat
 |[]=>0
 |f::l=>1+f.sz+zmv l
def zmL:List Ar->Nat
 |[]=>0
 |a::l=>1+a.name.length+zmL l
def Pr.sz(p:Pr):Nat:=1+zmL p.arrays+zmv p.funcs
theorem znJ:∀l:List Ex,l.length<=zlZ l
 |[]=>aB _
 |e::es=>by have:=znJ es;simp only[eK,zlZ];omega
theorem znP:∀l:List St,l.length<=zld l
 |[]=>aB _
 |e::es=>by have:=znP es;simp only[eK,zld];omega
theorem zno:∀l:List (List UInt8),l.length<=zmd l
 |[]=>aB _
 |e::es=>by have:=zno es;simp only[eK,zmd];omega
theorem znQ:∀l:List Fu,l.length<=zmv l
 |[]=>aB _
 |e::es=>by have:=znQ es;simp only[eK,zmv];omega
theorem znR:∀l:List Ar,l.length<=zmL l
 |[]=>aB _
 |e::es=>by have:=znR es;simp only[eK,zmL];omega
theorem znK:∀{l:List Ex}{x:Ex},x∈l->x.sz<zlZ l
 |[],_,h=>by simp at h
 |e::es,x,h=>by
  rcases fX.1 h with rfl|h
  .simp only[zlZ];omega
  .have:=znK h;simp only[zlZ];omega
theorem znL:∀{l:List St}{x:St},x∈l->x.sz<zld l
 |[],_,h=>by simp at h
 |e::es,x,h=>by
  rcases fX.1 h with rfl|h
  .simp only[zld];omega
  .have:=znL h;simp only[zld];omega
theorem CM:∀{l:List (List UInt8)}{x:List UInt8},x∈l->x.length<zmd l
 |[],_,h=>by simp at h
 |e::es,x,h=>by
  rcases fX.1 h with rfl|h
  .simp only[zmd];omega
  .have:=CM h;simp only[zmd];omega
theorem pV:∀{l:List Fu}{x:Fu},x∈l->x.sz<zmv l
 |[],_,h=>by simp at h
 |e::es,x,h=>by
  rcases fX.1 h with rfl|h
  .simp only[zmv];omega
  .have:=pV h;simp only[zmv];omega
theorem Ex.sz_eq(e:Ex):e.sz=1+e.name.length+zlZ e.kids:=by cases e;simp only[Ex.sz,Ex.name,Ex.kids]
theorem St.sz_eq(x:St):x.sz=1+x.name.length+x.to.length+x.at_.sz+x.value.sz+zlZ x.args+zld x.thn+zld x.els:=by cases x;simp only[St.sz,St.name,St.to,St.at_,St.value,St.args,St.thn,St.els]
structure FrB (base:Nat) (H H':Hp):Prop where
 next:H.next<=H'.next
 get:∀r,base<=r->r<H.next->H'.get r=H.get r
theorem FrB.refl(base:Nat)(H:Hp):FrB base H H:=⟨aB _,fun _ _ _=>rfl⟩
def jy:=@FrB.refl
theorem FrB.trans{base:Nat}{a b c:Hp}(h:FrB base a b)(k:FrB base b c):FrB base a c:=⟨dc h.next k.next,fun r m j=>(k.get r m (mB j h.next)).trans (h.get r m j)⟩
theorem FrB.alloc{base:Nat}{a b:Hp}(h:FrB base a b)(x:HB):FrB base a (b.alloc x):=⟨dc h.next (dQ _),fun r m j=>by
 have:=h.next
 rw[zkZ,af ac];exact h.get r m j⟩
theorem FrB.set{base r:Nat}{a b:Hp}(h:FrB base a b)(hr:a.next<=r\/r<base)(x:HB):FrB base a (b.set r x):=⟨h.next,fun k m j=>by
 rw[aJ,af ac];exact h.get k m j⟩
def jc(base:Nat)(H H':Hp):Prop:=∀r,r<base->H'.get r=H.get r
theorem jc.refl(base:Nat)(H:Hp):jc base H H:=fun _ _=>rfl
def qR:=@jc.refl
theorem jc.trans{base:Nat}{a b c:Hp}(h:jc base a b)(k:jc base b c):jc base a c:=fun r hr=>(k r hr).trans (h r hr)
theorem jc.alloc{base:Nat}{a b:Hp}(h:jc base a b)(C:base<=b.next)(x:HB):jc base a (b.alloc x):=fun r hr=>by rw[zkZ,af ac];exact h r hr
theorem jc.set{base r:Nat}{a b:Hp}(h:jc base a b)(hr:base<=r)(x:HB):jc base a (b.set r x):=fun k o=>by rw[aJ,af ac];exact h k o
theorem FrB.weak{base Z:Nat}(h:base<=Z){a b:Hp}(k:FrB base a b):FrB Z a b:=⟨k.next,fun r m j=>k.get r (dc h m) j⟩
theorem jc.weak{base Z:Nat}(h:base<=Z){a b:Hp}(k:jc Z a b):jc base a b:=fun r hr=>k r (mB hr h)
def oW(x:St)(d:Int)(s:Int×Int):Bool×(Int×Int):=
 let n:=bE (s.1+1)
 let l:=if x.kind=4 then bE (s.2+1)else s.2
 (decide (d<=20)&&decide (n<=200)&&decide (l<=16),(n,l))
def sT(_:Ex)(d:Int):Bool:=decide (d<=20)
def pW(q:Ex->Int->Bool)(x:St)(_:Int)(s:Unit):Bool×Unit:=(m1 q x.at_ 0&&m1 q x.value 0&&jx q x.args 0,s)
def pX(q:Ex->Int->Bool)(f:Fu):Bool:=m1 q f.value 0&&(zmG (pW q) f.body 0 ()).1
def kB(f:Fu):Bool:=decide ((f.params.length:Int)<=6)&&decide ((f.locals.length:Int)<=8)&&(zmG oW f.body 0 (0,0)).1&&pX sT f
def md(p:Pr):Bool:=!decide (4<(p.arrays.length:Int)) && !decide (8<(p.funcs.length:Int))&&p.arrays.all (fun a=>!decide (a.len<1) && !decide (16<a.len))&&p.funcs.all kB
theorem Ex.pure(x:Ex):gw x.cells:=by
 have M:∀n (x:Ex),x.sz<n->gw x.cells:=by
  intro n;induction n with
  |zero=>intro x h;omega
  |succ n ih=>
   intro x h;rw[mc];refine .cons (.int _ _) (.cons (.int _ _) (.cons (.str _) (.cons (.int _ _) (.cons (.map fun y hy=>ih y ?_) .nil))));have:=znK hy;have:=x.sz_eq;omega
 exact M _ x (cE _)
theorem zE(l:List Ex):fJ (.lst (l.map Ex.cells)):=.map fun x _=>x.pure
theorem St.pure(x:St):gw x.cells:=by
 have M:∀n (x:St),x.sz<n->gw x.cells:=by
  intro n;induction n with
  |zero=>intro x h;omega
  |succ n ih=>
   intro x h;rw[oP];have:=x.sz_eq;refine .cons (.int _ _) (.cons (.str _) (.cons (.str _) (.cons (.int _ _) (.cons (.int _ _) (.cons (.int _ _) (.cons (.str _) (.cons (.int _ _) (.cons (zE _) (.cons (.int _ _) (.cons (.int _ _) (.cons (.str _) (.cons (.int _ _) (.cons (zE _) (.cons (zE _) (.cons (.map fun y hy=>ih y ?_) (.cons (.map fun y hy=>ih y ?_) .nil))))))))))))))))
   .have:=znL hy;omega
   .have:=znL hy;omega
 exact M _ x (cE _)
theorem xl(l:List St):fJ (.lst (l.map St.cells)):=.map fun x _=>x.pure
theorem ug(l:List (List UInt8)):fJ (zlY l):=.map fun x _=>.cons (.str _) .nil
theorem Fu.pure(x:Fu):gw x.cells:=by
 rw[zy];exact .cons (.str _) (.cons (ug _) (.cons (ug _) (.cons (xl _) (.cons (.int _ _) (.cons (.int _ _) (.cons (.str _) (.cons (.int _ _) (.cons (zE _) .nil))))))))
theorem Ar.pure(x:Ar):gw x.cells:=.cons (.str _) (.cons (.int _ _) .nil)
theorem Pr.pure(x:Pr):gw x.cells:=.cons (.map fun x _=>x.pure) (.cons (.map fun x _=>x.pure) .nil)
theorem ng{Z β:Type}{f:Z->β}:∀{a b:List Z},(∀x∈a,∀y,f x=f y->x=y)->a.map f=b.map f->a=b
 |[],[],_,_=>rfl
 |[],_::_,_,h=>by simp at h
 |_::_,[],_,h=>by simp at h
 |x::a,y::b,hf,h=>by
  simp only[dM,ea]at h;rw[hf x ee y h.1,ng (fun z J=>hf z (el _ J)) h.2]
theorem Ex.ext'{x y:Ex}(Z:x.kind=y.kind)(h1:x.n=y.n)(h2:x.name=y.name)(z:x.op=y.op)(Y:x.kids=y.kids):x=y:=by
 cases x;cases y;simp only[Ex.kind,Ex.n,Ex.name,Ex.op,Ex.kids]at *;simp[*]
theorem Ex.inj{x y:Ex}(h:x.cells=y.cells):x=y:=by
 have M:∀n (x:Ex),x.sz<n->∀y,x.cells=y.cells->x=y:=by
  intro n;induction n with
  |zero=>intro x h;omega
  |succ n ih=>
   intro x h y e;rw[mc,mc]at e;simp only[ea,AV.int.injEq,AV.str.injEq,AV.lst.injEq,j9,aR]at e;obtain⟨Z,m,U,C,Y⟩:=e;refine Ex.ext' Z m U C (ng (fun z J=>ih z ?_) Y);have:=znK J;have:=x.sz_eq;omega
 exact M _ x (cE _) y h
theorem CN{a b:List Ex}(h:a.map Ex.cells=b.map Ex.cells):a=b:=ng (fun _ _ _=>Ex.inj) h
theorem St.ext'{x y:St}(Z:x.kind=y.kind)(h1:x.name=y.name)(h2:x.to=y.to)(z:x.n=y.n)(Y:x.at_=y.at_)(V:x.value=y.value)(U:x.args=y.args)(K:x.thn=y.thn)(o:x.els=y.els):x=y:=by
 cases x;cases y;simp only[St.kind,St.name,St.to,St.n,St.at_,St.value,St.args,St.thn,St.els]at *;simp[*]
theorem St.inj{x y:St}(h:x.cells=y.cells):x=y:=by
 have M:∀n (x:St),x.sz<n->∀y,x.cells=y.cells->x=y:=by
  intro n;induction n with
  |zero=>intro x h;omega
  |succ n ih=>
   intro x h y e;have hs:=x.sz_eq;rw[oP,oP]at e;simp only[ea,AV.int.injEq,AV.str.injEq,AV.lst.injEq,j9,aR]at e;obtain⟨Z,m,U,C,znw,Y,V,j,K,O,I,o,b3,b4,e6,e7,e8⟩:=e;refine St.ext' Z m U C (Ex.ext' znw Y V j (CN K)) (Ex.ext' O I o b3 (CN b4)) (CN e6) (ng (fun z J=>ih z ?_) e7) (ng (fun z J=>ih z ?_) e8)
   .have:=znL J;omega
   .have:=znL J;omega
 exact M _ x (cE _) y h
theorem CO{a b:List St}(h:a.map St.cells=b.map St.cells):a=b:=ng (fun _ _ _=>St.inj) h
theorem vJ{a b:List (List UInt8)}(h:(a.map fun s=>[AV.str s])=b.map fun s=>[AV.str s]):a=b:=ng (fun x _ y e=>zB) h
theorem Fu.inj{x y:Fu}(h:x.cells=y.cells):x=y:=by
 obtain⟨n,p,l,b,v⟩:=x;obtain⟨V,O,I,b',o⟩:=y;rw[zy,zy]at h;simp only[ea,AV.int.injEq,AV.str.injEq,AV.lst.injEq,j9,aR]at h;obtain⟨z,m,U,C,Z,M,Y,J,K⟩:=h;rw[z,vJ m,vJ U,CO C,Ex.ext' Z M Y J (CN K)]
theorem Ar.inj{x y:Ar}(h:x.cells=y.cells):x=y:=by
 obtain⟨n,p⟩:=x;obtain⟨Z,J⟩:=y;simp only[Ar.cells,ea,AV.int.injEq,AV.str.injEq,j9,aR]at h;rw[h.1,h.2]
theorem Pr.inj{x y:Pr}(h:x.cells=y.cells):x=y:=by
 obtain⟨n,p⟩:=x;obtain⟨Z,J⟩:=y;simp only[Pr.cells,ea,AV.lst.injEq,aR]at h;rw[ng (fun _ _ _=>Ar.inj) h.1,ng (fun _ _ _=>Fu.inj) h.2]
theorem zF(l:List Int):fJ (gI l):=.map fun x _=>.cons (.int _ _) .nil
theorem Nd.pure(x:Nd):gw x.cells:=.cons (.int _ _) (.cons (.int _ _) (.cons (zF _) .nil))
theorem Gr.pure(x:Gr):gw x.cells:=.cons (.str _) (.cons (.int _ _) (.cons (.map fun y _=>y.pure) (.cons (.int _ _) (.cons (.int _ _) .nil))))
theorem Un.pure(x:Un):gw x.cells:=.cons (.map fun y _=>y.pure) (.cons (.map fun y _=>y.pure) .nil)
theorem Mq{a b:List Int}(h:(a.map fun n=>[AV.int .i64 n])=b.map fun n=>[AV.int .i64 n]):a=b:=ng (fun x _ y e=>zB) h
theorem Nd.inj{x y:Nd}(h:x.cells=y.cells):x=y:=by
 obtain⟨n,p,k⟩:=x;obtain⟨Z,J,k'⟩:=y;simp only[Nd.cells,ea,AV.int.injEq,AV.lst.injEq,j9,aR]at h;rw[h.1,h.2.1,Mq h.2.2]
def xm:=@Nd.inj
theorem Gr.inj{x y:Gr}(h:x.cells=y.cells):x=y:=by
 obtain⟨n,p,l,v,s⟩:=x;obtain⟨V,J,U,o,O⟩:=y;simp only[Gr.cells,ea,AV.int.injEq,AV.str.injEq,AV.lst.injEq,j9,aR]at h;obtain⟨m,j,z,Y,Z⟩:=h;rw[m,j,ng (fun _ _ _=>xm) z,Y,Z]
theorem Un.inj{x y:Un}(h:x.cells=y.cells):x=y:=by
 obtain⟨n,p⟩:=x;obtain⟨Z,J⟩:=y;simp only[Un.cells,ea,AV.lst.injEq,aR]at h;rw[ng (fun _ _ _=>Ar.inj) h.1,ng (fun _ _ _=>Gr.inj) h.2]
def pY(n:Int):Bool:=(decide (97<=n)&&decide (n<=122))||(decide (65<=n)&&decide (n<=90))||decide (n=95)
def nT(n:Int):Bool:=decide (48<=n)&&decide (n<=57)
def lL(b:UInt8):Bool:=pY b.toNat||nT b.toNat
def zmP:List UInt8->Nat
 |[]=>0
 |b::s=>if lL b then zmP s+1 else 0
theorem Mr:∀s:List UInt8,zmP s<=s.length
 |[]=>aB _
 |b::s=>by have:=Mr s;simp only[zmP,eK];split<;>omega
def kC:List UInt8->Nat
 |[]=>0
 |b::s=>if b.toNat=10 then 0 else kC s+1
theorem Ms:∀s:List UInt8,kC s<=s.length
 |[]=>aB _
 |b::s=>by have:=Ms s;simp only[kC,eK];split<;>omega
def kX(b:UInt8):Bool:=decide (b.toNat=32)||decide (b.toNat=9)||decide (b.toNat=10)||decide (b.toNat=13)
def zmT:Bool->List UInt8->Nat
 |_,[]=>0
 |true,b::s=>if b.toNat=10 then (if kX b then zmT false s+1 else 0)else zmT true s+1
 |false,b::s=>if kX b then zmT false s+1 else if b.toNat=35 then zmT true s+1 else 0
theorem Mt:∀s:List UInt8,zmT true s=kC s+zmT false (s.drop (kC s))
 |[]=>rfl
 |b::s=>by
  simp only[zmT,kC];by_cases h:b.toNat=10
  .have C:kX b=true:=by unfold kX;simp[h]
   simp[h,C,zmT]
  .simp only[h,dL,zC,Mt s];omega
theorem xn:∀(c:Bool) (s:List UInt8),zmT c s<=s.length
 |c,[]=>by cases c<;>exact aB _
 |true,b::s=>by have m:=xn true s;have j:=xn false s;simp only[zmT,eK];split<;>(try split)<;>omega
 |false,b::s=>by have m:=xn true s;have j:=xn false s;simp only[zmT,eK];split<;>(try split)<;>omega
def Mu(s:List UInt8)(k:Tk)(e:Int):Prop:=
 k.at_=0/\(e=0->∃n,1<=n/\n<=s.length/\k.text=s.take n/\(k.kind=1->n=zmP s/\n<=16/\∀b,s[0]?=some b->nT b.toNat=false)) /\
 (1<=zmP s->zmP s<=16->(∀b,s[0]?=some b->nT b.toNat=false)->e=0/\k=⟨1,s.take (zmP s),0⟩)
def uh(s:List UInt8):Prop:=1<=zmP s/\zmP s=s.length/\s.length<=16/\∀b,s[0]?=some b->nT b.toNat=false
def CP(s:List UInt8)(I:List Tk):Prop:=∀k V,I=k::V->∃k0,Mu (s.drop (zmT false s)) k0 0/\k.kind=k0.kind/\k.text=k0.text
def xo(lo:Nat)(H:Hp)(m:AV)(I:List Tk):Prop:=(I=[]/\m=.nilS)\/∃r,m=.sl r 0 I.length 3/\H.get r=some (.cells (I.flatMap Tk.cells) 0 true)/\lo<r/\r<H.next/\I≠[]
theorem zqv{s:List UInt8}(h:uh s):zmT false s=0:=by
 obtain⟨m,V,z,Y⟩:=h;cases s with
 |nil=>rfl
 |cons b s=>
  have hd:=Y b rfl;simp only[zmP]at m;have O:lL b=true:=by
   cases Z:lL b with
   |true=>rfl
   |false=>rw[Z]at m;simp at m
  simp only[lL,hd,iu]at O;have C:kX b=false:=by
   unfold kX;simp only[pY,pN,lW]at O;simp;omega
  have j:¬b.toNat=35:=by
   simp only[pY,pN,lW]at O;omega
  simp only[zmT,C,dE,dL,j]
theorem Mv:∀ts:List Tk,(ts.flatMap Tk.cells).length=ts.length*3
 |[]=>rfl
 |t::ts=>by rw[uf,fj,Mv ts,Tk.clen,eK];omega
theorem FrB.kill{base r:Nat}{a b:Hp}(h:FrB base a b)(hr:a.next<=r):FrB base a (b.kill r):=⟨h.next,fun k m j=>by
 rw[znf,af ac];exact h.get k m j⟩
def mg(s:List UInt8):Bool:=decide (1<=zmP s)&&decide (zmP s=s.length)&&decide (s.length<=16)&&(match s with|b::_=>!nT b.toNat|[]=>true)
theorem CQ(s:List UInt8):mg s=true↔uh s:=by
 unfold mg uh;cases s with
 |nil=>simp[zmP]
 |cons b s=>simp[and_assoc]
def ui(s:List UInt8):Bool:=decide (s=[97,114,114,97,121])||decide (s=[102,117,110,99])||decide (s=[118,97,114])||decide (s=[114,101,116,117,114,110])||decide (s=[105,102])||decide (s=[101,108,115,101])||decide (s=[119,104,105,108,101])||decide (s=[111,117,116])||decide (s=[116,114,97,112])
def zl8(s:List UInt8):Bool:=mg s && !ui s
theorem zzE{s:List UInt8}{k:Tk}{V:List Tk}(h:CP s (k::V))(o:k.kind=1)(Z:k.text=s):uh s:=by
 obtain⟨k0,m,Y,z⟩:=h k V rfl;obtain⟨n,zlQ,U,C,O⟩:=m.2.1 rfl;obtain⟨M,J,I⟩:=O (by rw[<-Y];exact o);rw[<-z,Z]at C;have K:=jm List.length C;rw[j6,lA]at K;rw[lA]at U;have j:zmT false s=0:=ac;rw[j,fH]at M I;have hn:n=s.length:=ac;exact⟨ac,ac,ac,I⟩
end Go.Ab
