/- Parts: Rules, AbPure, Spec4, TreeP, Lex. -/
import Derived.Test.YtpbcimfiofmoeaaGreatPCF
set_option linter.unusedSimpArgs false
set_option linter.unusedVariables false
set_option linter.unusedSectionVars false
set_option linter.defProp false
set_option maxHeartbeats 32000000
namespace Go.Ab
set_option maxRecDepth 20000
open Go
theorem Ae{P:Prop}(h:P:=by first|(dsimp only[nE,sc];first|done|exact rfl)|(dsimp only[];first|done|exact rfl)|exact rfl):P:=h
theorem u7{P:Prop}(h:P:=by first|(dsimp only[zfp];first|done|exact rfl)|exact rfl):P:=h
theorem ea{P:Prop}(h:P:=by ((first|simp only[zfo,Nat.reduceBEq,ne_eq,not_false_eq_true, *,-hK]|simp only[zfo,Nat.reduceBEq,ne_eq,not_false_eq_true, *]|skip);first|done|with_reducible rfl)):P:=h
theorem jz{P:Prop}(h:P:=by ((first|simp only[zfo,zfv,tyF,Nat.reduceBEq,Nat.reduceAdd,Nat.reduceLeDiff,ne_eq,not_false_eq_true, *,-hK]|simp only[zfo,zfv,tyF,Nat.reduceBEq,Nat.reduceAdd,Nat.reduceLeDiff,ne_eq,not_false_eq_true, *]|skip);first|done|with_reducible rfl)):P:=h
theorem u9{P:Prop}(h:P:=by ((try simp only[zfw,zfI,zgj,Nat.add_assoc,Nat.reduceAdd,Nat.zero_add]);with_reducible rfl)):P:=h
theorem IN{P:Prop}(h:P:=by ((first|simp only[zfo,Nat.reduceBEq,zhF,ne_eq,not_false_eq_true, *,-hK]|simp only[zfo,Nat.reduceBEq,zhF,ne_eq,not_false_eq_true, *]|skip);first|done|with_reducible rfl)):P:=h
theorem IP{P:Prop}(h:P:=by ((first|simp only[zfo,Nat.reduceBEq,zhq,List.cons_append,List.nil_append,ne_eq,not_false_eq_true, *,-hK]|simp only[zfo,Nat.reduceBEq,zhq,List.cons_append,List.nil_append,ne_eq,not_false_eq_true, *]|skip);first|done|with_reducible rfl)):P:=h
theorem IQ{P:Prop}(h:P:=by ((first|simp only[zfo,Nat.reduceBEq,jW,ne_eq,not_false_eq_true, *,-hK]|simp only[zfo,Nat.reduceBEq,jW,ne_eq,not_false_eq_true, *]|skip);first|done|with_reducible rfl)):P:=h
theorem d9{P:Prop}(h:P:=by ((first|simp only[zfo,Nat.reduceBEq,ne_eq,not_false_eq_true,decide_true,decide_false,Int.reduceEq,Int.reduceLE,Int.reduceToNat,Nat.mul_one, *,-hK]|simp only[zfo,Nat.reduceBEq,ne_eq,not_false_eq_true,decide_true,decide_false,Int.reduceEq,Int.reduceLE,Int.reduceToNat,Nat.mul_one, *]|skip);first|done|with_reducible rfl)):P:=h
theorem jA{P:Prop}(h:P:=by ((first|simp only[zfo,zfv,tyF,Nat.reduceBEq,Nat.reduceAdd,Nat.reduceLeDiff,ne_eq,not_false_eq_true,decide_true,decide_false,Int.reduceEq,Int.reduceLE,Int.reduceToNat,Nat.mul_one, *,-hK]|simp only[zfo,zfv,tyF,Nat.reduceBEq,Nat.reduceAdd,Nat.reduceLeDiff,ne_eq,not_false_eq_true,decide_true,decide_false,Int.reduceEq,Int.reduceLE,Int.reduceToNat,Nat.mul_one, *]|skip);first|done|with_reducible rfl)):P:=h
theorem IR{P:Prop}(h:P:=by ((first|simp only[zfo,Nat.reduceBEq,zhF,ne_eq,not_false_eq_true,decide_true,decide_false,Int.reduceEq,Int.reduceLE,Int.reduceToNat,Nat.mul_one, *,-hK]|simp only[zfo,Nat.reduceBEq,zhF,ne_eq,not_false_eq_true,decide_true,decide_false,Int.reduceEq,Int.reduceLE,Int.reduceToNat,Nat.mul_one, *]|skip);first|done|with_reducible rfl)):P:=h
theorem IT{P:Prop}(h:P:=by ((first|simp only[zfo,Nat.reduceBEq,zhq,List.cons_append,List.nil_append,ne_eq,not_false_eq_true,decide_true,decide_false,Int.reduceEq,Int.reduceLE,Int.reduceToNat,Nat.mul_one, *,-hK]|simp only[zfo,Nat.reduceBEq,zhq,List.cons_append,List.nil_append,ne_eq,not_false_eq_true,decide_true,decide_false,Int.reduceEq,Int.reduceLE,Int.reduceToNat,Nat.mul_one, *]|skip);first|done|with_reducible rfl)):P:=h
theorem IU{P:Prop}(h:P:=by ((first|simp only[zfo,Nat.reduceBEq,jW,ne_eq,not_false_eq_true,decide_true,decide_false,Int.reduceEq,Int.reduceLE,Int.reduceToNat,Nat.mul_one, *,-hK]|simp only[zfo,Nat.reduceBEq,jW,ne_eq,not_false_eq_true,decide_true,decide_false,Int.reduceEq,Int.reduceLE,Int.reduceToNat,Nat.mul_one, *]|skip);first|done|with_reducible rfl)):P:=h
theorem DQ{P:Prop}(h:P:=by first|(simp only[zfo,Nat.reduceBEq, *];done)|rfl):P:=h
theorem DR{P:Prop}(h:P:=by first|rfl|exact hplan _|(rw[hS.plan];rfl)):P:=h
def pj:=@List.cons_append
def qZ:=@List.getElem?_cons_succ
def pm:=@List.getElem?_cons_zero
def va:=@List.drop_succ_cons
def i4:=@decide_eq_false_iff_not
def DS:=@List.getElem?_nil
def DT:=@Classical.choose_spec
def cI:=@Nat.lt_succ_self
def gW:=@List.drop_eq_getElem_cons
def gK:=@Bool.or_false
def tL:=@List.flatMap_cons
def Af:=And.intro @pj.{0} @oo.{0}
def gL:=And.intro Af @bi.{0}
end Go.Ab
namespace Go.Proofs.YtpbcimfiofmoeaaGreat
set_option maxRecDepth 20000
open Go Go.Ab
def zhZ:=ad jT iC
def zh0:=ad @iB @i4
section
variable {P:Program} {cfg:Cfg} {f:FuncId} {l:List SOp} {E:aw} {H H':Hp} {Q:aw -> Hp -> Prop} {d:Nat} {v a b:AV} {x y:Operand} {t u:TypeId}
def cj(P:Program)(cfg:Cfg)(f:FuncId)(op:Op)(E:aw)(H:Hp)(v:AV)(H':Hp):Prop:=∃n,zgI P cfg (ev P cfg n) f E H op=.val v H'
theorem cj.of{op:Op}(h:∀Q:aw->Hp->Prop,aC P cfg f [] (T.set E 0 (some v)) H' Q->aC P cfg f [⟨some 0,op,none⟩] E H Q):cj P cfg f op E H v H':=by
 have i:=h (fun L J=>L.at 0=v/\J=H') (xg ⟨by rw[jx];rfl,rfl⟩);unfold aC at i;simp only[]at i;unfold iN at i;obtain⟨n,w,J,g,m⟩:=i;unfold aC at m;obtain⟨O,rfl⟩:=m;have:(zfp E (some 0) w).at 0=w:=HD;rw[this]at O;exact⟨n,by rw[g,O]⟩
def dq:=@cj.of
theorem Ag{op:Op}(h:∀Q:aw->Hp->Prop,aC P cfg f [] E H' Q->aC P cfg f [⟨none,op,none⟩] E H Q):∃v,cj P cfg f op E H v H':=by
 have i:=h (fun L J=>J=H') (xg rfl);unfold aC at i;simp only[]at i;unfold iN at i;obtain⟨n,w,J,g,m⟩:=i;unfold aC at m;subst m;exact⟨w,n,g⟩
theorem cj.go{op:Op}(j:aC P cfg f l (T.set E d (some v)) H' Q)(h:cj P cfg f op E H v H'):aC P cfg f (⟨some d,op,none⟩::l) E H Q:=by
 obtain⟨n,h⟩:=h;unfold aC;show iN _ _ _ _ _ _ _;unfold iN;exact⟨n,v,H',h,j⟩
theorem IV{op:Op}(j:aC P cfg f l E H' Q)(h:∃v,cj P cfg f op E H v H'):aC P cfg f (⟨none,op,none⟩::l) E H Q:=by
 obtain⟨v,n,h⟩:=h;unfold aC;show iN _ _ _ _ _ _ _;unfold iN;exact⟨n,v,H',h,j⟩
attribute [irreducible] cj
theorem Rx.nl{Z K:aw->Hp->Prop}{R:Prop}(h:R)(hK:∀E H,Z E H->K E H:=by assumption)(e:Z E H=R:=by exact Ae):aC P cfg f [] E H K:=xg (hK _ _ (e▸h))
def ah:=@Rx.nl
theorem zfx{R:Prop}(h:R)(e:Q E H=R:=by first|(dsimp only[];first|done|exact rfl)|exact rfl):aC P cfg f [] E H Q:=xg (e▸h)
theorem zfG{L:List (Nat×Nat)}{C:List Rc}{Z:aw->Hp->Prop}{K:List Rc->aw->Hp->Prop}{R:Prop}(h1:qY P cfg L C H)(h:R)(hK:∀C E' H',qY P cfg L C H'->Z E' H'->K C E' H':=by assumption)(e:Z E H=R:=by exact Ae):ei P cfg f [] C E H K:=ei.nil (hK _ _ _ h1 (e▸h))
theorem Rx.k{g:FuncId}{ar:List AV}{r:AV}{K:AV->Hp->Prop}{R:Prop}(c:zfs P cfg g ar H fun v H'=>v=r/\H'=H)(h:R)(e:K r H=R:=by exact u7):zfs P cfg g ar H K:=aS (by rintro _ _ ⟨rfl,rfl⟩;exact e▸h) c
theorem Ox.mv(h:zfl E x=some v:=by exact ea):cj P cfg f (.move x) E H v H:=dq fun Q j=>aC.move h j
theorem Ox.as(h:zfl E x=some v:=by exact ea):cj P cfg f (.assign x) E H v H:=dq fun Q j=>aC.assign h j
theorem Ox.pk{z:Operand}{t:Bool}(h:zfl E x=some (.bool t):=by exact ea)(h1:zfl E y=some a:=by exact ea)(h2:zfl E z=some b:=by exact ea):cj P cfg f (.pick x y z) E H (ke t a b) H:=dq fun Q j=>aC.pick h h1 h2 j
theorem Ox.ld(h:zfl E x=some a:=by exact ea)(h1:iU P H t a=some v:=by exact jz):cj P cfg f (.load t x) E H v H:=dq fun Q j=>aC.load h h1 j
theorem Ox.st(h:zfl E x=some a:=by exact ea)(h1:zfl E y=some b:=by exact ea)(h2:nf P H t a b=some H':=by exact jz):∃v,cj P cfg f (.store t x y) E H v H':=Ag fun Q j=>Dp h h1 h2 j
theorem Ox.nc{r o:Nat}(h:zfl E x=some (.ptr r o):=by exact ea):cj P cfg f (.nilCheck x) E H (.ptr r o) H:=dq fun Q j=>aC.nilCheck h j
theorem Ox.bn{op:BinOp}(h:zfl E x=some a:=by exact ea)(h1:zfl E y=some b:=by exact ea)(h2:zgV P cfg.dec op t a b=some v:=by exact jz):cj P cfg f (.binOp op t x y u) E H v H:=dq fun Q j=>aC.bin h h1 h2 j
theorem Ox.un{op:UnOp}(h:zfl E x=some a:=by exact ea)(h2:rQ op a=some v:=by exact jz):cj P cfg f (.unOp op t x) E H v H:=dq fun Q j=>aC.un h h2 j
theorem Ox.cv(h:zfl E x=some a:=by exact ea)(h2:zhJ P H t u a=some v:=by exact jz):cj P cfg f (.convert t u x) E H v H:=dq fun Q j=>aC.convert h h2 j
theorem Ox.fa{i:Nat}(h:zfl E x=some a:=by exact ea)(h2:zfu P t a i=some v:=by exact jz):cj P cfg f (.fieldAddr t x i) E H v H:=dq fun Q j=>HP h h2 j
theorem Ox.fi{i:Nat}(h:zfl E x=some a:=by exact ea)(h2:zf5 P t a i=some v:=by exact jz):cj P cfg f (.field t x i) E H v H:=dq fun Q j=>aC.field h h2 j
theorem Ox.ia(h:zfl E x=some a:=by exact ea)(h1:zfl E y=some b:=by exact ea)(h2:zgi P t a b=some v:=by exact jz):cj P cfg f (.indexAddr t x y) E H v H:=dq fun Q j=>HQ h h1 h2 j
theorem Ox.ix(h:zfl E x=some a:=by exact ea)(h1:zfl E y=some b:=by exact ea)(h2:oS P t a b=some v:=by exact jz):cj P cfg f (.index t x y) E H v H:=dq fun Q j=>aC.index h h1 h2 j
theorem Ox.ex{i:Nat}(h:zfl E x=some a:=by exact ea)(h2:Ab.extract a i=some v:=by exact jz):cj P cfg f (.extract x i) E H v H:=dq fun Q j=>aC.extract h h2 j
theorem Ox.al{z:List AV}{n:Nat}(h:zge P t=some z:=by exact jz)(Z:some H.next=some n:=by exact u9):cj P cfg f (.alloc t) E H (.ptr n 0) (H.alloc (.cells z 0 true)):=dq fun Q j=>aC.alloc h Z j
theorem Ox.bx{cs:List AV}{n:Nat}(h:zfl E x=some a:=by exact ea)(Z:some a.cells=some cs:=by exact jz)(z:some H.next=some n:=by exact u9):cj P cfg f (.box t x) E H (.ptr n 0) (H.alloc (.cells cs 0 true)):=dq fun Q j=>aC.box h Z z j
theorem Ox.bd{I:Array (Nat×Operand)}{ps:List (Nat×AV)}(h:zhF E I.toList=some ps:=by exact IN)(h2:zgB P t ps=some v:=by exact jz):cj P cfg f (.build t I) E H v H:=dq fun Q j=>aC.build h h2 j
theorem Ox.bs{n:Nat}{I:Array (Nat×Operand)}{ps:List (Nat×AV)}(h:zhF E I.toList=some ps:=by exact IN)(h2:zgW P H t n ps=some (v,H'):=by exact jz):cj P cfg f (.buildSlice t n I) E H v H':=dq fun Q j=>HR h h2 j
theorem Ox.mm{n:Nat}(z:some H.next=some n:=by exact u9):cj P cfg f (.makeMap t none) E H (.map n) (H.alloc (.map [])):=dq fun Q j=>aC.makeMap z j
theorem Ox.ms(h:zfl E x=some a:=by exact ea)(h1:zfl E y=some b:=by exact ea)(h2:zhT P H t a b=some (v,H'):=by exact jz):cj P cfg f (.makeSlice t x y) E H v H':=dq fun Q j=>HT h h1 h2 j
theorem Ox.lu{ok:Bool}(h:zfl E x=some a:=by exact ea)(h1:zfl E y=some b:=by exact ea)(h2:zhv P H t a b ok=some v:=by exact jz):cj P cfg f (.lookup t x y ok) E H v H:=dq fun Q j=>aC.lookup h h1 h2 j
theorem Ox.mu{z:Operand}{c:AV}(h:zfl E x=some a:=by exact ea)(h1:zfl E y=some b:=by exact ea)(h2:zfl E z=some c:=by exact ea)(m:jj P H t a b c=some H':=by exact jz):∃v,cj P cfg f (.mapUpdate t x y z) E H v H':=Ag fun Q j=>HS h h1 h2 m j
theorem Ox.mf{g:FuncId}{cap:Array Operand}{vs:List AV}(h:zhq E cap.toList=some vs:=by exact IP):cj P cfg f (.makeFunc (.func g) #[] cap) E H (.clo g vs) H:=dq fun Q j=>aC.makeFunc h j
theorem Ox.sl{lo I:Option Operand}{J U:Option AV}(h:zfl E x=some a:=by exact ea)(h1:jW E lo=some J:=by exact IQ)(h2:jW E I=some U:=by exact IQ)(m:nX P H t a J U=some v:=by exact jz):cj P cfg f (.slice t x lo I none) E H v H:=dq fun Q j=>aC.slice h h1 h2 m j
theorem Ox.ln{c:AV}(h:zfl E x=some a:=by exact ea)(h1:zf9 P H t a=some c:=by exact jz):cj P cfg f (.call ⟨.builtin .len,#[x],#[t]⟩) E H c H:=dq fun Q j=>aC.len h h1 j
theorem Ox.ap(h:zfl E x=some a:=by exact ea)(h1:zfl E y=some b:=by exact ea)(h2:zgH P (cfg.keep f) H t u a b=some (v,H'):=by exact jz):cj P cfg f (.call ⟨.builtin .append,#[x,y],#[t,u]⟩) E H v H':=dq fun Q j=>sd h h1 h2 j
theorem Ox.mi{Z:Array TypeId}{k Y:IntKind}{V m:Int}(h:zfl E x=some (.int k V):=by exact ea)(h1:zfl E y=some (.int Y m):=by exact ea):cj P cfg f (.call ⟨.builtin .min,#[x,y],Z⟩) E H (.int k (min V m)) H:=dq fun Q j=>aC.min2 h h1 j
theorem Ox.ma{Z:Array TypeId}{k Y:IntKind}{V m:Int}(h:zfl E x=some (.int k V):=by exact ea)(h1:zfl E y=some (.int Y m):=by exact ea):cj P cfg f (.call ⟨.builtin .max,#[x,y],Z⟩) E H (.int k (max V m)) H:=dq fun Q j=>aC.max2 h h1 j
theorem Rx.o{op:Op}(j:aC P cfg f l (T.set E d (some v)) H' Q)(h:cj P cfg f op E H v H':=by first|apply(Ox.mv)|apply(Ox.as)|apply(Ox.pk)|apply(Ox.ld)|apply(Ox.nc)|apply(Ox.bn)|apply(Ox.un)|apply(Ox.cv)|apply(Ox.fa)|apply(Ox.fi)|apply(Ox.ia)|apply(Ox.ix)|apply(Ox.ex)|apply(Ox.al)|apply(Ox.bx)|apply(Ox.bd)|apply(Ox.bs)|apply(Ox.mm)|apply(Ox.ms)|apply(Ox.lu)|apply(Ox.mf)|apply(Ox.sl)|apply(Ox.ln)|apply(Ox.ap)|apply(Ox.mi)|apply(Ox.ma)):aC P cfg f (⟨some d,op,none⟩::l) E H Q:=cj.go j h
theorem Rx.on{op:Op}(j:aC P cfg f l E H' Q)(h:∃v,cj P cfg f op E H v H':=by first|apply(Ox.st)|apply(Ox.mu)):aC P cfg f (⟨none,op,none⟩::l) E H Q:=IV j h
def ct:=@Rx.on
theorem Rx.call{Y:Option Nat}{c:Call}{g:Operand}{k:FuncId}{cap vs ar:List AV}(j:zfs P cfg k ar H fun v H'=>aC P cfg f l (zfp E Y v) H' Q)(Z:c.callee=.value g:=by rfl)(J:zfl E g=some (.clo k cap):=by exact ea)(U:zhq E c.args.toList=some vs:=by exact IP)(V:vs++cap=ar:=by simp only[gL];first|done|exact rfl):aC P cfg f (⟨Y,.call c,none⟩::l) E H Q:=aU Z J U (V▸j)
def kF:=@Rx.call
theorem Rx.gu{Y:Option Nat}{op:Op}{s:Nat}{t:Bool}{v:AV}{R:Prop}(j:R)(h:some (E.at s)=some v:=by exact ea)(U:v=zgA:=by with_reducible rfl)(e:aC P cfg f l (zfp E Y zgA) H Q=R:=by exact u7):aC P cfg f (⟨Y,op,some (s,t)⟩::l) E H Q:=HM h U (e▸j)
def re:=@Rx.gu
theorem Rx.gd{Y:Option Nat}{op:Op}{s:Nat}{i t:Bool}{M m O L R:Prop}(h1:M->O->aC P cfg f (⟨Y,op,none⟩::l) E H Q)(h2:m->L->R)(h:E.at s=.bool t:=by exact ea)(Z:(t=i)=M:=by(try simp only[zhZ,reduceCtorEq]);first|done|exact rfl)(V:(t=!i)=m:=by(try simp only[zhZ,reduceCtorEq]);first|done|exact rfl)(o:M=O:=by(try simp only[zh0]);first|done|exact rfl)(K:m=L:=by(try simp only[zh0]);first|done|exact rfl)(e:aC P cfg f l (zfp E Y zgA) H Q=R:=by exact u7):aC P cfg f (⟨Y,op,some (s,i)⟩::l) E H Q:=aC.guard h (fun k=>h1 (Z▸k) (o▸Z▸k)) (fun k=>e▸h2 (V▸k) (K▸V▸k))
def dr:=@Rx.gd
theorem Rx.cd{N:Nat}{L Z:SC}{Q:AX->aw->Hp->Prop}{t:Bool}{M m O Y:Prop}(h1:M->O->zfV P cfg f N L E H Q)(h2:m->Y->zfV P cfg f N Z E H Q)(C:zfl E x=some (.bool t):=by exact ea)(V:(t=true)=M:=by(try simp only[zhZ,reduceCtorEq]);first|done|exact rfl)(U:(t=false)=m:=by(try simp only[zhZ,reduceCtorEq]);first|done|exact rfl)(o:M=O:=by(try simp only[zh0]);first|done|exact rfl)(K:m=Y:=by(try simp only[zh0]);first|done|exact rfl):zfV P cfg f N (.cond x L Z) E H Q:=zfV.cond C (fun k=>h1 (V▸k) (o▸V▸k)) (fun k=>h2 (U▸k) (K▸U▸k))
def bt:=@Rx.cd
theorem Oy.mv(h:zfl E x=some v:=by exact d9):cj P cfg f (.move x) E H v H:=dq fun Q j=>aC.move h j
theorem Oy.as(h:zfl E x=some v:=by exact d9):cj P cfg f (.assign x) E H v H:=dq fun Q j=>aC.assign h j
theorem Oy.pk{z:Operand}{t:Bool}(h:zfl E x=some (.bool t):=by exact d9)(h1:zfl E y=some a:=by exact d9)(h2:zfl E z=some b:=by exact d9):cj P cfg f (.pick x y z) E H (ke t a b) H:=dq fun Q j=>aC.pick h h1 h2 j
theorem Oy.ld(h:zfl E x=some a:=by exact d9)(h1:iU P H t a=some v:=by exact jA):cj P cfg f (.load t x) E H v H:=dq fun Q j=>aC.load h h1 j
theorem Oy.st(h:zfl E x=some a:=by exact d9)(h1:zfl E y=some b:=by exact d9)(h2:nf P H t a b=some H':=by exact jA):∃v,cj P cfg f (.store t x y) E H v H':=Ag fun Q j=>Dp h h1 h2 j
theorem Oy.nc{r o:Nat}(h:zfl E x=some (.ptr r o):=by exact d9):cj P cfg f (.nilCheck x) E H (.ptr r o) H:=dq fun Q j=>aC.nilCheck h j
theorem Oy.bn{op:BinOp}(h:zfl E x=some a:=by exact d9)(h1:zfl E y=some b:=by exact d9)(h2:zgV P cfg.dec op t a b=some v:=by exact jA):cj P cfg f (.binOp op t x y u) E H v H:=dq fun Q j=>aC.bin h h1 h2 j
theorem Oy.un{op:UnOp}(h:zfl E x=some a:=by exact d9)(h2:rQ op a=some v:=by exact jA):cj P cfg f (.unOp op t x) E H v H:=dq fun Q j=>aC.un h h2 j
theorem Oy.cv(h:zfl E x=some a:=by exact d9)(h2:zhJ P H t u a=some v:=by exact jA):cj P cfg f (.convert t u x) E H v H:=dq fun Q j=>aC.convert h h2 j
theorem Oy.fa{i:Nat}(h:zfl E x=some a:=by exact d9)(h2:zfu P t a i=some v:=by exact jA):cj P cfg f (.fieldAddr t x i) E H v H:=dq fun Q j=>HP h h2 j
theorem Oy.fi{i:Nat}(h:zfl E x=some a:=by exact d9)(h2:zf5 P t a i=some v:=by exact jA):cj P cfg f (.field t x i) E H v H:=dq fun Q j=>aC.field h h2 j
theorem Oy.ia(h:zfl E x=some a:=by exact d9)(h1:zfl E y=some b:=by exact d9)(h2:zgi P t a b=some v:=by exact jA):cj P cfg f (.indexAddr t x y) E H v H:=dq fun Q j=>HQ h h1 h2 j
theorem Oy.ix(h:zfl E x=some a:=by exact d9)(h1:zfl E y=some b:=by exact d9)(h2:oS P t a b=some v:=by exact jA):cj P cfg f (.index t x y) E H v H:=dq fun Q j=>aC.index h h1 h2 j
theorem Oy.ex{i:Nat}(h:zfl E x=some a:=by exact d9)(h2:Ab.extract a i=some v:=by exact jA):cj P cfg f (.extract x i) E H v H:=dq fun Q j=>aC.extract h h2 j
theorem Oy.al{z:List AV}{n:Nat}(h:zge P t=some z:=by exact jA)(Z:some H.next=some n:=by exact u9):cj P cfg f (.alloc t) E H (.ptr n 0) (H.alloc (.cells z 0 true)):=dq fun Q j=>aC.alloc h Z j
theorem Oy.bx{cs:List AV}{n:Nat}(h:zfl E x=some a:=by exact d9)(Z:some a.cells=some cs:=by exact jA)(z:some H.next=some n:=by exact u9):cj P cfg f (.box t x) E H (.ptr n 0) (H.alloc (.cells cs 0 true)):=dq fun Q j=>aC.box h Z z j
theorem Oy.bd{I:Array (Nat×Operand)}{ps:List (Nat×AV)}(h:zhF E I.toList=some ps:=by exact IR)(h2:zgB P t ps=some v:=by exact jA):cj P cfg f (.build t I) E H v H:=dq fun Q j=>aC.build h h2 j
theorem Oy.bs{n:Nat}{I:Array (Nat×Operand)}{ps:List (Nat×AV)}(h:zhF E I.toList=some ps:=by exact IR)(h2:zgW P H t n ps=some (v,H'):=by exact jA):cj P cfg f (.buildSlice t n I) E H v H':=dq fun Q j=>HR h h2 j
theorem Oy.mm{n:Nat}(z:some H.next=some n:=by exact u9):cj P cfg f (.makeMap t none) E H (.map n) (H.alloc (.map [])):=dq fun Q j=>aC.makeMap z j
theorem Oy.ms(h:zfl E x=some a:=by exact d9)(h1:zfl E y=some b:=by exact d9)(h2:zhT P H t a b=some (v,H'):=by exact jA):cj P cfg f (.makeSlice t x y) E H v H':=dq fun Q j=>HT h h1 h2 j
theorem Oy.lu{ok:Bool}(h:zfl E x=some a:=by exact d9)(h1:zfl E y=some b:=by exact d9)(h2:zhv P H t a b ok=some v:=by exact jA):cj P cfg f (.lookup t x y ok) E H v H:=dq fun Q j=>aC.lookup h h1 h2 j
theorem Oy.mu{z:Operand}{c:AV}(h:zfl E x=some a:=by exact d9)(h1:zfl E y=some b:=by exact d9)(h2:zfl E z=some c:=by exact d9)(m:jj P H t a b c=some H':=by exact jA):∃v,cj P cfg f (.mapUpdate t x y z) E H v H':=Ag fun Q j=>HS h h1 h2 m j
theorem Oy.mf{g:FuncId}{cap:Array Operand}{vs:List AV}(h:zhq E cap.toList=some vs:=by exact IT):cj P cfg f (.makeFunc (.func g) #[] cap) E H (.clo g vs) H:=dq fun Q j=>aC.makeFunc h j
theorem Oy.sl{lo I:Option Operand}{J U:Option AV}(h:zfl E x=some a:=by exact d9)(h1:jW E lo=some J:=by exact IU)(h2:jW E I=some U:=by exact IU)(m:nX P H t a J U=some v:=by exact jA):cj P cfg f (.slice t x lo I none) E H v H:=dq fun Q j=>aC.slice h h1 h2 m j
theorem Oy.ln{c:AV}(h:zfl E x=some a:=by exact d9)(h1:zf9 P H t a=some c:=by exact jA):cj P cfg f (.call ⟨.builtin .len,#[x],#[t]⟩) E H c H:=dq fun Q j=>aC.len h h1 j
theorem Oy.ap(h:zfl E x=some a:=by exact d9)(h1:zfl E y=some b:=by exact d9)(h2:zgH P (cfg.keep f) H t u a b=some (v,H'):=by exact jA):cj P cfg f (.call ⟨.builtin .append,#[x,y],#[t,u]⟩) E H v H':=dq fun Q j=>sd h h1 h2 j
theorem Oy.mi{Z:Array TypeId}{k Y:IntKind}{V m:Int}(h:zfl E x=some (.int k V):=by exact d9)(h1:zfl E y=some (.int Y m):=by exact d9):cj P cfg f (.call ⟨.builtin .min,#[x,y],Z⟩) E H (.int k (min V m)) H:=dq fun Q j=>aC.min2 h h1 j
theorem Oy.ma{Z:Array TypeId}{k Y:IntKind}{V m:Int}(h:zfl E x=some (.int k V):=by exact d9)(h1:zfl E y=some (.int Y m):=by exact d9):cj P cfg f (.call ⟨.builtin .max,#[x,y],Z⟩) E H (.int k (max V m)) H:=dq fun Q j=>aC.max2 h h1 j
theorem Ry.o{op:Op}(j:aC P cfg f l (T.set E d (some v)) H' Q)(h:cj P cfg f op E H v H':=by first|apply(Oy.mv)|apply(Oy.as)|apply(Oy.pk)|apply(Oy.ld)|apply(Oy.nc)|apply(Oy.bn)|apply(Oy.un)|apply(Oy.cv)|apply(Oy.fa)|apply(Oy.fi)|apply(Oy.ia)|apply(Oy.ix)|apply(Oy.ex)|apply(Oy.al)|apply(Oy.bx)|apply(Oy.bd)|apply(Oy.bs)|apply(Oy.mm)|apply(Oy.ms)|apply(Oy.lu)|apply(Oy.mf)|apply(Oy.sl)|apply(Oy.ln)|apply(Oy.ap)|apply(Oy.mi)|apply(Oy.ma)):aC P cfg f (⟨some d,op,none⟩::l) E H Q:=cj.go j h
theorem Ry.on{op:Op}(j:aC P cfg f l E H' Q)(h:∃v,cj P cfg f op E H v H':=by first|apply(Oy.st)|apply(Oy.mu)):aC P cfg f (⟨none,op,none⟩::l) E H Q:=IV j h
def bM:=@Ry.on
theorem Ry.call{Y:Option Nat}{c:Call}{g:Operand}{k:FuncId}{cap vs ar:List AV}(j:zfs P cfg k ar H fun v H'=>aC P cfg f l (zfp E Y v) H' Q)(Z:c.callee=.value g:=by rfl)(J:zfl E g=some (.clo k cap):=by exact d9)(U:zhq E c.args.toList=some vs:=by exact IT)(V:vs++cap=ar:=by simp only[gL];first|done|exact rfl):aC P cfg f (⟨Y,.call c,none⟩::l) E H Q:=aU Z J U (V▸j)
def d4:=@Ry.call
theorem Ry.gu{Y:Option Nat}{op:Op}{s:Nat}{t:Bool}{v:AV}{R:Prop}(j:R)(h:some (E.at s)=some v:=by exact d9)(U:v=zgA:=by with_reducible rfl)(e:aC P cfg f l (zfp E Y zgA) H Q=R:=by exact u7):aC P cfg f (⟨Y,op,some (s,t)⟩::l) E H Q:=HM h U (e▸j)
def ib:=@Ry.gu
theorem Ry.gd{Y:Option Nat}{op:Op}{s:Nat}{i t:Bool}{M m O L R:Prop}(h1:M->O->aC P cfg f (⟨Y,op,none⟩::l) E H Q)(h2:m->L->R)(h:E.at s=.bool t:=by exact d9)(Z:(t=i)=M:=by(try simp only[zhZ,reduceCtorEq]);first|done|exact rfl)(V:(t=!i)=m:=by(try simp only[zhZ,reduceCtorEq]);first|done|exact rfl)(o:M=O:=by(try simp only[zh0]);first|done|exact rfl)(K:m=L:=by(try simp only[zh0]);first|done|exact rfl)(e:aC P cfg f l (zfp E Y zgA) H Q=R:=by exact u7):aC P cfg f (⟨Y,op,some (s,i)⟩::l) E H Q:=aC.guard h (fun k=>h1 (Z▸k) (o▸Z▸k)) (fun k=>e▸h2 (V▸k) (K▸V▸k))
def bC:=@Ry.gd
theorem zgC{Y:Option Nat}{op:Op}{s:Nat}{i t:Bool}{C:List Rc}{Q:List Rc->aw->Hp->Prop}{M m O L R:Prop}(h1:M->O->ei P cfg f (⟨Y,op,none⟩::l) C E H Q)(h2:m->L->R)(h:E.at s=.bool t:=by exact d9)(Z:(t=i)=M:=by(try simp only[zhZ,reduceCtorEq]);first|done|exact rfl)(V:(t=!i)=m:=by(try simp only[zhZ,reduceCtorEq]);first|done|exact rfl)(o:M=O:=by(try simp only[zh0]);first|done|exact rfl)(K:m=L:=by(try simp only[zh0]);first|done|exact rfl)(e:ei P cfg f l (C++[⟨op,false,E,H,zgA,H⟩]) (zfp E Y zgA) H Q=R:=by exact u7):ei P cfg f (⟨Y,op,some (s,i)⟩::l) C E H Q:=ei.guard h (fun k=>h1 (Z▸k) (o▸Z▸k)) (fun k=>e▸h2 (V▸k) (K▸V▸k))
theorem Ry.cd{N:Nat}{L Z:SC}{Q:AX->aw->Hp->Prop}{t:Bool}{M m O Y:Prop}(h1:M->O->zfV P cfg f N L E H Q)(h2:m->Y->zfV P cfg f N Z E H Q)(C:zfl E x=some (.bool t):=by exact d9)(V:(t=true)=M:=by(try simp only[zhZ,reduceCtorEq]);first|done|exact rfl)(U:(t=false)=m:=by(try simp only[zhZ,reduceCtorEq]);first|done|exact rfl)(o:M=O:=by(try simp only[zh0]);first|done|exact rfl)(K:m=Y:=by(try simp only[zh0]);first|done|exact rfl):zfV P cfg f N (.cond x L Z) E H Q:=zfV.cond C (fun k=>h1 (V▸k) (o▸V▸k)) (fun k=>h2 (U▸k) (K▸U▸k))
def aL:=@Ry.cd
theorem eE{p:Prop}(h:p:=by exact DQ):p:=h
theorem eF{p:Prop}(h:p:=by first|(simp only[zfo,zfv,tyF,Nat.reduceBEq,Nat.reduceAdd,Nat.reduceLeDiff, *];done)|rfl):p:=h
theorem zhx{p:Prop}(h:p:=by((try simp only[zfo,Nat.reduceBEq, *]);first|done|with_reducible rfl)):p:=h
theorem zh6{p:Prop}(h:p:=by((try simp only[zfo,zfv,tyF,Nat.reduceBEq,Nat.reduceAdd,Nat.reduceLeDiff, *]);first|done|with_reducible rfl)):p:=h
theorem zfq{p:Prop}(h:p:=by((try simp only[zfo,Nat.reduceBEq,zgD,zgN, *]);first|done|with_reducible rfl)):p:=h
theorem gX{p:Prop}(h:p:=by((try simp only[zfo,zfv,tyF,Nat.reduceBEq,Nat.reduceAdd,Nat.reduceLeDiff,zgD,zgN, *]);first|done|with_reducible rfl)):p:=h
theorem aV{p:Prop}(h:p:=by((try simp only[zfo,Nat.reduceBEq, *,-hK]);first|done|with_reducible rfl)):p:=h
theorem aW{p:Prop}(h:p:=by((try simp only[zfo,Nat.reduceBEq,zhq,Af, *,-hK]);first|done|with_reducible rfl)):p:=h
theorem zfj{p:Prop}(h:p:=by first|exact .inl rfl|exact .inr rfl|exact .inl trivial|exact .inr trivial):p:=h
theorem eL{p:Prop}(h:p:=by simp only[zfT,zfB,a0,zfo,zfv,tyF,Nat.reduceBEq,Nat.reduceAdd,Nat.reduceLeDiff, *]):p:=h
theorem zf4{p:Prop}(h:p:=by(try simp only[zfw,zfI,zgj,b9,Nat.reduceAdd]);omega):p:=h
theorem zfh{N:Nat}{Q:AX->aw->Hp->Prop}{R:Prop}(h:R)(e:Q .normal E H=R:=by exact Ae):zfV P cfg f N .skip E H Q:=zfV.skip (e▸h)
theorem Rx.rt{N:Nat}{Q:AX->aw->Hp->Prop}{R:Prop}(h:R)(e:Q .ret E H=R:=by exact Ae):zfV P cfg f N .ret E H Q:=zfV.ret (e▸h)
def ax:=@Rx.rt
theorem zfr{N id:Nat}{Q:AX->aw->Hp->Prop}{R:Prop}(h:R)(e:Q (.exit id) E H=R:=by first|(simp only[nE,sc,reduceIte];first|done|exact rfl)|(dsimp only[];first|done|exact rfl)|exact rfl):zfV P cfg f N (.exit id) E H Q:=zfV.exit (e▸h)
theorem zf6{p:Prop}(h:p:=by(refine⟨?_,?_⟩<;>simp only[oo,pj,nu,qZ,pm,DS,List.forall_mem_cons,zfw,zfI,aE,kA,a0]<;>(repeat' apply ad)<;>first
 |(intro r hr;cases hr;done)
 |(refine RU (by simp only[oo,pj,nu,qZ,pm,DS];rfl) (fun hd=>?_)
   simp only[xj,oo,pj,nu,qZ,pm,DS]at hd⊢;first
   |(cases hd;done)
   |exact RO zhx zh6
   |exact RP zhx zhx zh6
   |exact RQ zhx zh6
   |exact RR zhx zh6
   |exact RS zhx (by simp only[jW];first|rfl|simp only[zfo,Nat.reduceBEq, *]) (by simp only[jW];first|rfl|simp only[zfo,Nat.reduceBEq, *]) zh6
   |exact RT rfl zh6 zh6)
 |exact aE _
 |assumption
 |omega)):p:=h
variable {N:Nat} {ops:List Oper} {Q2:AX -> aw -> Hp -> Prop}
theorem zfm(id:Nat)(L:List (Nat×Nat))(h:∀K:List Rc->aw->Hp->Prop,(∀C E' H',qY P cfg L C H'->Q2 .normal E' H'->K C E' H')->ei P cfg f l [] E H K)(i:cfg.plan f id=.text:=by exact DR)(J:pJ ops=true:=by kernel_rfl)(Z:zfL N ops ops=some l:=by simp only[zfL,zfR,zfS,Nat.blt,Nat.ble];rfl)(z:od ops=L:=by kernel_rfl):zfV P cfg f N (.draw id ops) E H Q2:=RM i J Z z h
theorem Rx.dP(id:Nat)(g:List Nat)(L:List (Nat×Nat))(h:∀K:List Rc->aw->Hp->Prop,(∀C E' H',qY P cfg L C H'->Q2 .normal E' H'->K C E' H')->ei P cfg f l [] E H K)(i:cfg.plan f id=.perm g:=by exact DR)(o:ww g ops=true:=by kernel_rfl)(J:pJ (iy g ops)=true:=by kernel_rfl)(Z:zfL N (iy g ops) (iy g ops)=some l:=by simp only[iy,rV,List.filterMap_cons,List.filterMap_nil,qZ,pm,zfL,zfR,zfS,Nat.blt,Nat.ble];rfl)(z:od (iy g ops)=L:=by kernel_rfl):zfV P cfg f N (.draw id ops) E H Q2:=RN i o J Z z h
theorem tN(id:Nat)(h:∀K:aw->Hp->Prop,(∀E' H',Q2 .normal E' H'->K E' H')->aC P cfg f l E H K)(i:cfg.plan f id=.text:=by exact DR)(J:zX ops=true:=by kernel_rfl)(Z:zfL N ops ops=some l:=by simp only[zfL,zfR,zfS,Nat.blt,Nat.ble];rfl):zfV P cfg f N (.draw id ops) E H Q2:=zfV.draw i J Z h
end
end Go.Proofs.YtpbcimfiofmoeaaGreat
namespace Go.Ab
set_option maxRecDepth 20000
open Go
def fq(v:AV):Prop:=∃k,∀m,k<=m->∀H,iceV H m v=some v
def fV(l:List AV):Prop:=∀v∈l,fq v
theorem fV.nil:fV []:=fun _ h=>lL
theorem fV.cons{v:AV}{l:List AV}(h:fq v)(L:fV l):fV (v::l):=fun w M=>by
 rcases eP.1 M with rfl|M
 .exact h
 .exact L _ M
theorem fV.bound:∀{l:List AV},fV l->∃k,∀m,k<=m->∀H,iceL (iceV H m) l=some l
 |[],_=>⟨0,fun _ _ _=>rfl⟩
 |v::l,h=>by
  obtain⟨k1,i⟩:=h v dJ;obtain⟨Z,g⟩:=fV.bound (l:=l) fun w M=>h w (dO _ M)
  exact⟨max k1 Z,fun m V H=>by simp only[iceL,i m ac H,g m ac H]⟩
theorem IX:∀{l:List (List AV)},(∀J∈l,fV J)->∃k,∀m,k<=m->∀H,rW (iceV H m) l=some l
 |[],_=>⟨0,fun _ _ _=>rfl⟩
 |v::l,h=>by
  obtain⟨k1,i⟩:=(h v dJ).bound;obtain⟨Z,g⟩:=IX (l:=l) fun w M=>h w (dO _ M)
  exact⟨max k1 Z,fun m V H=>by simp only[rW,i m ac H,g m ac H]⟩
theorem fq.one{v:AV}(h:∀m H,iceV H (m+1) v=some v):fq v:=⟨1,fun m V H=>by
 obtain⟨m,rfl⟩:∃k,m=k+1:=⟨m-1,ac⟩;exact h m H⟩
theorem fq.int(k:IntKind)(n:Int):fq (.int k n):=.one fun _ _=>rfl
theorem fq.bool(b:Bool):fq (.bool b):=.one fun _ _=>rfl
theorem fq.str(s:List UInt8):fq (.str s):=.one fun _ _=>rfl
theorem fq.nilS:fq .nilS:=.one fun _ _=>rfl
theorem fq.lst{l:List (List AV)}(h:∀J∈l,fV J):fq (.lst l):=by
 obtain⟨k,j⟩:=IX h;refine⟨k+1,fun m V H=>?_⟩;obtain⟨m,rfl⟩:∃k,m=k+1:=⟨m-1,ac⟩;simp only[iceV,j m ac H]
theorem fq.agg{l:List AV}(h:fV l):fq (.agg l):=by
 obtain⟨k,j⟩:=h.bound;refine⟨k+1,fun m V H=>?_⟩;obtain⟨m,rfl⟩:∃k,m=k+1:=⟨m-1,ac⟩;simp only[iceV,j m ac H]
theorem fq.tup{l:List AV}(h:fV l):fq (.tup l):=by
 obtain⟨k,j⟩:=h.bound;refine⟨k+1,fun m V H=>?_⟩;obtain⟨m,rfl⟩:∃k,m=k+1:=⟨m-1,ac⟩;simp only[iceV,j m ac H]
theorem fq.map{i:Type}{l:List i}{f:i->List AV}(h:∀x∈l,fV (f x)):fq (.lst (l.map f)):=.lst fun J hr=>by
 obtain⟨x,C,rfl⟩:=lc.1 hr;exact h x C
theorem IY{j:List AV}(h:fV j):∃k,qM k j=true:=by
 obtain⟨k,Z⟩:=h.bound;exact⟨k,by unfold qM;rw[Z k (aE _) zfM];exact zh2 j⟩
theorem IZ{P:Program}{cfg:Cfg}(fit:Fit P){ρ:Nat->Int}(Z:ny cfg.dec ρ)(Y:∀f j r,cfg.call f j=some r->ce P ρ f j r){g:FuncId}{j:List AV}{r:AV}
 (J:fV j) (hr:fq r) (h:zfs P cfg g j zfM fun v _=>v=r):ce P ρ g j r:=by
 obtain⟨k,V⟩:=IY J;obtain⟨m,U⟩:=hr;exact HO (m:=m) fit Z Y V (aS (fun v H' e=>by rw[e];exact U m (aE _) H') h)
theorem xt{P:Program}{cfg:Cfg}(fit:Fit P){ρ:Nat->Int}(Z:ny cfg.dec ρ)(Y:∀f j r,cfg.call f j=some r->ce P ρ f j r){g:FuncId}{j:List AV}{r:AV}{m:Nat}
 (J:fV j) (h:zfs P cfg g j zfM fun v H'=>iceV H' m v=some r):ce P ρ g j r:=by
 obtain⟨k,V⟩:=IY J;exact HO (m:=m) fit Z Y V h
structure En where
 f:FuncId
 ice:Bool
 sp:List AV->Option AV
def zgw:List En->FuncId->List AV->Option AV
 |[],_,_=>none
 |e::l,f,args=>match Nat.beq e.f f with
  |true=>e.sp args
  |false=>zgw l f args
def lQ:List En->FuncId->Bool
 |[],_=>false
 |e::l,f=>match Nat.beq e.f f with
  |true=>e.ice
  |false=>lQ l f
noncomputable def zfn(pls:List (Nat×Nat×Plan))(l:List En):Cfg:={keep:=fun _=>false,call:=zgw l,ice:=lQ l,plan:=w8 pls}
def zgE(P:Program)(ρ:Nat->Int)(e:En):Prop:=∀j r,e.sp j=some r->ce P ρ e.f j r
def iF(P:Program)(ρ:Nat->Int):List En->Prop
 |[]=>True
 |e::l=>zgE P ρ e/\iF P ρ l
theorem iF.look{P:Program}{ρ:Nat->Int}:∀{l:List En},iF P ρ l->∀f j r,zgw l f j=some r->ce P ρ f j r
 |[],_,_,_,_,h=>by simp[zgw]at h
 |e::l,hl,f,j,r,h=>by
  simp only[zgw]at h;split at h
  .rename_i i;rw[<-jf i];exact hl.1 j r h
  .exact iF.look hl.2 f j r h
noncomputable def dc{i:Type}(ok:i->Prop)(enc:i->List AV)(out:i->AV)(j:List AV):Option AV:=open Classical in
 if h:∃x,ok x/\enc x=j then some (out (Classical.choose h))else none
theorem Ah{i:Type}{ok:i->Prop}{enc:i->List AV}{out:i->AV}(Z:∀x y,enc x=enc y->x=y){x:i}(C:ok x):dc ok enc out (enc x)=some (out x):=by
 unfold dc;have h:∃y,ok y/\enc y=enc x:=⟨x,C,rfl⟩;rw[dif_pos h];rw[Z _ _ (DT h).2]
theorem DV{i:Type}{ok:i->Prop}{enc:i->List AV}{out:i->AV}{j:List AV}(h:∀x,ok x->enc x≠j):dc ok enc out j=none:=by
 unfold dc;rw[dif_neg];rintro⟨x,C,e⟩;exact h x C e
theorem zgO{P:Program}{ρ:Nat->Int}{i:Type}{ok:i->Prop}{f:FuncId}{ice:Bool}{enc:i->List AV}{out:i->AV}(h:∀x,ok x->ce P ρ f (enc x) (out x)):zgE P ρ ⟨f,ice,dc ok enc out⟩:=fun j r hr=>by
 change dc ok enc out j=some r at hr;unfold dc at hr;split at hr
 .rename_i C;simp only[az]at hr;subst hr;have:=h (Classical.choose C) (DT C).1;rw[(DT C).2]at this;exact this
 .simp at hr
attribute [irreducible] dc
theorem DW{P:Program}{cfg:Cfg}{g:FuncId}{j:List AV}{r:AV}{H:Hp}(h:cfg.call g j=some r):zfs P cfg g j H fun v H'=>v=r/\H'=H:=QK h ⟨rfl,rfl⟩
theorem zgL{P:Program}{pls:List (Nat×Nat×Plan)}{l:List En}{i:Type}{ok:i->Prop}{enc:i->List AV}{out:i->AV}(Z:∀x y,enc x=enc y->x=y){g:FuncId}{x:i}(L:zgw l g (enc x)=dc ok enc out (enc x))(C:ok x){H:Hp}:
 zfs P (zfn pls l) g (enc x) H fun v H'=>v=out x/\H'=H:=DW (by show zgw l g (enc x)=_;rw[L];exact Ah Z C)
theorem YP{P:Program}{pls:List (Nat×Nat×Plan)}{l:List En}{i:Type}{ok:i->Prop}{enc:i->List AV}{out:i->AV}(Y:∀x y,enc x=enc y->x=y){g:FuncId}{x:i}(L:∀Z,zgw l g Z=dc ok enc out Z)(I:lQ l g=true)(C:ok x){j:List AV}{H H':Hp}
 (z:∀y,ok y->enc y≠j) (o:kn (iz 100) j H=some (enc x,H')) :
 zfs P (zfn pls l) g j H fun v J=>v=out x/\J=H':=HN (by show zgw l g j=none;rw[L];exact DV z) I rfl o (by show zgw l g (enc x)=_;rw[L];exact Ah Y C) ⟨rfl,rfl⟩
theorem YQ{P:Program}{ρ:Nat->Int}(fit:Fit P){pls:List (Nat×Nat×Plan)}{l:List En}(L:iF P ρ l){i:Type}(sz:i->Nat){f:FuncId}{ok:i->Prop}{enc:i->List AV}{out:i->AV}
 (J:∀x,ok x->fV (enc x)) (hr:∀x,ok x->fq (out x))
 (h:∀x,ok x->zfs P (zfn pls (⟨f,false,dc (fun y=>ok y/\sz y<sz x) enc out⟩::l)) f (enc x) zfM fun v _=>v=out x):∀x,ok x->ce P ρ f (enc x) (out x):=by
 have U:∀n x,sz x<n->ok x->ce P ρ f (enc x) (out x):=by
  intro n;induction n with
  |zero=>intro x C;omega
  |succ n ih=>
   intro x C M;exact IZ (cfg:=zfn pls (⟨f,false,dc (fun y=>ok y/\sz y<sz x) enc out⟩::l)) fit (pO ρ) (fun g j r Z=>iF.look (l:=⟨f,false,dc (fun y=>ok y/\sz y<sz x) enc out⟩::l) ⟨zgO fun y Y=>ih y ac Y.1,L⟩ g j r Z) (J x M) (hr x M) (h x M)
 exact fun x=>U (sz x+1) x (cI _)
theorem zg3{P:Program}{ρ:Nat->Int}(fit:Fit P){pls:List (Nat×Nat×Plan)}{l:List En}(L:iF P ρ l){f:FuncId}{j:List AV}{r:AV}(J:fV j)(hr:fq r)(h:zfs P (zfn pls l) f j zfM fun v _=>v=r):ce P ρ f j r:=
 IZ fit (pO ρ) (fun g Z r Y=>iF.look L g Z r Y) J hr h
abbrev cu(n:Int):Int:=IntKind.wrap .i64 n
section
variable (q:Ex -> Int -> Bool)
mutual
def mh:Ex->Int->Bool
 | .mk k n s o V,d=>q (.mk k n s o V) d&&zhs V (cu (d+1))
def zhs:List Ex->Int->Bool
 |[],_=>true
 |e::es,d=>mh e d&&zhs es d
end
theorem DX(e:Ex)(d:Int):mh q e d=(q e d&&zhs q e.kids (cu (d+1))):=by
 cases e;simp only[mh,Ex.kids]
theorem Ai{l:List Ex}{i:Nat}(h:i<l.length)(d:Int):zhs q (l.drop i) d=(mh q l[i] d&&zhs q (l.drop (i+1)) d):=by
 rw[gW h,zhs]
end
section
variable {σ:Type} (q:St -> Int -> σ -> Bool × σ)
mutual
def kG:St->Int->σ->Bool×σ
 | .mk k J O n a v j C I,d,s=>match q (.mk k J O n a v j C I) d s with
   |(false,s)=>(false,s)
   |(true,s)=>match zgQ C (cu (d+1)) s with
    |(false,s)=>(false,s)
    |(true,s)=>zgQ I (cu (d+1)) s
def zgQ:List St->Int->σ->Bool×σ
 |[],_,s=>(true,s)
 |x::l,d,s=>match kG x d s with
  |(false,s)=>(false,s)
  |(true,s)=>zgQ l d s
end
theorem YR(x:St)(d:Int)(s:σ):kG q x d s=match q x d s with
 |(false,s)=>(false,s)
 |(true,s)=>match zgQ q x.thn (cu (d+1)) s with
  |(false,s)=>(false,s)
  |(true,s)=>zgQ q x.els (cu (d+1)) s:=by
 cases x;simp only[kG,St.thn,St.els]
theorem YS{l:List St}{i:Nat}(h:i<l.length)(d:Int)(s:σ):zgQ q (l.drop i) d s=match kG q l[i] d s with
 |(false,s)=>(false,s)
 |(true,s)=>zgQ q (l.drop (i+1)) d s:=by
 rw[gW h,zgQ]
end
mutual
def Ex.sz:Ex->Nat
 | .mk _ _ s _ V=>1+s.length+zgR V
def zgR:List Ex->Nat
 |[]=>0
 |e::es=>1+e.sz+zgR es
end
mutual
def St.sz:St->Nat
 | .mk _ J O _ a v j C I=>1+J.length+O.length+a.sz+v.sz+zgR j+zf0 C+zf0 I
def zf0:List St->Nat
 |[]=>0
 |x::l=>1+x.sz+zf0 l
end
def zgU:List (List UInt8)->Nat
 |[]=>0
 |s::l=>1+s.length+zgU l
def Fu.sz(f:Fu):Nat:=1+f.name.length+zgU f.params+zgU f.locals+zf0 f.body+f.value.sz
def ig:List Fu->Nat
 |[]=>0
 |f::l=>1+f.sz+ig l
def jC:List Ar->Nat
 |[]=>0
 |a::l=>1+a.name.length+jC l
def Pr.sz(p:Pr):Nat:=1+jC p.arrays+ig p.funcs
theorem vb:∀l:List Ex,l.length<=zgR l
 |[]=>aE _
 |e::es=>by have:=vb es;simp only[dg,zgR];omega
theorem xu:∀l:List St,l.length<=zf0 l
 |[]=>aE _
 |e::es=>by have:=xu es;simp only[dg,zf0];omega
theorem sf:∀l:List (List UInt8),l.length<=zgU l
 |[]=>aE _
 |e::es=>by have:=sf es;simp only[dg,zgU];omega
theorem tO:∀l:List Fu,l.length<=ig l
 |[]=>aE _
 |e::es=>by have:=tO es;simp only[dg,ig];omega
theorem tQ:∀l:List Ar,l.length<=jC l
 |[]=>aE _
 |e::es=>by have:=tQ es;simp only[dg,jC];omega
theorem tR:∀{l:List Ex}{x:Ex},x∈l->x.sz<zgR l
 |[],_,h=>by simp at h
 |e::es,x,h=>by
  rcases eP.1 h with rfl|h
  .simp only[zgR];omega
  .have:=tR h;simp only[zgR];omega
theorem zh3:∀{l:List St}{x:St},x∈l->x.sz<zf0 l
 |[],_,h=>by simp at h
 |e::es,x,h=>by
  rcases eP.1 h with rfl|h
  .simp only[zf0];omega
  .have:=zh3 h;simp only[zf0];omega
theorem I0:∀{l:List (List UInt8)}{x:List UInt8},x∈l->x.length<zgU l
 |[],_,h=>by simp at h
 |e::es,x,h=>by
  rcases eP.1 h with rfl|h
  .simp only[zgU];omega
  .have:=I0 h;simp only[zgU];omega
theorem pY:∀{l:List Fu}{x:Fu},x∈l->x.sz<ig l
 |[],_,h=>by simp at h
 |e::es,x,h=>by
  rcases eP.1 h with rfl|h
  .simp only[ig];omega
  .have:=pY h;simp only[ig];omega
theorem Ex.sz_eq(e:Ex):e.sz=1+e.name.length+zgR e.kids:=by cases e;simp only[Ex.sz,Ex.name,Ex.kids]
theorem St.sz_eq(x:St):x.sz=1+x.name.length+x.to.length+x.at_.sz+x.value.sz+zgR x.args+zf0 x.thn+zf0 x.els:=by cases x;simp only[St.sz,St.name,St.to,St.at_,St.value,St.args,St.thn,St.els]
structure FrB (base:Nat) (H H':Hp):Prop where
 next:H.next<=H'.next
 get:∀r,base<=r->r<H.next->H'.get r=H.get r
theorem FrB.refl(base:Nat)(H:Hp):FrB base H H:=⟨aE _,fun _ _ _=>rfl⟩
def i8:=@FrB.refl
theorem FrB.trans{base:Nat}{a b c:Hp}(h:FrB base a b)(k:FrB base b c):FrB base a c:=⟨cJ h.next k.next,fun r i g=>(k.get r i (nr g h.next)).trans (h.get r i g)⟩
theorem FrB.alloc{base:Nat}{a b:Hp}(h:FrB base a b)(x:HB):FrB base a (b.alloc x):=⟨cJ h.next (eh _),fun r i g=>by
 have:=h.next
 rw[zfk,af ac];exact h.get r i g⟩
theorem FrB.set{base r:Nat}{a b:Hp}(h:FrB base a b)(hr:a.next<=r\/r<base)(x:HB):FrB base a (b.set r x):=⟨h.next,fun k i g=>by
 rw[aQ,af ac];exact h.get k i g⟩
def iG(base:Nat)(H H':Hp):Prop:=∀r,r<base->H'.get r=H.get r
theorem iG.refl(base:Nat)(H:Hp):iG base H H:=fun _ _=>rfl
def pn:=@iG.refl
theorem iG.trans{base:Nat}{a b c:Hp}(h:iG base a b)(k:iG base b c):iG base a c:=fun r hr=>(k r hr).trans (h r hr)
theorem iG.alloc{base:Nat}{a b:Hp}(h:iG base a b)(o:base<=b.next)(x:HB):iG base a (b.alloc x):=fun r hr=>by rw[zfk,af ac];exact h r hr
theorem iG.set{base r:Nat}{a b:Hp}(h:iG base a b)(hr:base<=r)(x:HB):iG base a (b.set r x):=fun k j=>by rw[aQ,af ac];exact h k j
theorem FrB.weak{base z:Nat}(h:base<=z){a b:Hp}(k:FrB base a b):FrB z a b:=⟨k.next,fun r i g=>k.get r (cJ h i) g⟩
theorem iG.weak{base z:Nat}(h:base<=z){a b:Hp}(k:iG z a b):iG base a b:=fun r hr=>k r (nr hr h)
def nH(x:St)(d:Int)(s:Int×Int):Bool×(Int×Int):=
 let n:=cu (s.1+1)
 let l:=if x.kind=4 then cu (s.2+1)else s.2
 (decide (d<=20)&&decide (n<=200)&&decide (l<=16),(n,l))
def ri(_:Ex)(d:Int):Bool:=decide (d<=20)
def oD(q:Ex->Int->Bool)(x:St)(_:Int)(s:Unit):Bool×Unit:=(mh q x.at_ 0&&mh q x.value 0&&zhs q x.args 0,s)
def oE(q:Ex->Int->Bool)(f:Fu):Bool:=mh q f.value 0&&(zgQ (oD q) f.body 0 ()).1
def jD(f:Fu):Bool:=decide ((f.params.length:Int)<=6)&&decide ((f.locals.length:Int)<=8)&&(zgQ nH f.body 0 (0,0)).1&&oE ri f
def lj(p:Pr):Bool:=!decide (4<(p.arrays.length:Int)) && !decide (8<(p.funcs.length:Int))&&p.arrays.all (fun a=>!decide (a.len<1) && !decide (16<a.len))&&p.funcs.all jD
theorem Ex.pure(x:Ex):fV x.cells:=by
 have U:∀n (x:Ex),x.sz<n->fV x.cells:=by
  intro n;induction n with
  |zero=>intro x h;omega
  |succ n ih=>
   intro x h;rw[pU];refine .cons (.int _ _) (.cons (.int _ _) (.cons (.str _) (.cons (.int _ _) (.cons (.map fun y Z=>ih y ?_) .nil))));have:=tR Z;have:=x.sz_eq;omega
 exact U _ x (cI _)
theorem Aj(l:List Ex):fq (.lst (l.map Ex.cells)):=.map fun x _=>x.pure
theorem St.pure(x:St):fV x.cells:=by
 have Z:∀n (x:St),x.sz<n->fV x.cells:=by
  intro n;induction n with
  |zero=>intro x h;omega
  |succ n ih=>
   intro x h;rw[tI];have:=x.sz_eq;refine .cons (.int _ _) (.cons (.str _) (.cons (.str _) (.cons (.int _ _) (.cons (.int _ _) (.cons (.int _ _) (.cons (.str _) (.cons (.int _ _) (.cons (Aj _) (.cons (.int _ _) (.cons (.int _ _) (.cons (.str _) (.cons (.int _ _) (.cons (Aj _) (.cons (Aj _) (.cons (.map fun y U=>ih y ?_) (.cons (.map fun y U=>ih y ?_) .nil))))))))))))))))
   .have:=zh3 U;omega
   .have:=zh3 U;omega
 exact Z _ x (cI _)
theorem I2(l:List St):fq (.lst (l.map St.cells)):=.map fun x _=>x.pure
theorem xw(l:List (List UInt8)):fq (jp l):=.map fun x _=>.cons (.str _) .nil
theorem Fu.pure(x:Fu):fV x.cells:=by
 rw[xm];exact .cons (.str _) (.cons (xw _) (.cons (xw _) (.cons (I2 _) (.cons (.int _ _) (.cons (.int _ _) (.cons (.str _) (.cons (.int _ _) (.cons (Aj _) .nil))))))))
theorem Ar.pure(x:Ar):fV x.cells:=.cons (.str _) (.cons (.int _ _) .nil)
theorem Pr.pure(x:Pr):fV x.cells:=.cons (.map fun x _=>x.pure) (.cons (.map fun x _=>x.pure) .nil)
theorem ml{i β:Type}{f:i->β}:∀{a b:List i},(∀x∈a,∀y,f x=f y->x=y)->a.map f=b.map f->a=b
 |[],[],_,_=>rfl
 |[],_::_,_,h=>by simp at h
 |_::_,[],_,h=>by simp at h
 |x::a,y::b,hf,h=>by
  simp only[dE,eB]at h;rw[hf x dJ y h.1,ml (fun z I=>hf z (dO _ I)) h.2]
theorem Ex.ext'{x y:Ex}(M:x.kind=y.kind)(h1:x.n=y.n)(h2:x.name=y.name)(m:x.op=y.op)(O:x.kids=y.kids):x=y:=by
 cases x;cases y;simp only[Ex.kind,Ex.n,Ex.name,Ex.op,Ex.kids]at *;simp[*]
theorem Ex.inj{x y:Ex}(h:x.cells=y.cells):x=y:=by
 have U:∀n (x:Ex),x.sz<n->∀y,x.cells=y.cells->x=y:=by
  intro n;induction n with
  |zero=>intro x h;omega
  |succ n ih=>
   intro x h y e;rw[pU,pU]at e;simp only[eB,AV.int.injEq,AV.str.injEq,AV.lst.injEq,kA,a0]at e;obtain⟨Z,Y,m,o,K⟩:=e;refine Ex.ext' Z Y m o (ml (fun z I=>ih z ?_) K);have:=tR I;have:=x.sz_eq;omega
 exact U _ x (cI _) y h
theorem Ak{a b:List Ex}(h:a.map Ex.cells=b.map Ex.cells):a=b:=ml (fun _ _ _=>Ex.inj) h
theorem St.ext'{x y:St}(M:x.kind=y.kind)(h1:x.name=y.name)(h2:x.to=y.to)(m:x.n=y.n)(O:x.at_=y.at_)(K:x.value=y.value)(z:x.args=y.args)(I:x.thn=y.thn)(Z:x.els=y.els):x=y:=by
 cases x;cases y;simp only[St.kind,St.name,St.to,St.n,St.at_,St.value,St.args,St.thn,St.els]at *;simp[*]
theorem St.inj{x y:St}(h:x.cells=y.cells):x=y:=by
 have U:∀n (x:St),x.sz<n->∀y,x.cells=y.cells->x=y:=by
  intro n;induction n with
  |zero=>intro x h;omega
  |succ n ih=>
   intro x h y e;have hs:=x.sz_eq;rw[tI,tI]at e;simp only[eB,AV.int.injEq,AV.str.injEq,AV.lst.injEq,kA,a0]at e;obtain⟨Z,Y,m,o,zhI,C,K,M,V,J,O,L,j,i,g,e7,e8⟩:=e;refine St.ext' Z Y m o (Ex.ext' zhI C K M (Ak V)) (Ex.ext' J O L j (Ak i)) (Ak g) (ml (fun z I=>ih z ?_) e7) (ml (fun z I=>ih z ?_) e8)
   .have:=zh3 I;omega
   .have:=zh3 I;omega
 exact U _ x (cI _) y h
theorem I4{a b:List St}(h:a.map St.cells=b.map St.cells):a=b:=ml (fun _ _ _=>St.inj) h
theorem Al{a b:List (List UInt8)}(h:(a.map fun s=>[AV.str s])=b.map fun s=>[AV.str s]):a=b:=ml (fun x _ y e=>by simpa using e) h
theorem Fu.inj{x y:Fu}(h:x.cells=y.cells):x=y:=by
 obtain⟨n,p,l,b,v⟩:=x;obtain⟨O,M,g,L,K⟩:=y;rw[xm,xm]at h;simp only[eB,AV.int.injEq,AV.str.injEq,AV.lst.injEq,kA,a0]at h;obtain⟨z,Z,m,o,J,Y,I,V,U⟩:=h;rw[z,Al Z,Al m,I4 o,Ex.ext' J Y I V (Ak U)]
theorem Ar.inj{x y:Ar}(h:x.cells=y.cells):x=y:=by
 obtain⟨n,p⟩:=x;obtain⟨z,U⟩:=y;simp only[Ar.cells,eB,AV.int.injEq,AV.str.injEq,kA,a0]at h;rw[h.1,h.2]
theorem Pr.inj{x y:Pr}(h:x.cells=y.cells):x=y:=by
 obtain⟨n,p⟩:=x;obtain⟨z,U⟩:=y;simp only[Pr.cells,eB,AV.lst.injEq,a0]at h;rw[ml (fun _ _ _=>Ar.inj) h.1,ml (fun _ _ _=>Fu.inj) h.2]
theorem Am(l:List Int):fq (gg l):=.map fun x _=>.cons (.int _ _) .nil
theorem Nd.pure(x:Nd):fV x.cells:=.cons (.int _ _) (.cons (.int _ _) (.cons (Am _) .nil))
theorem Gr.pure(x:Gr):fV x.cells:=.cons (.str _) (.cons (.int _ _) (.cons (.map fun y _=>y.pure) (.cons (.int _ _) (.cons (.int _ _) .nil))))
theorem Un.pure(x:Un):fV x.cells:=.cons (.map fun y _=>y.pure) (.cons (.map fun y _=>y.pure) .nil)
theorem I5{a b:List Int}(h:(a.map fun n=>[AV.int .i64 n])=b.map fun n=>[AV.int .i64 n]):a=b:=ml (fun x _ y e=>by simpa using e) h
theorem Nd.inj{x y:Nd}(h:x.cells=y.cells):x=y:=by
 obtain⟨n,p,k⟩:=x;obtain⟨z,U,k'⟩:=y;simp only[Nd.cells,eB,AV.int.injEq,AV.lst.injEq,kA,a0]at h;rw[h.1,h.2.1,I5 h.2.2]
theorem Gr.inj{x y:Gr}(h:x.cells=y.cells):x=y:=by
 obtain⟨n,p,l,v,s⟩:=x;obtain⟨z,U,Z,Y,V⟩:=y;simp only[Gr.cells,eB,AV.int.injEq,AV.str.injEq,AV.lst.injEq,kA,a0]at h;obtain⟨i,g,m,O,K⟩:=h;rw[i,g,ml (fun _ _ _=>Nd.inj) m,O,K]
theorem Un.inj{x y:Un}(h:x.cells=y.cells):x=y:=by
 obtain⟨n,p⟩:=x;obtain⟨z,U⟩:=y;simp only[Un.cells,eB,AV.lst.injEq,a0]at h;rw[ml (fun _ _ _=>Ar.inj) h.1,ml (fun _ _ _=>Gr.inj) h.2]
def oF(n:Int):Bool:=(decide (97<=n)&&decide (n<=122))||(decide (65<=n)&&decide (n<=90))||decide (n=95)
def mN(n:Int):Bool:=decide (48<=n)&&decide (n<=57)
def kH(b:UInt8):Bool:=oF b.toNat||mN b.toNat
def zgX:List UInt8->Nat
 |[]=>0
 |b::s=>if kH b then zgX s+1 else 0
theorem I6:∀s:List UInt8,zgX s<=s.length
 |[]=>aE _
 |b::s=>by have:=I6 s;simp only[zgX,dg];split<;>omega
def jE:List UInt8->Nat
 |[]=>0
 |b::s=>if b.toNat=10 then 0 else jE s+1
theorem I7:∀s:List UInt8,jE s<=s.length
 |[]=>aE _
 |b::s=>by have:=I7 s;simp only[jE,dg];split<;>omega
def jX(b:UInt8):Bool:=decide (b.toNat=32)||decide (b.toNat=9)||decide (b.toNat=10)||decide (b.toNat=13)
def zg2:Bool->List UInt8->Nat
 |_,[]=>0
 |true,b::s=>if b.toNat=10 then (if jX b then zg2 false s+1 else 0)else zg2 true s+1
 |false,b::s=>if jX b then zg2 false s+1 else if b.toNat=35 then zg2 true s+1 else 0
theorem I8:∀s:List UInt8,zg2 true s=jE s+zg2 false (s.drop (jE s))
 |[]=>rfl
 |b::s=>by
  simp only[zg2,jE];by_cases h:b.toNat=10
  .have o:jX b=true:=by unfold jX;simp[h]
   simp[h,o,zg2]
  .simp only[h,cS,va,I8 s];omega
theorem vc:∀(c:Bool) (s:List UInt8),zg2 c s<=s.length
 |c,[]=>by cases c<;>exact aE _
 |true,b::s=>by have i:=vc true s;have g:=vc false s;simp only[zg2,dg];split<;>(try split)<;>omega
 |false,b::s=>by have i:=vc true s;have g:=vc false s;simp only[zg2,dg];split<;>(try split)<;>omega
def I9(s:List UInt8)(k:Tk)(e:Int):Prop:=
 k.at_=0/\(e=0->∃n,1<=n/\n<=s.length/\k.text=s.take n/\(k.kind=1->n=zgX s/\n<=16/\∀b,s[0]?=some b->mN b.toNat=false)) /\
 (1<=zgX s->zgX s<=16->(∀b,s[0]?=some b->mN b.toNat=false)->e=0/\k=⟨1,s.take (zgX s),0⟩)
def sg(s:List UInt8):Prop:=1<=zgX s/\zgX s=s.length/\s.length<=16/\∀b,s[0]?=some b->mN b.toNat=false
def An(s:List UInt8)(Z:List Tk):Prop:=∀k J,Z=k::J->∃k0,I9 (s.drop (zg2 false s)) k0 0/\k.kind=k0.kind/\k.text=k0.text
def vd(lo:Nat)(H:Hp)(J:AV)(Z:List Tk):Prop:=(Z=[]/\J=.nilS)\/∃r,J=.sl r 0 Z.length 3/\H.get r=some (.cells (Z.flatMap Tk.cells) 0 true)/\lo<r/\r<H.next/\Z≠[]
theorem YT{s:List UInt8}(h:sg s):zg2 false s=0:=by
 obtain⟨i,g,m,O⟩:=h;cases s with
 |nil=>rfl
 |cons b s=>
  have hd:=O b rfl;simp only[zgX]at i;have M:kH b=true:=by
   cases o:kH b with
   |true=>rfl
   |false=>rw[o]at i;simp at i
  simp only[kH,hd,gK]at M;have C:jX b=false:=by
   unfold jX;simp only[oF,oB,iX]at M;simp;omega
  have V:¬b.toNat=35:=by
   simp only[oF,oB,iX]at M;omega
  simp only[zg2,C,dm,cS,V]
theorem Ja:∀ts:List Tk,(ts.flatMap Tk.cells).length=ts.length*3
 |[]=>rfl
 |t::ts=>by rw[tL,fG,Ja ts,Tk.clen,dg];omega
theorem FrB.kill{base r:Nat}{a b:Hp}(h:FrB base a b)(hr:a.next<=r):FrB base a (b.kill r):=⟨h.next,fun k i g=>by
 rw[zhm,af ac];exact h.get k i g⟩
def ll(s:List UInt8):Bool:=decide (1<=zgX s)&&decide (zgX s=s.length)&&decide (s.length<=16)&&(match s with|b::_=>!mN b.toNat|[]=>true)
theorem Ao(s:List UInt8):ll s=true↔sg s:=by
 unfold ll sg;cases s with
 |nil=>simp[zgX]
 |cons b s=>simp[and_assoc]
def sh(s:List UInt8):Bool:=decide (s=[97,114,114,97,121])||decide (s=[102,117,110,99])||decide (s=[118,97,114])||decide (s=[114,101,116,117,114,110])||decide (s=[105,102])||decide (s=[101,108,115,101])||decide (s=[119,104,105,108,101])||decide (s=[111,117,116])||decide (s=[116,114,97,112])
def zf7(s:List UInt8):Bool:=ll s && !sh s
theorem YU{s:List UInt8}{k:Tk}{J:List Tk}(h:An s (k::J))(j:k.kind=1)(C:k.text=s):sg s:=by
 obtain⟨k0,i,g,m⟩:=h k J rfl;obtain⟨n,zgn,V,Y,o⟩:=i.2.1 rfl;obtain⟨U,O,Z⟩:=o (by rw[<-g];exact j);rw[<-m,C]at Y;have L:=kz List.length Y;rw[jR,ku]at L;rw[ku]at V;have K:zg2 false s=0:=ac;rw[K,fo]at U Z;have z:n=s.length:=ac;exact⟨ac,ac,ac,Z⟩
end Go.Ab
