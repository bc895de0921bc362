/- Lemmas for the last file. -/
import Derived.Test.YtbflaciihaijgaaSEE
set_option linter.all false
set_option maxHeartbeats 32000000
namespace Go.Ab
set_option maxRecDepth 20000
open Go
variable{qb:Prop}
def rR(h:qb:=by first|(dsimp only[jv,rp];first|done|exact rfl)|(dsimp only[];first|done|exact rfl)|exact rfl):=h
def mB(h:qb:=by first|(dsimp only[aJ];first|done|exact rfl)|exact rfl):=h
def ce(h:qb:=by ((first|simp only[a2,Nat.reduceBEq,ne_eq,not_false_eq_true, *,-hK]|simp only[a2,Nat.reduceBEq,ne_eq,not_false_eq_true, *]|skip);first|done|with_reducible rfl)):=h
def dT(h:qb:=by ((first|simp only[a2,bG,tyF,Nat.reduceBEq,Nat.reduceAdd,Nat.reduceLeDiff,ne_eq,not_false_eq_true, *,-hK]|simp only[a2,bG,tyF,Nat.reduceBEq,Nat.reduceAdd,Nat.reduceLeDiff,ne_eq,not_false_eq_true, *]|skip);first|done|with_reducible rfl)):=h
def mC(h:qb:=by ((try simp only[cb,cH,jx,Nat.add_assoc,Nat.reduceAdd,Nat.zero_add]);with_reducible rfl)):=h
def xB(h:qb:=by ((first|simp only[a2,Nat.reduceBEq,eL,ne_eq,not_false_eq_true, *,-hK]|simp only[a2,Nat.reduceBEq,eL,ne_eq,not_false_eq_true, *]|skip);first|done|with_reducible rfl)):=h
def xC(h:qb:=by ((first|simp only[a2,Nat.reduceBEq,cN,List.cons_append,List.nil_append,ne_eq,not_false_eq_true, *,-hK]|simp only[a2,Nat.reduceBEq,cN,List.cons_append,List.nil_append,ne_eq,not_false_eq_true, *]|skip);first|done|with_reducible rfl)):=h
def xD(h:qb:=by ((first|simp only[a2,Nat.reduceBEq,ev,ne_eq,not_false_eq_true, *,-hK]|simp only[a2,Nat.reduceBEq,ev,ne_eq,not_false_eq_true, *]|skip);first|done|with_reducible rfl)):=h
def cc(h:qb:=by ((first|simp only[a2,Nat.reduceBEq,ne_eq,not_false_eq_true,decide_true,decide_false,Int.reduceEq,Int.reduceLE,Int.reduceToNat,Nat.mul_one, *,-hK]|simp only[a2,Nat.reduceBEq,ne_eq,not_false_eq_true,decide_true,decide_false,Int.reduceEq,Int.reduceLE,Int.reduceToNat,Nat.mul_one, *]|skip);first|done|with_reducible rfl)):=h
def dU(h:qb:=by ((first|simp only[a2,bG,tyF,Nat.reduceBEq,Nat.reduceAdd,Nat.reduceLeDiff,ne_eq,not_false_eq_true,decide_true,decide_false,Int.reduceEq,Int.reduceLE,Int.reduceToNat,Nat.mul_one, *,-hK]|simp only[a2,bG,tyF,Nat.reduceBEq,Nat.reduceAdd,Nat.reduceLeDiff,ne_eq,not_false_eq_true,decide_true,decide_false,Int.reduceEq,Int.reduceLE,Int.reduceToNat,Nat.mul_one, *]|skip);first|done|with_reducible rfl)):=h
def xE(h:qb:=by ((first|simp only[a2,Nat.reduceBEq,eL,ne_eq,not_false_eq_true,decide_true,decide_false,Int.reduceEq,Int.reduceLE,Int.reduceToNat,Nat.mul_one, *,-hK]|simp only[a2,Nat.reduceBEq,eL,ne_eq,not_false_eq_true,decide_true,decide_false,Int.reduceEq,Int.reduceLE,Int.reduceToNat,Nat.mul_one, *]|skip);first|done|with_reducible rfl)):=h
def xF(h:qb:=by ((first|simp only[a2,Nat.reduceBEq,cN,List.cons_append,List.nil_append,ne_eq,not_false_eq_true,decide_true,decide_false,Int.reduceEq,Int.reduceLE,Int.reduceToNat,Nat.mul_one, *,-hK]|simp only[a2,Nat.reduceBEq,cN,List.cons_append,List.nil_append,ne_eq,not_false_eq_true,decide_true,decide_false,Int.reduceEq,Int.reduceLE,Int.reduceToNat,Nat.mul_one, *]|skip);first|done|with_reducible rfl)):=h
def xG(h:qb:=by ((first|simp only[a2,Nat.reduceBEq,ev,ne_eq,not_false_eq_true,decide_true,decide_false,Int.reduceEq,Int.reduceLE,Int.reduceToNat,Nat.mul_one, *,-hK]|simp only[a2,Nat.reduceBEq,ev,ne_eq,not_false_eq_true,decide_true,decide_false,Int.reduceEq,Int.reduceLE,Int.reduceToNat,Nat.mul_one, *]|skip);first|done|with_reducible rfl)):=h
def xH(h:qb:=by simp only[List.nil_append,List.cons_append,List.append_assoc,List.getElem?_cons_succ,List.getElem?_cons_zero,List.getElem?_nil];rfl):=h
def lD:=@List.cons_append
def rS:=@List.getElem?_cons_succ
def mD:=@List.getElem?_cons_zero
def oH:=@decide_eq_false_iff_not
def rT:=@List.getElem?_nil
def tV:=@Classical.choose_spec
def xI:=And.intro @lD.{0} @j0.{0}
def aT:=And.intro xI @jo.{0}
end Go.Ab
namespace Go.Proofs.Ytbflaciihaijgaa
set_option maxRecDepth 20000
open Go Go.Ab
variable{V:ae->Hp->Prop}{g z:Operand}{W Y p:Prop}{r i n s N:Nat}{cs vs:qh}{O:Array (Nat×Operand)}{c:AV}{U:Option Operand}{I:Int}{A M:qk}{C:IntKind}{Z:qt}{tb:Bool}
def iU:=ac nX rn
def iV:=ac @dE @oH
section
variable {P:Program} {cfg:Cfg} {f:FuncId} {l:List SOp} {E:ae} {H H':Hp} {Q:ae -> Hp -> Prop} {d:Nat} {v a b:AV} {x y:Operand} {t u:TypeId}
def a5(P:Program)(cfg:Cfg)(f:FuncId)(op:Op)(E:ae)(H:Hp)(v:AV)(H':Hp):Prop:=∃n,b6 P cfg (bP P cfg n) f E H op=.val v H'
def a5.of{op:Op}(h:∀Q:ae->Hp->Prop,am P cfg f [] (T.set E 0 (some v)) H' Q->am P cfg f [⟨some 0,op,none⟩] E H Q):a5 P cfg f op E H v H':=by
 have m:=h (fun I V=>I.at 0=v/\V=H') (am.nil ⟨by rw[jw];rfl,rfl⟩);unfold am at m;simp only[]at m;unfold dk at m;obtain⟨n,w,V,o,F⟩:=m;unfold am at F;obtain⟨Y,rfl⟩:=F;have:(aJ E (some 0) w).at 0=w:=wC;rw[this]at Y;exact⟨n,by rw[o,Y]⟩
def bI:=@a5.of
def rU{op:Op}(h:∀Q:ae->Hp->Prop,am P cfg f [] E H' Q->am P cfg f [⟨none,op,none⟩] E H Q):∃v,a5 P cfg f op E H v H':=by
 have m:=h (fun I V=>V=H') (am.nil rfl);unfold am at m;simp only[]at m;unfold dk at m;obtain⟨n,w,V,o,F⟩:=m;unfold am at F;subst F;exact⟨w,n,o⟩
def a5.go{op:Op}(A:am P cfg f l (T.set E d (some v)) H' Q)(h:a5 P cfg f op E H v H'):am P cfg f (⟨some d,op,none⟩::l) E H Q:=by
 obtain⟨n,h⟩:=h;unfold am;show dk _ _ _ _ _ _ _;unfold dk;exact⟨n,v,H',h,A⟩
def xJ{op:Op}(A:am P cfg f l E H' Q)(h:∃v,a5 P cfg f op E H v H'):am P cfg f (⟨none,op,none⟩::l) E H Q:=by
 obtain⟨v,n,h⟩:=h;unfold am;show dk _ _ _ _ _ _ _;unfold dk;exact⟨n,v,H',h,A⟩
attribute [irreducible] a5
def ai{K:ae->Hp->Prop}{R:Prop}(h:R)(hK:∀E H,V E H->K E H:=by assumption)(e:V E H=R:=by exact rR):am P cfg f [] E H K:=am.nil (hK _ _ (e▸h))
def aG{R:Prop}(h:R)(e:Q E H=R:=by first|(dsimp only[];first|done|exact rfl)|exact rfl):am P cfg f [] E H Q:=am.nil (e▸h)
def aH{Y:qy}{I:List Rc}{K:List Rc->ae->Hp->Prop}{R:Prop}(m:ll P cfg Y I H)(h:R)(hK:∀I E' H',ll P cfg Y I H'->V E' H'->K I E' H':=by assumption)(e:V E H=R:=by exact rR):cp P cfg f [] I E H K:=cp.nil (hK _ _ _ m (e▸h))
def Rx.k{g:FuncId}{W:qh}{r:AV}{K:AV->Hp->Prop}{R:Prop}(c:aL P cfg g W H fun v H'=>v=r/\H'=H)(h:R)(e:K r H=R:=by exact mB):aL P cfg g W H K:=aR (by rintro _ _ ⟨rfl,rfl⟩;exact e▸h) c
def Ox.mv(h:ay E x=some v:=by exact ce):a5 P cfg f (.move x) E H v H:=bI fun Q A=>am.move h A
def Ox.as(h:ay E x=some v:=by exact ce):a5 P cfg f (.assign x) E H v H:=bI fun Q A=>am.assign h A
def Ox.pk{t:Bool}(h:ay E x=some (.bool t):=by exact ce)(m:ay E y=some a:=by exact ce)(o:ay E z=some b:=by exact ce):a5 P cfg f (.pick x y z) E H (et t a b) H:=bI fun Q A=>am.pick h m o A
def Ox.ld(h:ay E x=some a:=by exact ce)(m:dq P H t a=some v:=by exact dT):a5 P cfg f (.load t x) E H v H:=bI fun Q A=>am.load h m A
def Ox.st(h:ay E x=some a:=by exact ce)(m:ay E y=some b:=by exact ce)(o:jg P H t a b=some H':=by exact dT):∃v,a5 P cfg f (.store t x y) E H v H':=rU fun Q A=>am.store h m o A
def Ox.nc{o:Nat}(h:ay E x=some (.ptr r o):=by exact ce):a5 P cfg f (.nilCheck x) E H (.ptr r o) H:=bI fun Q A=>am.nilCheck h A
def Ox.bn{op:BinOp}(h:ay E x=some a:=by exact ce)(m:ay E y=some b:=by exact ce)(o:ct P cfg.bC op t a b=some v:=by exact dT):a5 P cfg f (.binOp op t x y u) E H v H:=bI fun Q A=>am.bJ h m o A
def Ox.un{op:UnOp}(h:ay E x=some a:=by exact ce)(o:jh op a=some v:=by exact dT):a5 P cfg f (.unOp op t x) E H v H:=bI fun Q A=>am.un h o A
def Ox.cv(h:ay E x=some a:=by exact ce)(o:gk P H t u a=some v:=by exact dT):a5 P cfg f (.convert t u x) E H v H:=bI fun Q A=>am.convert h o A
def Ox.fa(h:ay E x=some a:=by exact ce)(o:jP P t a i=some v:=by exact dT):a5 P cfg f (.fieldAddr t x i) E H v H:=bI fun Q A=>wH h o A
def Ox.fi(h:ay E x=some a:=by exact ce)(o:kD P t a i=some v:=by exact dT):a5 P cfg f (.field t x i) E H v H:=bI fun Q A=>am.field h o A
def Ox.ia(h:ay E x=some a:=by exact ce)(m:ay E y=some b:=by exact ce)(o:cV P t a b=some v:=by exact dT):a5 P cfg f (.indexAddr t x y) E H v H:=bI fun Q A=>wI h m o A
def Ox.ix(h:ay E x=some a:=by exact ce)(m:ay E y=some b:=by exact ce)(o:iC P t a b=some v:=by exact dT):a5 P cfg f (.index t x y) E H v H:=bI fun Q A=>am.index h m o A
def Ox.ex(h:ay E x=some a:=by exact ce)(o:Ab.extract a i=some v:=by exact dT):a5 P cfg f (.extract x i) E H v H:=bI fun Q A=>am.extract h o A
def Ox.al{z:qh}(h:bM P t=some z:=by exact dT)(S:some H.next=some n:=by exact mC):a5 P cfg f (.alloc t) E H (.ptr n 0) (H.alloc (.cells z 0 true)):=bI fun Q A=>am.alloc h S A
def Ox.bx(h:ay E x=some a:=by exact ce)(Z:some a.cells=some cs:=by exact dT)(S:some H.next=some n:=by exact mC):a5 P cfg f (.box t x) E H (.ptr n 0) (H.alloc (.cells cs 0 true)):=bI fun Q A=>am.box h Z S A
def Ox.bd{ps:qu}(h:eL E O.toList=some ps:=by exact xB)(o:dA P t ps=some v:=by exact dT):a5 P cfg f (.build t O) E H v H:=bI fun Q A=>am.build h o A
def Ox.bs{ps:qu}(h:eL E O.toList=some ps:=by exact xB)(o:eu P H t n ps=some (v,H'):=by exact dT):a5 P cfg f (.buildSlice t n O) E H v H':=bI fun Q A=>wJ h o A
def Ox.mm(S:some H.next=some n:=by exact mC):a5 P cfg f (.makeMap t none) E H (.map n) (H.alloc (.map [])):=bI fun Q A=>am.makeMap S A
def Ox.ms(h:ay E x=some a:=by exact ce)(m:ay E y=some b:=by exact ce)(o:iE P H t a b=some (v,H'):=by exact dT):a5 P cfg f (.makeSlice t x y) E H v H':=bI fun Q A=>wL h m o A
def Ox.lu{ok:Bool}(h:ay E x=some a:=by exact ce)(m:ay E y=some b:=by exact ce)(o:di P H t a b ok=some v:=by exact dT):a5 P cfg f (.lookup t x y ok) E H v H:=bI fun Q A=>am.lookup h m o A
def Ox.mu(h:ay E x=some a:=by exact ce)(m:ay E y=some b:=by exact ce)(o:ay E z=some c:=by exact ce)(F:hT P H t a b c=some H':=by exact dT):∃v,a5 P cfg f (.mapUpdate t x y z) E H v H':=rU fun Q A=>wK h m o F A
def Ox.mf{g:FuncId}{cap:Array Operand}(h:cN E cap.toList=some vs:=by exact xC):a5 P cfg f (.makeFunc (.func g) #[] cap) E H (.bj g vs) H:=bI fun Q A=>am.makeFunc h A
def Ox.sl{I:Option Operand}(h:ay E x=some a:=by exact ce)(m:ev E U=some A:=by exact xD)(o:ev E I=some M:=by exact xD)(F:gD P H t a A M=some v:=by exact dT):a5 P cfg f (.slice t x U I none) E H v H:=bI fun Q Z=>am.slice h m o F Z
def Ox.ln(h:ay E x=some a:=by exact ce)(m:dr P H t a=some c:=by exact dT):a5 P cfg f (.call ⟨.builtin .len,#[x],#[t]⟩) E H c H:=bI fun Q A=>am.len h m A
def Ox.ap(h:ay E x=some a:=by exact ce)(m:ay E y=some b:=by exact ce)(o:dh P (cfg.az f) H t u a b=some (v,H'):=by exact dT):a5 P cfg f (.call ⟨.builtin .append,#[x,y],#[t,u]⟩) E H v H':=bI fun Q A=>tK h m o A
def Ox.mi{ts:Array TypeId}{k:IntKind}{Y:Int}(h:ay E x=some (.int k I):=by exact ce)(m:ay E y=some (.int C Y):=by exact ce):a5 P cfg f (.call ⟨.builtin .min,#[x,y],ts⟩) E H (.int k (min I Y)) H:=bI fun Q A=>am.min2 h m A
def Ox.ma{ts:Array TypeId}{k:IntKind}{Y:Int}(h:ay E x=some (.int k I):=by exact ce)(m:ay E y=some (.int C Y):=by exact ce):a5 P cfg f (.call ⟨.builtin .max,#[x,y],ts⟩) E H (.int k (max I Y)) H:=bI fun Q A=>am.max2 h m A
def Rx.o{op:Op}(A:am P cfg f l (T.set E d (some v)) H' Q)(h:a5 P cfg f op E H v H':=by first|apply(Ox.mv)|apply(Ox.as)|apply(Ox.pk)|apply(Ox.ld)|apply(Ox.nc)|apply(Ox.bn)|apply(Ox.un)|apply(Ox.cv)|apply(Ox.fa)|apply(Ox.fi)|apply(Ox.ia)|apply(Ox.ix)|apply(Ox.ex)|apply(Ox.al)|apply(Ox.bx)|apply(Ox.bd)|apply(Ox.bs)|apply(Ox.mm)|apply(Ox.ms)|apply(Ox.lu)|apply(Ox.mf)|apply(Ox.sl)|apply(Ox.ln)|apply(Ox.ap)|apply(Ox.mi)|apply(Ox.ma)):am P cfg f (⟨some d,op,none⟩::l) E H Q:=a5.go A h
def Rx.on{op:Op}(A:am P cfg f l E H' Q)(h:∃v,a5 P cfg f op E H v H':=by first|apply(Ox.st)|apply(Ox.mu)):am P cfg f (⟨none,op,none⟩::l) E H Q:=xJ A h
def aU:=@Rx.on
theorem Rx.call{c:Call}{k:FuncId}{cap W:qh}(A:aL P cfg k W H fun v H'=>am P cfg f l (aJ E Z v) H' Q)(Y:c.callee=.value g:=by rfl)(L:ay E g=some (.bj k cap):=by exact ce)(M:cN E c.args.toList=some vs:=by exact xC)(V:vs++cap=W:=by simp only[aT];first|done|exact rfl):am P cfg f (⟨Z,.call c,none⟩::l) E H Q:=aS Y L M (V▸A)
def oI:=@Rx.call
def Rx.gu{op:Op}{t:Bool}{v:AV}{R:Prop}(A:R)(h:some (E.at s)=some v:=by exact ce)(M:v=b5:=by with_reducible rfl)(e:am P cfg f l (aJ E Z b5) H Q=R:=by exact mB):am P cfg f (⟨Z,op,some (s,t)⟩::l) E H Q:=wG h M (e▸A)
def gW:=@Rx.gu
def Rx.gd{op:Op}{t:Bool}{C V R:Prop}(m:Y->C->am P cfg f (⟨Z,op,none⟩::l) E H Q)(o:W->V->R)(h:E.at s=.bool t:=by exact ce)(A:(t=tb)=Y:=by(try simp only[iU,reduceCtorEq]);first|done|exact rfl)(U:(t=!tb)=W:=by(try simp only[iU,reduceCtorEq]);first|done|exact rfl)(S:Y=C:=by(try simp only[iV]);first|done|exact rfl)(J:W=V:=by(try simp only[iV]);first|done|exact rfl)(e:am P cfg f l (aJ E Z b5) H Q=R:=by exact mB):am P cfg f (⟨Z,op,some (s,tb)⟩::l) E H Q:=am.guard h (fun k=>m (A▸k) (S▸A▸k)) (fun k=>e▸o (U▸k) (J▸U▸k))
def gg:=@Rx.gd
def Rx.cd{W V:SC}{Q:AX->ae->Hp->Prop}{t:Bool}{Z C U:Prop}(m:Y->C->bc P cfg f N W E H Q)(o:Z->U->bc P cfg f N V E H Q)(O:ay E x=some (.bool t):=by exact ce)(A:(t=true)=Y:=by(try simp only[iU,reduceCtorEq]);first|done|exact rfl)(S:(t=false)=Z:=by(try simp only[iU,reduceCtorEq]);first|done|exact rfl)(M:Y=C:=by(try simp only[iV]);first|done|exact rfl)(J:Z=U:=by(try simp only[iV]);first|done|exact rfl):bc P cfg f N (.cond x W V) E H Q:=bc.cond O (fun k=>m (A▸k) (M▸A▸k)) (fun k=>o (S▸k) (J▸S▸k))
def bt:=@Rx.cd
def Oy.mv(h:ay E x=some v:=by exact cc):a5 P cfg f (.move x) E H v H:=bI fun Q A=>am.move h A
def Oy.as(h:ay E x=some v:=by exact cc):a5 P cfg f (.assign x) E H v H:=bI fun Q A=>am.assign h A
def Oy.pk{t:Bool}(h:ay E x=some (.bool t):=by exact cc)(m:ay E y=some a:=by exact cc)(o:ay E z=some b:=by exact cc):a5 P cfg f (.pick x y z) E H (et t a b) H:=bI fun Q A=>am.pick h m o A
def Oy.ld(h:ay E x=some a:=by exact cc)(m:dq P H t a=some v:=by exact dU):a5 P cfg f (.load t x) E H v H:=bI fun Q A=>am.load h m A
def Oy.st(h:ay E x=some a:=by exact cc)(m:ay E y=some b:=by exact cc)(o:jg P H t a b=some H':=by exact dU):∃v,a5 P cfg f (.store t x y) E H v H':=rU fun Q A=>am.store h m o A
def Oy.nc{o:Nat}(h:ay E x=some (.ptr r o):=by exact cc):a5 P cfg f (.nilCheck x) E H (.ptr r o) H:=bI fun Q A=>am.nilCheck h A
def Oy.bn{op:BinOp}(h:ay E x=some a:=by exact cc)(m:ay E y=some b:=by exact cc)(o:ct P cfg.bC op t a b=some v:=by exact dU):a5 P cfg f (.binOp op t x y u) E H v H:=bI fun Q A=>am.bJ h m o A
def Oy.un{op:UnOp}(h:ay E x=some a:=by exact cc)(o:jh op a=some v:=by exact dU):a5 P cfg f (.unOp op t x) E H v H:=bI fun Q A=>am.un h o A
def Oy.cv(h:ay E x=some a:=by exact cc)(o:gk P H t u a=some v:=by exact dU):a5 P cfg f (.convert t u x) E H v H:=bI fun Q A=>am.convert h o A
def Oy.fa(h:ay E x=some a:=by exact cc)(o:jP P t a i=some v:=by exact dU):a5 P cfg f (.fieldAddr t x i) E H v H:=bI fun Q A=>wH h o A
def Oy.fi(h:ay E x=some a:=by exact cc)(o:kD P t a i=some v:=by exact dU):a5 P cfg f (.field t x i) E H v H:=bI fun Q A=>am.field h o A
def Oy.ia(h:ay E x=some a:=by exact cc)(m:ay E y=some b:=by exact cc)(o:cV P t a b=some v:=by exact dU):a5 P cfg f (.indexAddr t x y) E H v H:=bI fun Q A=>wI h m o A
def Oy.ix(h:ay E x=some a:=by exact cc)(m:ay E y=some b:=by exact cc)(o:iC P t a b=some v:=by exact dU):a5 P cfg f (.index t x y) E H v H:=bI fun Q A=>am.index h m o A
def Oy.ex(h:ay E x=some a:=by exact cc)(o:Ab.extract a i=some v:=by exact dU):a5 P cfg f (.extract x i) E H v H:=bI fun Q A=>am.extract h o A
def Oy.al{z:qh}(h:bM P t=some z:=by exact dU)(S:some H.next=some n:=by exact mC):a5 P cfg f (.alloc t) E H (.ptr n 0) (H.alloc (.cells z 0 true)):=bI fun Q A=>am.alloc h S A
def Oy.bx(h:ay E x=some a:=by exact cc)(Z:some a.cells=some cs:=by exact dU)(S:some H.next=some n:=by exact mC):a5 P cfg f (.box t x) E H (.ptr n 0) (H.alloc (.cells cs 0 true)):=bI fun Q A=>am.box h Z S A
def Oy.bd{ps:qu}(h:eL E O.toList=some ps:=by exact xE)(o:dA P t ps=some v:=by exact dU):a5 P cfg f (.build t O) E H v H:=bI fun Q A=>am.build h o A
def Oy.bs{ps:qu}(h:eL E O.toList=some ps:=by exact xE)(o:eu P H t n ps=some (v,H'):=by exact dU):a5 P cfg f (.buildSlice t n O) E H v H':=bI fun Q A=>wJ h o A
def Oy.mm(S:some H.next=some n:=by exact mC):a5 P cfg f (.makeMap t none) E H (.map n) (H.alloc (.map [])):=bI fun Q A=>am.makeMap S A
def Oy.ms(h:ay E x=some a:=by exact cc)(m:ay E y=some b:=by exact cc)(o:iE P H t a b=some (v,H'):=by exact dU):a5 P cfg f (.makeSlice t x y) E H v H':=bI fun Q A=>wL h m o A
def Oy.lu{ok:Bool}(h:ay E x=some a:=by exact cc)(m:ay E y=some b:=by exact cc)(o:di P H t a b ok=some v:=by exact dU):a5 P cfg f (.lookup t x y ok) E H v H:=bI fun Q A=>am.lookup h m o A
def Oy.mu(h:ay E x=some a:=by exact cc)(m:ay E y=some b:=by exact cc)(o:ay E z=some c:=by exact cc)(F:hT P H t a b c=some H':=by exact dU):∃v,a5 P cfg f (.mapUpdate t x y z) E H v H':=rU fun Q A=>wK h m o F A
def Oy.mf{g:FuncId}{cap:Array Operand}(h:cN E cap.toList=some vs:=by exact xF):a5 P cfg f (.makeFunc (.func g) #[] cap) E H (.bj g vs) H:=bI fun Q A=>am.makeFunc h A
def Oy.sl{I:Option Operand}(h:ay E x=some a:=by exact cc)(m:ev E U=some A:=by exact xG)(o:ev E I=some M:=by exact xG)(F:gD P H t a A M=some v:=by exact dU):a5 P cfg f (.slice t x U I none) E H v H:=bI fun Q Z=>am.slice h m o F Z
def Oy.ln(h:ay E x=some a:=by exact cc)(m:dr P H t a=some c:=by exact dU):a5 P cfg f (.call ⟨.builtin .len,#[x],#[t]⟩) E H c H:=bI fun Q A=>am.len h m A
def Oy.ap(h:ay E x=some a:=by exact cc)(m:ay E y=some b:=by exact cc)(o:dh P (cfg.az f) H t u a b=some (v,H'):=by exact dU):a5 P cfg f (.call ⟨.builtin .append,#[x,y],#[t,u]⟩) E H v H':=bI fun Q A=>tK h m o A
def Oy.mi{ts:Array TypeId}{k:IntKind}{Y:Int}(h:ay E x=some (.int k I):=by exact cc)(m:ay E y=some (.int C Y):=by exact cc):a5 P cfg f (.call ⟨.builtin .min,#[x,y],ts⟩) E H (.int k (min I Y)) H:=bI fun Q A=>am.min2 h m A
def Oy.ma{ts:Array TypeId}{k:IntKind}{Y:Int}(h:ay E x=some (.int k I):=by exact cc)(m:ay E y=some (.int C Y):=by exact cc):a5 P cfg f (.call ⟨.builtin .max,#[x,y],ts⟩) E H (.int k (max I Y)) H:=bI fun Q A=>am.max2 h m A
def Ry.o{op:Op}(A:am P cfg f l (T.set E d (some v)) H' Q)(h:a5 P cfg f op E H v H':=by first|apply(Oy.mv)|apply(Oy.as)|apply(Oy.pk)|apply(Oy.ld)|apply(Oy.nc)|apply(Oy.bn)|apply(Oy.un)|apply(Oy.cv)|apply(Oy.fa)|apply(Oy.fi)|apply(Oy.ia)|apply(Oy.ix)|apply(Oy.ex)|apply(Oy.al)|apply(Oy.bx)|apply(Oy.bd)|apply(Oy.bs)|apply(Oy.mm)|apply(Oy.ms)|apply(Oy.lu)|apply(Oy.mf)|apply(Oy.sl)|apply(Oy.ln)|apply(Oy.ap)|apply(Oy.mi)|apply(Oy.ma)):am P cfg f (⟨some d,op,none⟩::l) E H Q:=a5.go A h
def Ry.on{op:Op}(A:am P cfg f l E H' Q)(h:∃v,a5 P cfg f op E H v H':=by first|apply(Oy.st)|apply(Oy.mu)):am P cfg f (⟨none,op,none⟩::l) E H Q:=xJ A h
def aY:=@Ry.on
theorem Ry.call{c:Call}{k:FuncId}{cap W:qh}(A:aL P cfg k W H fun v H'=>am P cfg f l (aJ E Z v) H' Q)(Y:c.callee=.value g:=by rfl)(L:ay E g=some (.bj k cap):=by exact cc)(M:cN E c.args.toList=some vs:=by exact xF)(V:vs++cap=W:=by simp only[aT];first|done|exact rfl):am P cfg f (⟨Z,.call c,none⟩::l) E H Q:=aS Y L M (V▸A)
def bu:=@Ry.call
def Ry.gu{op:Op}{t:Bool}{v:AV}{R:Prop}(A:R)(h:some (E.at s)=some v:=by exact cc)(M:v=b5:=by with_reducible rfl)(e:am P cfg f l (aJ E Z b5) H Q=R:=by exact mB):am P cfg f (⟨Z,op,some (s,t)⟩::l) E H Q:=wG h M (e▸A)
def dw:=@Ry.gu
def Ry.gd{op:Op}{t:Bool}{C V R:Prop}(m:Y->C->am P cfg f (⟨Z,op,none⟩::l) E H Q)(o:W->V->R)(h:E.at s=.bool t:=by exact cc)(A:(t=tb)=Y:=by(try simp only[iU,reduceCtorEq]);first|done|exact rfl)(U:(t=!tb)=W:=by(try simp only[iU,reduceCtorEq]);first|done|exact rfl)(S:Y=C:=by(try simp only[iV]);first|done|exact rfl)(J:W=V:=by(try simp only[iV]);first|done|exact rfl)(e:am P cfg f l (aJ E Z b5) H Q=R:=by exact mB):am P cfg f (⟨Z,op,some (s,tb)⟩::l) E H Q:=am.guard h (fun k=>m (A▸k) (S▸A▸k)) (fun k=>e▸o (U▸k) (J▸U▸k))
def a6:=@Ry.gd
def cW{op:Op}{t:Bool}{I:List Rc}{Q:List Rc->ae->Hp->Prop}{C V R:Prop}(m:Y->C->cp P cfg f (⟨Z,op,none⟩::l) I E H Q)(o:W->V->R)(h:E.at s=.bool t:=by exact cc)(A:(t=tb)=Y:=by(try simp only[iU,reduceCtorEq]);first|done|exact rfl)(U:(t=!tb)=W:=by(try simp only[iU,reduceCtorEq]);first|done|exact rfl)(S:Y=C:=by(try simp only[iV]);first|done|exact rfl)(J:W=V:=by(try simp only[iV]);first|done|exact rfl)(e:cp P cfg f l (I++[⟨op,false,E,H,b5,H⟩]) (aJ E Z b5) H Q=R:=by exact mB):cp P cfg f (⟨Z,op,some (s,tb)⟩::l) I E H Q:=cp.guard h (fun k=>m (A▸k) (S▸A▸k)) (fun k=>e▸o (U▸k) (J▸U▸k))
def Ry.cd{W V:SC}{Q:AX->ae->Hp->Prop}{t:Bool}{Z C U:Prop}(m:Y->C->bc P cfg f N W E H Q)(o:Z->U->bc P cfg f N V E H Q)(O:ay E x=some (.bool t):=by exact cc)(A:(t=true)=Y:=by(try simp only[iU,reduceCtorEq]);first|done|exact rfl)(S:(t=false)=Z:=by(try simp only[iU,reduceCtorEq]);first|done|exact rfl)(M:Y=C:=by(try simp only[iV]);first|done|exact rfl)(J:Z=U:=by(try simp only[iV]);first|done|exact rfl):bc P cfg f N (.cond x W V) E H Q:=bc.cond O (fun k=>m (A▸k) (M▸A▸k)) (fun k=>o (S▸k) (J▸S▸k))
def aE:=@Ry.cd
def eE(h:p:=by first|(simp only[a2,Nat.reduceBEq, *];done)|rfl):p:=h
def dx(h:p:=by((try simp only[a2,Nat.reduceBEq, *]);first|done|with_reducible rfl)):p:=h
def jE(h:p:=by((try simp only[a2,bG,tyF,Nat.reduceBEq,Nat.reduceAdd,Nat.reduceLeDiff, *]);first|done|with_reducible rfl)):p:=h
def bj(h:p:=by((try simp only[a2,Nat.reduceBEq,cu,cG, *]);first|done|with_reducible rfl)):p:=h
def rV(h:p:=by((try simp only[a2,bG,tyF,Nat.reduceBEq,Nat.reduceAdd,Nat.reduceLeDiff,cu,cG, *]);first|done|with_reducible rfl)):p:=h
def aV(h:p:=by((try simp only[a2,Nat.reduceBEq, *,-hK]);first|done|with_reducible rfl)):p:=h
def aW(h:p:=by((try simp only[a2,Nat.reduceBEq,cN,xI, *,-hK]);first|done|with_reducible rfl)):p:=h
def qa{P:Program}{cfg:Cfg}{f:FuncId}{E:ae}{H:Hp}{Q:ae->Hp->Prop}{d:qt}{c:Call}{k:FuncId}{cap ws:qh}{l:List SOp}(h:aL P cfg k ws H fun v H'=>am P cfg f l (aJ E d v) H' Q)(i:c.callee=.value g:=by exact rfl)(j:ay E g=some (.bj k cap):=by exact aV)(m:cN E c.args.toList=some vs:=by exact aW)(e:vs++cap=ws:=by(try simp only[aT]);first|done|exact rfl):am P cfg f (⟨d,.call c,none⟩::l) E H Q:=aS i j m (e▸h)
def aN(h:p:=by first|exact .inl rfl|exact .inr rfl|exact .inl trivial|exact .inr trivial):p:=h
def qq{A:Prop}{a:Option qh}{v:qh}{R:qh->Prop}{T:Prop}(h:T)(i:A:=by exact aN)(j:a=some v:=by exact bj)(k:R v=T:=by(try simp only[aM]);first|done|exact rfl):A/\∃vs,a=some vs/\R vs:=⟨i,v,j,k▸h⟩
def cj(h:p:=by simp only[em,ep,df,a2,bG,tyF,Nat.reduceBEq,Nat.reduceAdd,Nat.reduceLeDiff, *]):p:=h
def gX(h:p:=by(try simp only[cb,cH,jx,dd,Nat.reduceAdd]);omega):p:=h
def aj{Q:AX->ae->Hp->Prop}{R:Prop}(h:R)(e:Q .normal E H=R:=by exact rR):bc P cfg f N .skip E H Q:=bc.skip (e▸h)
def aq{Q:AX->ae->Hp->Prop}{R:Prop}(h:R)(e:Q .ret E H=R:=by exact rR):bc P cfg f N .ret E H Q:=bc.ret (e▸h)
def aB{id:Nat}{Q:AX->ae->Hp->Prop}{R:Prop}(h:R)(e:Q (.exit id) E H=R:=by first|(simp only[jv,rp,reduceIte];first|done|exact rfl)|(dsimp only[];first|done|exact rfl)|exact rfl):bc P cfg f N (.exit id) E H Q:=bc.exit (e▸h)
def cC(h:p:=by(refine⟨?_,?_⟩<;>simp only[j0,lD,jm,rS,mD,rT,tI,cb,cH,aA,k5,df]<;>(repeat' apply ac)<;>first
 |(intro r hr;cases hr;done)
 |(refine xb xH (fun hd=>?_)
   simp only[mw,j0,lD,jm,rS,mD,rT]at hd⊢;first
   |(cases hd;done)
   |exact w9 dx jE
   |exact CP dx dx jE
   |exact xa dx jE
   |exact CQ dx jE
   |exact CR dx (by simp only[ev];first|rfl|simp only[a2,Nat.reduceBEq, *]) (by simp only[ev];first|rfl|simp only[a2,Nat.reduceBEq, *]) jE
   |exact CS rfl jE jE)
 |exact aA _
 |assumption
 |omega)):p:=h
variable {N:Nat} {ops:qj} {Q2:AX -> ae -> Hp -> Prop}
def ad(id:Nat)(Y:qy)(h:∀K:List Rc->ae->Hp->Prop,(∀I E' H',ll P cfg Y I H'->Q2 .normal E' H'->K I E' H')->cp P cfg f l [] E H K)(m:cfg.bS f id=.text:=by first|rfl|exact hplan _|(rw[ax.bS];rfl))(J:jW ops=true:=by kernel_rfl)(Z:bB N ops ops=some l:=by simp only[bB,bV,bW,Nat.blt,Nat.ble];rfl)(S:iG ops=Y:=by kernel_rfl):bc P cfg f N (.bl id ops) E H Q2:=CO m J Z S h
def ck(id:Nat)(h:∀K:ae->Hp->Prop,(∀E' H',Q2 .normal E' H'->K E' H')->am P cfg f l E H K)(m:cfg.bS f id=.text:=by first|rfl|exact hplan _|(rw[ax.bS];rfl))(J:rJ ops=true:=by kernel_rfl)(Z:bB N ops ops=some l:=by simp only[bB,bV,bW,Nat.blt,Nat.ble];rfl):bc P cfg f N (.bl id ops) E H Q2:=bc.bl m J Z h
end
end Go.Proofs.Ytbflaciihaijgaa
namespace Go.Ab
set_option maxRecDepth 20000
open Go
variable{l o:qh}{P:Program}{g:FuncId}{H:Hp}
def tW:BinOp->Int->Int->qo
 | .eql,a,b=>some (a == b)
 | .neq,a,b=>some (a != b)
 | .lss,a,b=>some (decide (a<b))
 | .leq,a,b=>some (decide (a<=b))
 | .gtr,a,b=>some (decide (a > b))
 | .geq,a,b=>some (decide (a>=b))
 |_,_,_=>none
theorem EW{op:BinOp}{a b:Int}{r:Bool}(h:tW op a b=some r)(k:IntKind):dI op k a b=some (.bool r):=by
 cases op<;>simp only[tW,reduceCtorEq,ak]at h<;>subst h<;>rfl
def xK:BinOp->Bool
 | .eql=>true
 |_=>false
structure Fact where
 op:BinOp
 a:Sx
 b:Sx
 r:Bool
variable{r:AV}
def oJ:List Fact->BinOp->Sx->Sx->qo
 |[],op,a,b=>match xK op&&Sx.beq a b with
  |true=>some true
  |false=>none
 |p::l,op,a,b=>match decide (p.op=op)&&Sx.beq p.a a&&Sx.beq p.b b with
  |true=>some p.r
  |false=>oJ l op a b
def tX(ρ:Nat->Int)(l:List Fact):Prop:=∀p∈l,tW p.op (p.a.eval ρ) (p.b.eval ρ)=some p.r
def EX(ρ:Nat->Int):tX ρ []:=by simp[tX]
theorem xL{ρ:Nat->Int}:∀{l:List Fact},tX ρ l->fV (oJ l) ρ
 |[],_,op,k,a,b,r,h=>by
  simp only[oJ]at h;split at h
  .rename_i C;simp only[ak]at h;subst h;rw[cI]at C;cases op<;>simp only[xK,bK,false_and]at C;rw[Sx.beq_eq C.2];simp[dI]
  .simp at h
 |p::l,hf,op,k,a,b,r,h=>by
  simp only[oJ]at h;split at h
  .rename_i C;simp only[ak]at h;subst h;simp only[cI,dE]at C;obtain⟨⟨m,o⟩,F⟩:=C;rw[<-Sx.beq_eq o,<-Sx.beq_eq F,<-m];exact EW (hf p gN) k
  .exact xL (fun q A=>hf q (iN _ A)) op k a b r h
def xM(fs:List Fact)(pls:List (Nat×Nat×zae))(l:List (FuncId×qh×AV)):Cfg:={az:=fun _=>false,call:=ji l,aB:=fun f=>l.any fun p=>Nat.beq p.1 f,bS:=ml pls,bC:=oJ fs}
theorem ei.append{P:Program}{ρ:Nat->Int}:∀{a b:List (FuncId×qh×AV)},ei P ρ a->ei P ρ b->ei P ρ (a++b)
 |[],_,_,hb=>hb
 |_::_,_,ha,hb=>⟨ha.1,ei.append ha.2 hb⟩
def dV(v:AV):Prop:=∃k,∀m,k<=m->∀H,iceV H m v=some v
def eW(l:qh):Prop:=∀v∈l,dV v
def eW.nil:eW []:=fun _ h=>k2
def eW.cons{v:AV}(h:dV v)(O:eW l):eW (v::l):=fun w m=>by
 rcases fg.1 m with rfl|m
 .exact h
 .exact O _ m
theorem eW.b4:∀{l:qh},eW l->∃k,∀m,k<=m->∀H,iceL (iceV H m) l=some l
 |[],_=>⟨0,fun _ _ _=>rfl⟩
 |v::l,h=>by
  obtain⟨bD,Y⟩:=h v gN;obtain⟨a4,o⟩:=eW.b4 (l:=l) fun w Z=>h w (iN _ Z)
  exact⟨max bD a4,fun m W H=>by simp only[iceL,Y m aa H,o m aa H]⟩
theorem xN:∀{l:List qh},(∀S∈l,eW S)->∃k,∀m,k<=m->∀H,jX (iceV H m) l=some l
 |[],_=>⟨0,fun _ _ _=>rfl⟩
 |v::l,h=>by
  obtain⟨bD,Y⟩:=(h v gN).b4;obtain⟨a4,o⟩:=xN (l:=l) fun w Z=>h w (iN _ Z)
  exact⟨max bD a4,fun m W H=>by simp only[jX,Y m aa H,o m aa H]⟩
def dV.one{v:AV}(h:∀m H,iceV H (m+1) v=some v):dV v:=⟨1,fun m W H=>by
 obtain⟨m,rfl⟩:∃k,m=k+1:=⟨m-1,aa⟩;exact h m H⟩
theorem dV.int(k:IntKind)(n:Int):dV (.int k n):=.one fun _ _=>rfl
theorem dV.bool(b:Bool):dV (.bool b):=.one fun _ _=>rfl
theorem dV.ad(s:qi):dV (.ad s):=.one fun _ _=>rfl
theorem dV.ab:dV .ab:=.one fun _ _=>rfl
def dV.af{l:List qh}(h:∀S∈l,eW S):dV (.af l):=by
 obtain⟨k,A⟩:=xN h;refine⟨k+1,fun m W H=>?_⟩;obtain⟨m,rfl⟩:∃k,m=k+1:=⟨m-1,aa⟩;simp only[iceV,A m aa H]
def dV.aC(h:eW l):dV (.aC l):=by
 obtain⟨k,A⟩:=h.b4;refine⟨k+1,fun m W H=>?_⟩;obtain⟨m,rfl⟩:∃k,m=k+1:=⟨m-1,aa⟩;simp only[iceV,A m aa H]
def xO(h:eW o):∃k,iH k o=true:=by
 obtain⟨k,A⟩:=h.b4;exact⟨k,by unfold iH;rw[A k (aA _) bA];exact iR o⟩
def EY{cfg:Cfg}(fit:Fit P){ρ:Nat->Int}(F:fV cfg.bC ρ)(Z:∀f o r,cfg.call f o=some r->bN P ρ f o r){o:qh}{r:AV}
 (J:eW o) (hr:dV r) (h:aL P cfg g o bA fun v _=>v=r):bN P ρ g o r:=by
 obtain⟨k,A⟩:=xO J;obtain⟨m,W⟩:=hr;exact tJ (m:=m) fit F Z A (aR (fun v H' e=>by rw[e];exact W m (aA _) H') h)
def EZ{cfg:Cfg}(fit:Fit P){ρ:Nat->Int}(F:fV cfg.bC ρ)(Z:∀f o r,cfg.call f o=some r->bN P ρ f o r){o:qh}{r:AV}{m:Nat}
 (J:eW o) (h:aL P cfg g o bA fun v H'=>iceV H' m v=some r):bN P ρ g o r:=by
 obtain⟨k,A⟩:=xO J;exact tJ (m:=m) fit F Z A h
structure En where
 f:FuncId
 aB:Bool
 sp:qh->qk
variable{f:FuncId}
abbrev qs:=List En
def fF:qs->FuncId->qh->qk
 |[],_,_=>none
 |e::l,f,args=>match Nat.beq e.f f with
  |true=>e.sp args
  |false=>fF l f args
def rW:qs->FuncId->Bool
 |[],_=>false
 |e::l,f=>match Nat.beq e.f f with
  |true=>e.aB
  |false=>rW l f
noncomputable def a1(pls:List (Nat×Nat×zae))(l:qs):Cfg:={az:=fun _=>false,call:=fF l,aB:=rW l,bS:=ml pls}
def iW(P:Program)(ρ:Nat->Int)(e:En):Prop:=∀o r,e.sp o=some r->bN P ρ e.f o r
def iX(P:Program)(ρ:Nat->Int):qs->Prop
 |[]=>True
 |e::l=>iW P ρ e/\iX P ρ l
theorem iX.bV{P:Program}{ρ:Nat->Int}:∀{l:qs},iX P ρ l->∀f o r,fF l f o=some r->bN P ρ f o r
 |[],_,_,_,_,h=>by simp[fF]at h
 |e::l,hl,f,o,r,h=>by
  simp only[fF]at h;split at h
  .rename_i Z;rw[<-dN Z];exact hl.1 o r h
  .exact iX.bV hl.2 f o r h
noncomputable def fG{W:Type}(ok:W->Prop)(enc:W->qh)(out:W->AV)(o:qh):qk:=open Classical in
 if h:∃x,ok x/\enc x=o then some (out (Classical.choose h))else none
def E9{W:Type}{ok:W->Prop}{enc:W->qh}{out:W->AV}(Z:∀x y,enc x=enc y->x=y){x:W}(U:ok x):fG ok enc out (enc x)=some (out x):=by
 unfold fG;have h:∃y,ok y/\enc y=enc x:=⟨x,U,rfl⟩;rw[dif_pos h];rw[Z _ _ (tV h).2]
def kg{ρ:Nat->Int}{W:Type}{ok:W->Prop}{ice:Bool}{enc:W->qh}{out:W->AV}(h:∀x,ok x->bN P ρ f (enc x) (out x)):iW P ρ ⟨f,ice,fG ok enc out⟩:=fun o r hr=>by
 change fG ok enc out o=some r at hr;unfold fG at hr;split at hr
 .rename_i U;simp only[ak]at hr;subst hr;have:=h (Classical.choose U) (tV U).1;rw[(tV U).2]at this;exact this
 .simp at hr
attribute [irreducible] fG
def Fa{cfg:Cfg}(h:cfg.call g o=some r):aL P cfg g o H fun v H'=>v=r/\H'=H:=rt h ⟨rfl,rfl⟩
def iY{pls:List (Nat×Nat×zae)}{l:qs}{W:Type}{ok:W->Prop}{enc:W->qh}{out:W->AV}(Z:∀x y,enc x=enc y->x=y){x:W}(O:fF l g (enc x)=fG ok enc out (enc x))(U:ok x):
 aL P (a1 pls l) g (enc x) H fun v H'=>v=out x/\H'=H:=Fa (by show fF l g (enc x)=_;rw[O];exact E9 Z U)
def kh{ρ:Nat->Int}(fit:Fit P){pls:List (Nat×Nat×zae)}{l:qs}(O:iX P ρ l)(J:eW o)(hr:dV r)(h:aL P (a1 pls l) f o bA fun v _=>v=r):bN P ρ f o r:=
 EY fit (p7 ρ) (fun g Z r L=>iX.bV O g Z r L) J hr h
end Go.Ab
