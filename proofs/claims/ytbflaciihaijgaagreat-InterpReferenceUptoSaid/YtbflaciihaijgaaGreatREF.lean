/- Lemmas for the last file. -/
import Derived.Test.YtbflaciihaijgaaGreatREE
set_option linter.all false
set_option maxHeartbeats 32000000
namespace Go.Ab
set_option maxRecDepth 20000
open Go
variable{qb:Prop}
def Bn(h:qb:=by first|(dsimp only[lE,nU];first|done|exact rfl)|(dsimp only[];first|done|exact rfl)|exact rfl):=h
def wv(h:qb:=by first|(dsimp only[a0];first|done|exact rfl)|exact rfl):=h
def eF(h:qb:=by ((first|simp only[aK,Nat.reduceBEq,ne_eq,not_false_eq_true, *,-hK]|simp only[aK,Nat.reduceBEq,ne_eq,not_false_eq_true, *]|skip);first|done|with_reducible rfl)):=h
def jo(h:qb:=by ((first|simp only[aK,aW,tyF,Nat.reduceBEq,Nat.reduceAdd,Nat.reduceLeDiff,ne_eq,not_false_eq_true, *,-hK]|simp only[aK,aW,tyF,Nat.reduceBEq,Nat.reduceAdd,Nat.reduceLeDiff,ne_eq,not_false_eq_true, *]|skip);first|done|with_reducible rfl)):=h
def ww(h:qb:=by ((try simp only[br,bG,cR,Nat.add_assoc,Nat.reduceAdd,Nat.zero_add]);with_reducible rfl)):=h
def Jt(h:qb:=by ((first|simp only[aK,Nat.reduceBEq,ki,ne_eq,not_false_eq_true, *,-hK]|simp only[aK,Nat.reduceBEq,ki,ne_eq,not_false_eq_true, *]|skip);first|done|with_reducible rfl)):=h
def Ju(h:qb:=by ((first|simp only[aK,Nat.reduceBEq,io,List.cons_append,List.nil_append,ne_eq,not_false_eq_true, *,-hK]|simp only[aK,Nat.reduceBEq,io,List.cons_append,List.nil_append,ne_eq,not_false_eq_true, *]|skip);first|done|with_reducible rfl)):=h
def Jv(h:qb:=by ((first|simp only[aK,Nat.reduceBEq,jM,ne_eq,not_false_eq_true, *,-hK]|simp only[aK,Nat.reduceBEq,jM,ne_eq,not_false_eq_true, *]|skip);first|done|with_reducible rfl)):=h
def ey(h:qb:=by ((first|simp only[aK,Nat.reduceBEq,ne_eq,not_false_eq_true,decide_true,decide_false,Int.reduceEq,Int.reduceLE,Int.reduceToNat,Nat.mul_one, *,-hK]|simp only[aK,Nat.reduceBEq,ne_eq,not_false_eq_true,decide_true,decide_false,Int.reduceEq,Int.reduceLE,Int.reduceToNat,Nat.mul_one, *]|skip);first|done|with_reducible rfl)):=h
def jp(h:qb:=by ((first|simp only[aK,aW,tyF,Nat.reduceBEq,Nat.reduceAdd,Nat.reduceLeDiff,ne_eq,not_false_eq_true,decide_true,decide_false,Int.reduceEq,Int.reduceLE,Int.reduceToNat,Nat.mul_one, *,-hK]|simp only[aK,aW,tyF,Nat.reduceBEq,Nat.reduceAdd,Nat.reduceLeDiff,ne_eq,not_false_eq_true,decide_true,decide_false,Int.reduceEq,Int.reduceLE,Int.reduceToNat,Nat.mul_one, *]|skip);first|done|with_reducible rfl)):=h
def Jw(h:qb:=by ((first|simp only[aK,Nat.reduceBEq,ki,ne_eq,not_false_eq_true,decide_true,decide_false,Int.reduceEq,Int.reduceLE,Int.reduceToNat,Nat.mul_one, *,-hK]|simp only[aK,Nat.reduceBEq,ki,ne_eq,not_false_eq_true,decide_true,decide_false,Int.reduceEq,Int.reduceLE,Int.reduceToNat,Nat.mul_one, *]|skip);first|done|with_reducible rfl)):=h
def Jx(h:qb:=by ((first|simp only[aK,Nat.reduceBEq,io,List.cons_append,List.nil_append,ne_eq,not_false_eq_true,decide_true,decide_false,Int.reduceEq,Int.reduceLE,Int.reduceToNat,Nat.mul_one, *,-hK]|simp only[aK,Nat.reduceBEq,io,List.cons_append,List.nil_append,ne_eq,not_false_eq_true,decide_true,decide_false,Int.reduceEq,Int.reduceLE,Int.reduceToNat,Nat.mul_one, *]|skip);first|done|with_reducible rfl)):=h
def Jy(h:qb:=by ((first|simp only[aK,Nat.reduceBEq,jM,ne_eq,not_false_eq_true,decide_true,decide_false,Int.reduceEq,Int.reduceLE,Int.reduceToNat,Nat.mul_one, *,-hK]|simp only[aK,Nat.reduceBEq,jM,ne_eq,not_false_eq_true,decide_true,decide_false,Int.reduceEq,Int.reduceLE,Int.reduceToNat,Nat.mul_one, *]|skip);first|done|with_reducible rfl)):=h
def Bo(h:qb:=by first|rfl|exact hplan _|(rw[hS.bI];rfl)):=h
def EO(h:qb:=by simp only[bq,bF,bB,Nat.blt,Nat.ble];rfl):=h
def EP(h:qb:=by simp only[eK,rK,List.filterMap_cons,List.filterMap_nil,List.getElem?_cons_succ,List.getElem?_cons_zero,bq,bF,bB,Nat.blt,Nat.ble];rfl):=h
def Jz(h:qb:=by show dD l g (enc x)=_;rw[K];exact ES m O):=h
def Bp(h:qb:=by simpa using e):=h
def jW:=@List.cons_append
def uX:=@List.getElem?_cons_succ
def kW:=@List.getElem?_cons_zero
def iX:=@decide_eq_false_iff_not
def EQ:=@List.getElem?_nil
def uY:=@Classical.choose_spec
def dq:=@Nat.lt_succ_self
def fR:=@List.drop_eq_getElem_cons
def nW:=@Bool.or_false
def JA:=@List.flatMap_cons
def Bq:=And.intro @jW.{0} @jO.{0}
def bj:=And.intro Bq @iS.{0}
end Go.Ab
namespace Go.Proofs.YtbflaciihaijgaaGreat
set_option maxRecDepth 20000
open Go Go.Ab
variable{Y:aD->Hp->Prop}{g z:Operand}{I F S Z p:Prop}{r i n s N:Nat}{cs vs:qm}{m:Array (Nat×Operand)}{c:AV}{lo:Option Operand}{U:qv}{O:Array TypeId}{k M:IntKind}{K J:Int}{j:qC}{tb:Bool}{C:SC}
def pU:=ac pL l4
def pV:=ac @kR @iX
section
variable {P:Program} {cfg:Cfg} {f:FuncId} {l:List SOp} {E:aD} {H H':Hp} {Q:aD -> Hp -> Prop} {d:Nat} {v a b:AV} {x y:Operand} {t u:TypeId}
def cA(P:Program)(cfg:Cfg)(f:FuncId)(op:Op)(E:aD)(H:Hp)(v:AV)(H':Hp):Prop:=∃n,ej P cfg (dw P cfg n) f E H op=.val v H'
def cA.of{op:Op}(h:∀Q:aD->Hp->Prop,aQ P cfg f [] (T.set E 0 (some v)) H' Q->aQ P cfg f [⟨some 0,op,none⟩] E H Q):cA P cfg f op E H v H':=by
 have j:=h (fun Y Z=>Y.at 0=v/\Z=H') (wm ⟨by rw[gc];rfl,rfl⟩);unfold aQ at j;simp only[]at j;unfold iq at j;obtain⟨n,w,Z,m,A⟩:=j;unfold aQ at A;obtain⟨O,rfl⟩:=A;have:(a0 E (some 0) w).at 0=w:=Iv;rw[this]at O;exact⟨n,by rw[m,O]⟩
def dz:=@cA.of
def Br{op:Op}(h:∀Q:aD->Hp->Prop,aQ P cfg f [] E H' Q->aQ P cfg f [⟨none,op,none⟩] E H Q):∃v,cA P cfg f op E H v H':=by
 have j:=h (fun Y Z=>Z=H') (wm rfl);unfold aQ at j;simp only[]at j;unfold iq at j;obtain⟨n,w,Z,m,A⟩:=j;unfold aQ at A;subst A;exact⟨w,n,m⟩
def cA.go{op:Op}(o:aQ P cfg f l (T.set E d (some v)) H' Q)(h:cA P cfg f op E H v H'):aQ P cfg f (⟨some d,op,none⟩::l) E H Q:=by
 obtain⟨n,h⟩:=h;unfold aQ;show iq _ _ _ _ _ _ _;unfold iq;exact⟨n,v,H',h,o⟩
def JB{op:Op}(o:aQ P cfg f l E H' Q)(h:∃v,cA P cfg f op E H v H'):aQ P cfg f (⟨none,op,none⟩::l) E H Q:=by
 obtain⟨v,n,h⟩:=h;unfold aQ;show iq _ _ _ _ _ _ _;unfold iq;exact⟨n,v,H',h,o⟩
attribute [irreducible] cA
def Rx.nl{K:aD->Hp->Prop}{R:Prop}(h:R)(hK:∀E H,Y E H->K E H:=by assumption)(e:Y E H=R:=by exact Bn):aQ P cfg f [] E H K:=wm (hK _ _ (e▸h))
def ai:=@Rx.nl
def aM{R:Prop}(h:R)(e:Q E H=R:=by first|(dsimp only[];first|done|exact rfl)|exact rfl):aQ P cfg f [] E H Q:=wm (e▸h)
def aR{need:qD}{m:List Rc}{K:List Rc->aD->Hp->Prop}{R:Prop}(h1:mO P cfg need m H)(h:R)(hK:∀m E' H',mO P cfg need m H'->Y E' H'->K m E' H':=by assumption)(e:Y E H=R:=by exact Bn):dV P cfg f [] m E H K:=yI (hK _ _ _ h1 (e▸h))
def aY{g:FuncId}{I:qm}{r:AV}{K:AV->Hp->Prop}{R:Prop}(c:aU P cfg g I H fun v H'=>v=r/\H'=H)(h:R)(e:K r H=R:=by exact wv):aU P cfg g I H K:=a4 (by rintro _ _ ⟨rfl,rfl⟩;exact e▸h) c
def Ox.mv(h:aV E x=some v:=by exact eF):cA P cfg f (.move x) E H v H:=dz fun Q o=>aQ.move h o
def Ox.as(h:aV E x=some v:=by exact eF):cA P cfg f (.assign x) E H v H:=dz fun Q o=>aQ.assign h o
def Ox.pk{t:Bool}(h:aV E x=some (.bool t):=by exact eF)(h1:aV E y=some a:=by exact eF)(h2:aV E z=some b:=by exact eF):cA P cfg f (.pick x y z) E H (ja t a b) H:=dz fun Q o=>aQ.pick h h1 h2 o
def Ox.ld(h:aV E x=some a:=by exact eF)(h1:jL P H t a=some v:=by exact jo):cA P cfg f (.load t x) E H v H:=dz fun Q o=>aQ.load h h1 o
def Ox.st(h:aV E x=some a:=by exact eF)(h1:aV E y=some b:=by exact eF)(h2:mD P H t a b=some H':=by exact jo):∃v,cA P cfg f (.store t x y) E H v H':=Br fun Q o=>wn h h1 h2 o
def Ox.nc{o:Nat}(h:aV E x=some (.ptr r o):=by exact eF):cA P cfg f (.nilCheck x) E H (.ptr r o) H:=dz fun Q Z=>aQ.nilCheck h Z
def Ox.bn{op:BinOp}(h:aV E x=some a:=by exact eF)(h1:aV E y=some b:=by exact eF)(h2:dP P cfg.cj op t a b=some v:=by exact jo):cA P cfg f (.binOp op t x y u) E H v H:=dz fun Q o=>aQ.cq h h1 h2 o
def Ox.un{op:UnOp}(h:aV E x=some a:=by exact eF)(h2:rJ op a=some v:=by exact jo):cA P cfg f (.unOp op t x) E H v H:=dz fun Q o=>aQ.un h h2 o
def Ox.cv(h:aV E x=some a:=by exact eF)(h2:lV P H t u a=some v:=by exact jo):cA P cfg f (.convert t u x) E H v H:=dz fun Q o=>aQ.convert h h2 o
def Ox.fa(h:aV E x=some a:=by exact eF)(h2:sO P t a i=some v:=by exact jo):cA P cfg f (.fieldAddr t x i) E H v H:=dz fun Q o=>IC h h2 o
def Ox.fi(h:aV E x=some a:=by exact eF)(h2:uo P t a i=some v:=by exact jo):cA P cfg f (.field t x i) E H v H:=dz fun Q o=>aQ.field h h2 o
def Ox.ia(h:aV E x=some a:=by exact eF)(h1:aV E y=some b:=by exact eF)(h2:eS P t a b=some v:=by exact jo):cA P cfg f (.indexAddr t x y) E H v H:=dz fun Q o=>ID h h1 h2 o
def Ox.ix(h:aV E x=some a:=by exact eF)(h1:aV E y=some b:=by exact eF)(h2:oK P t a b=some v:=by exact jo):cA P cfg f (.index t x y) E H v H:=dz fun Q o=>aQ.index h h1 h2 o
def Ox.ex(h:aV E x=some a:=by exact eF)(h2:Ab.extract a i=some v:=by exact jo):cA P cfg f (.extract x i) E H v H:=dz fun Q o=>aQ.extract h h2 o
def Ox.al{z:qm}(h:cn P t=some z:=by exact jo)(I:some H.next=some n:=by exact ww):cA P cfg f (.alloc t) E H (.ptr n 0) (H.alloc (.cells z 0 true)):=dz fun Q o=>aQ.alloc h I o
def Ox.bx(h:aV E x=some a:=by exact eF)(K:some a.cells=some cs:=by exact jo)(I:some H.next=some n:=by exact ww):cA P cfg f (.box t x) E H (.ptr n 0) (H.alloc (.cells cs 0 true)):=dz fun Q o=>aQ.box h K I o
def Ox.bd{ps:qB}(h:ki E m.toList=some ps:=by exact Jt)(h2:cQ P t ps=some v:=by exact jo):cA P cfg f (.build t m) E H v H:=dz fun Q o=>aQ.build h h2 o
def Ox.bs{ps:qB}(h:ki E m.toList=some ps:=by exact Jt)(h2:dc P H t n ps=some (v,H'):=by exact jo):cA P cfg f (.buildSlice t n m) E H v H':=dz fun Q o=>IE h h2 o
def Ox.mm(I:some H.next=some n:=by exact ww):cA P cfg f (.makeMap t none) E H (.map n) (H.alloc (.map [])):=dz fun Q o=>aQ.makeMap I o
def Ox.ms(h:aV E x=some a:=by exact eF)(h1:aV E y=some b:=by exact eF)(h2:pF P H t a b=some (v,H'):=by exact jo):cA P cfg f (.makeSlice t x y) E H v H':=dz fun Q o=>IG h h1 h2 o
def Ox.lu{ok:Bool}(h:aV E x=some a:=by exact eF)(h1:aV E y=some b:=by exact eF)(h2:gT P H t a b ok=some v:=by exact jo):cA P cfg f (.lookup t x y ok) E H v H:=dz fun Q o=>aQ.lookup h h1 h2 o
def Ox.mu(h:aV E x=some a:=by exact eF)(h1:aV E y=some b:=by exact eF)(h2:aV E z=some c:=by exact eF)(A:nD P H t a b c=some H':=by exact jo):∃v,cA P cfg f (.mapUpdate t x y z) E H v H':=Br fun Q o=>IF h h1 h2 A o
def Ox.mf{g:FuncId}{cap:Array Operand}(h:io E cap.toList=some vs:=by exact Ju):cA P cfg f (.makeFunc (.func g) #[] cap) E H (.bl g vs) H:=dz fun Q o=>aQ.makeFunc h o
def Ox.sl{F:Option Operand}{S:qv}(h:aV E x=some a:=by exact eF)(h1:jM E lo=some S:=by exact Jv)(h2:jM E F=some U:=by exact Jv)(A:nC P H t a S U=some v:=by exact jo):cA P cfg f (.slice t x lo F none) E H v H:=dz fun Q o=>aQ.slice h h1 h2 A o
def Ox.ln(h:aV E x=some a:=by exact eF)(h1:gj P H t a=some c:=by exact jo):cA P cfg f (.call ⟨.builtin .len,#[x],#[t]⟩) E H c H:=dz fun Q o=>aQ.len h h1 o
def Ox.ap(h:aV E x=some a:=by exact eF)(h1:aV E y=some b:=by exact eF)(h2:dh P (cfg.aj f) H t u a b=some (v,H'):=by exact jo):cA P cfg f (.call ⟨.builtin .append,#[x,y],#[t,u]⟩) E H v H':=dz fun Q o=>jF h h1 h2 o
def Ox.mi(h:aV E x=some (.int k K):=by exact eF)(h1:aV E y=some (.int M J):=by exact eF):cA P cfg f (.call ⟨.builtin .min,#[x,y],O⟩) E H (.int k (min K J)) H:=dz fun Q o=>aQ.min2 h h1 o
def Ox.ma(h:aV E x=some (.int k K):=by exact eF)(h1:aV E y=some (.int M J):=by exact eF):cA P cfg f (.call ⟨.builtin .max,#[x,y],O⟩) E H (.int k (max K J)) H:=dz fun Q o=>aQ.max2 h h1 o
def Rx.o{op:Op}(o:aQ P cfg f l (T.set E d (some v)) H' Q)(h:cA P cfg f op E H v H':=by first|apply(Ox.mv)|apply(Ox.as)|apply(Ox.pk)|apply(Ox.ld)|apply(Ox.nc)|apply(Ox.bn)|apply(Ox.un)|apply(Ox.cv)|apply(Ox.fa)|apply(Ox.fi)|apply(Ox.ia)|apply(Ox.ix)|apply(Ox.ex)|apply(Ox.al)|apply(Ox.bx)|apply(Ox.bd)|apply(Ox.bs)|apply(Ox.mm)|apply(Ox.ms)|apply(Ox.lu)|apply(Ox.mf)|apply(Ox.sl)|apply(Ox.ln)|apply(Ox.ap)|apply(Ox.mi)|apply(Ox.ma)):aQ P cfg f (⟨some d,op,none⟩::l) E H Q:=cA.go o h
def Rx.on{op:Op}(o:aQ P cfg f l E H' Q)(h:∃v,cA P cfg f op E H v H':=by first|apply(Ox.st)|apply(Ox.mu)):aQ P cfg f (⟨none,op,none⟩::l) E H Q:=JB o h
def aN:=@Rx.on
theorem Rx.call{c:Call}{k:FuncId}{cap I:qm}(o:aU P cfg k I H fun v H'=>aQ P cfg f l (a0 E j v) H' Q)(K:c.callee=.value g:=by rfl)(C:aV E g=some (.bl k cap):=by exact eF)(U:io E c.args.toList=some vs:=by exact Ju)(Y:vs++cap=I:=by simp only[bj];first|done|exact rfl):aQ P cfg f (⟨j,.call c,none⟩::l) E H Q:=bc K C U (Y▸o)
def dJ:=@Rx.call
def Rx.gu{op:Op}{t:Bool}{v:AV}{R:Prop}(o:R)(h:some (E.at s)=some v:=by exact eF)(U:v=ea:=by with_reducible rfl)(e:aQ P cfg f l (a0 E j ea) H Q=R:=by exact wv):aQ P cfg f (⟨j,op,some (s,t)⟩::l) E H Q:=Iz h U (e▸o)
def cW:=@Rx.gu
def Rx.gd{op:Op}{t:Bool}{R:Prop}(h1:F->Z->aQ P cfg f (⟨j,op,none⟩::l) E H Q)(h2:I->S->R)(h:E.at s=.bool t:=by exact eF)(o:(t=tb)=F:=by(try simp only[pU,reduceCtorEq]);first|done|exact rfl)(K:(t=!tb)=I:=by(try simp only[pU,reduceCtorEq]);first|done|exact rfl)(m:F=Z:=by(try simp only[pV]);first|done|exact rfl)(O:I=S:=by(try simp only[pV]);first|done|exact rfl)(e:aQ P cfg f l (a0 E j ea) H Q=R:=by exact wv):aQ P cfg f (⟨j,op,some (s,tb)⟩::l) E H Q:=aQ.guard h (fun k=>h1 (o▸k) (m▸o▸k)) (fun k=>e▸h2 (K▸k) (O▸K▸k))
def aX:=@Rx.gd
def Rx.cd{Z:SC}{Q:AX->aD->Hp->Prop}{t:Bool}{Y:Prop}(h1:F->Y->bN P cfg f N C E H Q)(h2:I->S->bN P cfg f N Z E H Q)(O:aV E x=some (.bool t):=by exact eF)(o:(t=true)=F:=by(try simp only[pU,reduceCtorEq]);first|done|exact rfl)(K:(t=false)=I:=by(try simp only[pU,reduceCtorEq]);first|done|exact rfl)(m:F=Y:=by(try simp only[pV]);first|done|exact rfl)(V:I=S:=by(try simp only[pV]);first|done|exact rfl):bN P cfg f N (.cond x C Z) E H Q:=bN.cond O (fun k=>h1 (o▸k) (m▸o▸k)) (fun k=>h2 (K▸k) (V▸K▸k))
def aE:=@Rx.cd
def Oy.mv(h:aV E x=some v:=by exact ey):cA P cfg f (.move x) E H v H:=dz fun Q o=>aQ.move h o
def Oy.as(h:aV E x=some v:=by exact ey):cA P cfg f (.assign x) E H v H:=dz fun Q o=>aQ.assign h o
def Oy.pk{t:Bool}(h:aV E x=some (.bool t):=by exact ey)(h1:aV E y=some a:=by exact ey)(h2:aV E z=some b:=by exact ey):cA P cfg f (.pick x y z) E H (ja t a b) H:=dz fun Q o=>aQ.pick h h1 h2 o
def Oy.ld(h:aV E x=some a:=by exact ey)(h1:jL P H t a=some v:=by exact jp):cA P cfg f (.load t x) E H v H:=dz fun Q o=>aQ.load h h1 o
def Oy.st(h:aV E x=some a:=by exact ey)(h1:aV E y=some b:=by exact ey)(h2:mD P H t a b=some H':=by exact jp):∃v,cA P cfg f (.store t x y) E H v H':=Br fun Q o=>wn h h1 h2 o
def Oy.nc{o:Nat}(h:aV E x=some (.ptr r o):=by exact ey):cA P cfg f (.nilCheck x) E H (.ptr r o) H:=dz fun Q Z=>aQ.nilCheck h Z
def Oy.bn{op:BinOp}(h:aV E x=some a:=by exact ey)(h1:aV E y=some b:=by exact ey)(h2:dP P cfg.cj op t a b=some v:=by exact jp):cA P cfg f (.binOp op t x y u) E H v H:=dz fun Q o=>aQ.cq h h1 h2 o
def Oy.un{op:UnOp}(h:aV E x=some a:=by exact ey)(h2:rJ op a=some v:=by exact jp):cA P cfg f (.unOp op t x) E H v H:=dz fun Q o=>aQ.un h h2 o
def Oy.cv(h:aV E x=some a:=by exact ey)(h2:lV P H t u a=some v:=by exact jp):cA P cfg f (.convert t u x) E H v H:=dz fun Q o=>aQ.convert h h2 o
def Oy.fa(h:aV E x=some a:=by exact ey)(h2:sO P t a i=some v:=by exact jp):cA P cfg f (.fieldAddr t x i) E H v H:=dz fun Q o=>IC h h2 o
def Oy.fi(h:aV E x=some a:=by exact ey)(h2:uo P t a i=some v:=by exact jp):cA P cfg f (.field t x i) E H v H:=dz fun Q o=>aQ.field h h2 o
def Oy.ia(h:aV E x=some a:=by exact ey)(h1:aV E y=some b:=by exact ey)(h2:eS P t a b=some v:=by exact jp):cA P cfg f (.indexAddr t x y) E H v H:=dz fun Q o=>ID h h1 h2 o
def Oy.ix(h:aV E x=some a:=by exact ey)(h1:aV E y=some b:=by exact ey)(h2:oK P t a b=some v:=by exact jp):cA P cfg f (.index t x y) E H v H:=dz fun Q o=>aQ.index h h1 h2 o
def Oy.ex(h:aV E x=some a:=by exact ey)(h2:Ab.extract a i=some v:=by exact jp):cA P cfg f (.extract x i) E H v H:=dz fun Q o=>aQ.extract h h2 o
def Oy.al{z:qm}(h:cn P t=some z:=by exact jp)(I:some H.next=some n:=by exact ww):cA P cfg f (.alloc t) E H (.ptr n 0) (H.alloc (.cells z 0 true)):=dz fun Q o=>aQ.alloc h I o
def Oy.bx(h:aV E x=some a:=by exact ey)(K:some a.cells=some cs:=by exact jp)(I:some H.next=some n:=by exact ww):cA P cfg f (.box t x) E H (.ptr n 0) (H.alloc (.cells cs 0 true)):=dz fun Q o=>aQ.box h K I o
def Oy.bd{ps:qB}(h:ki E m.toList=some ps:=by exact Jw)(h2:cQ P t ps=some v:=by exact jp):cA P cfg f (.build t m) E H v H:=dz fun Q o=>aQ.build h h2 o
def Oy.bs{ps:qB}(h:ki E m.toList=some ps:=by exact Jw)(h2:dc P H t n ps=some (v,H'):=by exact jp):cA P cfg f (.buildSlice t n m) E H v H':=dz fun Q o=>IE h h2 o
def Oy.mm(I:some H.next=some n:=by exact ww):cA P cfg f (.makeMap t none) E H (.map n) (H.alloc (.map [])):=dz fun Q o=>aQ.makeMap I o
def Oy.ms(h:aV E x=some a:=by exact ey)(h1:aV E y=some b:=by exact ey)(h2:pF P H t a b=some (v,H'):=by exact jp):cA P cfg f (.makeSlice t x y) E H v H':=dz fun Q o=>IG h h1 h2 o
def Oy.lu{ok:Bool}(h:aV E x=some a:=by exact ey)(h1:aV E y=some b:=by exact ey)(h2:gT P H t a b ok=some v:=by exact jp):cA P cfg f (.lookup t x y ok) E H v H:=dz fun Q o=>aQ.lookup h h1 h2 o
def Oy.mu(h:aV E x=some a:=by exact ey)(h1:aV E y=some b:=by exact ey)(h2:aV E z=some c:=by exact ey)(A:nD P H t a b c=some H':=by exact jp):∃v,cA P cfg f (.mapUpdate t x y z) E H v H':=Br fun Q o=>IF h h1 h2 A o
def Oy.mf{g:FuncId}{cap:Array Operand}(h:io E cap.toList=some vs:=by exact Jx):cA P cfg f (.makeFunc (.func g) #[] cap) E H (.bl g vs) H:=dz fun Q o=>aQ.makeFunc h o
def Oy.sl{F:Option Operand}{S:qv}(h:aV E x=some a:=by exact ey)(h1:jM E lo=some S:=by exact Jy)(h2:jM E F=some U:=by exact Jy)(A:nC P H t a S U=some v:=by exact jp):cA P cfg f (.slice t x lo F none) E H v H:=dz fun Q o=>aQ.slice h h1 h2 A o
def Oy.ln(h:aV E x=some a:=by exact ey)(h1:gj P H t a=some c:=by exact jp):cA P cfg f (.call ⟨.builtin .len,#[x],#[t]⟩) E H c H:=dz fun Q o=>aQ.len h h1 o
def Oy.ap(h:aV E x=some a:=by exact ey)(h1:aV E y=some b:=by exact ey)(h2:dh P (cfg.aj f) H t u a b=some (v,H'):=by exact jp):cA P cfg f (.call ⟨.builtin .append,#[x,y],#[t,u]⟩) E H v H':=dz fun Q o=>jF h h1 h2 o
def Oy.mi(h:aV E x=some (.int k K):=by exact ey)(h1:aV E y=some (.int M J):=by exact ey):cA P cfg f (.call ⟨.builtin .min,#[x,y],O⟩) E H (.int k (min K J)) H:=dz fun Q o=>aQ.min2 h h1 o
def Oy.ma(h:aV E x=some (.int k K):=by exact ey)(h1:aV E y=some (.int M J):=by exact ey):cA P cfg f (.call ⟨.builtin .max,#[x,y],O⟩) E H (.int k (max K J)) H:=dz fun Q o=>aQ.max2 h h1 o
def Ry.o{op:Op}(o:aQ P cfg f l (T.set E d (some v)) H' Q)(h:cA P cfg f op E H v H':=by first|apply(Oy.mv)|apply(Oy.as)|apply(Oy.pk)|apply(Oy.ld)|apply(Oy.nc)|apply(Oy.bn)|apply(Oy.un)|apply(Oy.cv)|apply(Oy.fa)|apply(Oy.fi)|apply(Oy.ia)|apply(Oy.ix)|apply(Oy.ex)|apply(Oy.al)|apply(Oy.bx)|apply(Oy.bd)|apply(Oy.bs)|apply(Oy.mm)|apply(Oy.ms)|apply(Oy.lu)|apply(Oy.mf)|apply(Oy.sl)|apply(Oy.ln)|apply(Oy.ap)|apply(Oy.mi)|apply(Oy.ma)):aQ P cfg f (⟨some d,op,none⟩::l) E H Q:=cA.go o h
def Ry.on{op:Op}(o:aQ P cfg f l E H' Q)(h:∃v,cA P cfg f op E H v H':=by first|apply(Oy.st)|apply(Oy.mu)):aQ P cfg f (⟨none,op,none⟩::l) E H Q:=JB o h
def bP:=@Ry.on
theorem Ry.call{c:Call}{k:FuncId}{cap I:qm}(o:aU P cfg k I H fun v H'=>aQ P cfg f l (a0 E j v) H' Q)(K:c.callee=.value g:=by rfl)(C:aV E g=some (.bl k cap):=by exact ey)(U:io E c.args.toList=some vs:=by exact Jx)(Y:vs++cap=I:=by simp only[bj];first|done|exact rfl):aQ P cfg f (⟨j,.call c,none⟩::l) E H Q:=bc K C U (Y▸o)
def cU:=@Ry.call
def Ry.gu{op:Op}{t:Bool}{v:AV}{R:Prop}(o:R)(h:some (E.at s)=some v:=by exact ey)(U:v=ea:=by with_reducible rfl)(e:aQ P cfg f l (a0 E j ea) H Q=R:=by exact wv):aQ P cfg f (⟨j,op,some (s,t)⟩::l) E H Q:=Iz h U (e▸o)
def kX:=@Ry.gu
def Ry.gd{op:Op}{t:Bool}{R:Prop}(h1:F->Z->aQ P cfg f (⟨j,op,none⟩::l) E H Q)(h2:I->S->R)(h:E.at s=.bool t:=by exact ey)(o:(t=tb)=F:=by(try simp only[pU,reduceCtorEq]);first|done|exact rfl)(K:(t=!tb)=I:=by(try simp only[pU,reduceCtorEq]);first|done|exact rfl)(m:F=Z:=by(try simp only[pV]);first|done|exact rfl)(O:I=S:=by(try simp only[pV]);first|done|exact rfl)(e:aQ P cfg f l (a0 E j ea) H Q=R:=by exact wv):aQ P cfg f (⟨j,op,some (s,tb)⟩::l) E H Q:=aQ.guard h (fun k=>h1 (o▸k) (m▸o▸k)) (fun k=>e▸h2 (K▸k) (O▸K▸k))
def cE:=@Ry.gd
def ER{op:Op}{t:Bool}{m:List Rc}{Q:List Rc->aD->Hp->Prop}{R:Prop}(h1:F->Z->dV P cfg f (⟨j,op,none⟩::l) m E H Q)(h2:I->S->R)(h:E.at s=.bool t:=by exact ey)(o:(t=tb)=F:=by(try simp only[pU,reduceCtorEq]);first|done|exact rfl)(K:(t=!tb)=I:=by(try simp only[pU,reduceCtorEq]);first|done|exact rfl)(Y:F=Z:=by(try simp only[pV]);first|done|exact rfl)(O:I=S:=by(try simp only[pV]);first|done|exact rfl)(e:dV P cfg f l (m++[⟨op,false,E,H,ea,H⟩]) (a0 E j ea) H Q=R:=by exact wv):dV P cfg f (⟨j,op,some (s,tb)⟩::l) m E H Q:=dV.guard h (fun k=>h1 (o▸k) (Y▸o▸k)) (fun k=>e▸h2 (K▸k) (O▸K▸k))
def Ry.cd{Z:SC}{Q:AX->aD->Hp->Prop}{t:Bool}{Y:Prop}(h1:F->Y->bN P cfg f N C E H Q)(h2:I->S->bN P cfg f N Z E H Q)(O:aV E x=some (.bool t):=by exact ey)(o:(t=true)=F:=by(try simp only[pU,reduceCtorEq]);first|done|exact rfl)(K:(t=false)=I:=by(try simp only[pU,reduceCtorEq]);first|done|exact rfl)(m:F=Y:=by(try simp only[pV]);first|done|exact rfl)(V:I=S:=by(try simp only[pV]);first|done|exact rfl):bN P cfg f N (.cond x C Z) E H Q:=bN.cond O (fun k=>h1 (o▸k) (m▸o▸k)) (fun k=>h2 (K▸k) (V▸K▸k))
def a2:=@Ry.cd
def eE(h:p:=by first|(simp only[aK,Nat.reduceBEq, *];done)|rfl):p:=h
def yL(h:p:=by first|(simp only[aK,aW,tyF,Nat.reduceBEq,Nat.reduceAdd,Nat.reduceLeDiff, *];done)|rfl):p:=h
def dK(h:p:=by((try simp only[aK,Nat.reduceBEq, *]);first|done|with_reducible rfl)):p:=h
def uZ(h:p:=by((try simp only[aK,aW,tyF,Nat.reduceBEq,Nat.reduceAdd,Nat.reduceLeDiff, *]);first|done|with_reducible rfl)):p:=h
def aJ(h:p:=by((try simp only[aK,Nat.reduceBEq,bU,cc, *]);first|done|with_reducible rfl)):p:=h
def VN(h:p:=by((try simp only[aK,aW,tyF,Nat.reduceBEq,Nat.reduceAdd,Nat.reduceLeDiff,bU,cc, *]);first|done|with_reducible rfl)):p:=h
def bm(h:p:=by((try simp only[aK,Nat.reduceBEq, *,-hK]);first|done|with_reducible rfl)):p:=h
def bp(h:p:=by((try simp only[aK,Nat.reduceBEq,io,Bq, *,-hK]);first|done|with_reducible rfl)):p:=h
def qa{P:Program}{cfg:Cfg}{f:FuncId}{E:aD}{H:Hp}{Q:aD->Hp->Prop}{d:qC}{c:Call}{k:FuncId}{cap ws:qm}{l:List SOp}(h:aU P cfg k ws H fun v H'=>aQ P cfg f l (a0 E d v) H' Q)(i:c.callee=.value g:=by exact rfl)(j:aV E g=some (.bl k cap):=by exact bm)(m:io E c.args.toList=some vs:=by exact bp)(e:vs++cap=ws:=by(try simp only[bj]);first|done|exact rfl):aQ P cfg f (⟨d,.call c,none⟩::l) E H Q:=bc i j m (e▸h)
def aC(h:p:=by first|exact .inl rfl|exact .inr rfl|exact .inl trivial|exact .inr trivial):p:=h
def qq{A:Prop}{a:Option qm}{v:qm}{R:qm->Prop}{T:Prop}(h:T)(i:A:=by exact aC)(j:a=some v:=by exact aJ)(k:R v=T:=by(try simp only[aB]);first|done|exact rfl):A/\∃vs,a=some vs/\R vs:=⟨i,v,j,k▸h⟩
def bM(h:p:=by simp only[bL,bK,bb,aK,aW,tyF,Nat.reduceBEq,Nat.reduceAdd,Nat.reduceLeDiff, *]):p:=h
def dr(h:p:=by(try simp only[br,bG,cR,bR,Nat.reduceAdd]);omega):p:=h
def ak{Q:AX->aD->Hp->Prop}{R:Prop}(h:R)(e:Q .normal E H=R:=by exact Bn):bN P cfg f N .skip E H Q:=bN.skip (e▸h)
def am{Q:AX->aD->Hp->Prop}{R:Prop}(h:R)(e:Q .ret E H=R:=by exact Bn):bN P cfg f N .ret E H Q:=bN.ret (e▸h)
def ax{id:Nat}{Q:AX->aD->Hp->Prop}{R:Prop}(h:R)(e:Q (.exit id) E H=R:=by first|(simp only[lE,nU,reduceIte];first|done|exact rfl)|(dsimp only[];first|done|exact rfl)|exact rfl):bN P cfg f N (.exit id) E H Q:=bN.exit (e▸h)
def di(h:p:=by(refine⟨?_,?_⟩<;>simp only[jO,jW,kP,uX,kW,EQ,yE,br,bG,aT,oT,bb]<;>(repeat' apply ac)<;>first
 |(intro r hr;cases hr;done)
 |(refine SA (by simp only[jO,jW,kP,uX,kW,EQ];rfl) (fun hd=>?_)
   simp only[yH,jO,jW,kP,uX,kW,EQ]at hd⊢;first
   |(cases hd;done)
   |exact Ss dK uZ
   |exact Su dK dK uZ
   |exact Sv dK uZ
   |exact Sw dK uZ
   |exact Sy dK (by simp only[jM];first|rfl|simp only[aK,Nat.reduceBEq, *]) (by simp only[jM];first|rfl|simp only[aK,Nat.reduceBEq, *]) uZ
   |exact Sz rfl uZ uZ)
 |exact aT _
 |assumption
 |omega)):p:=h
variable {N:Nat} {ops:qs} {Q2:AX -> aD -> Hp -> Prop}
def aq(id:Nat)(need:qD)(h:∀K:List Rc->aD->Hp->Prop,(∀m E' H',mO P cfg need m H'->Q2 .normal E' H'->K m E' H')->dV P cfg f l [] E H K)(A:cfg.bI f id=.text:=by exact Bo)(J:lX ops=true:=by kernel_rfl)(S:bq N ops ops=some l:=by exact EO)(I:kN ops=need:=by kernel_rfl):bN P cfg f N (.br id ops) E H Q2:=Sr A J S I h
theorem Rx.dS{O:aD}{z:Hp}{l1 l2:List SOp}(id p q:Nat)(ord:qx)(U V:qD)(h1:dV P cfg f l1 [] E H fun m E' H'=>mO P cfg U m H'/\E'=O/\H'=z)(h2:dV P cfg f l2 [] E H fun m E' H'=>mO P cfg V m H'/\E'=O/\H'=z)(o:Q2 .normal O z)(A:cfg.bI f id=.split p q .text (.bm ord):=by exact Bo)(K:Nat.beq p q=false:=by rfl)(c1:lX (eC q p ops)=true:=by kernel_rfl)(s1:bq N ops ops=some l1:=by exact EO)(dl:kN (eC q p ops)=U:=by kernel_rfl)(M:uu ord (eC p q ops)=true:=by kernel_rfl)(c2:lX (eK ord (eC p q ops))=true:=by kernel_rfl)(Z:bq N (eK ord ops) (eK ord ops)=some l2:=by exact EP)(Y:kN (eK ord (eC p q ops))=V:=by kernel_rfl):bN P cfg f N (.br id ops) E H Q2:=VM A K c1 s1 dl M c2 Z Y h1 h2 o
def Bt(id:Nat)(ord:qx)(need:qD)(h:∀K:List Rc->aD->Hp->Prop,(∀m E' H',mO P cfg need m H'->Q2 .normal E' H'->K m E' H')->dV P cfg f l [] E H K)(A:cfg.bI f id=.bm ord:=by exact Bo)(z:uu ord ops=true:=by kernel_rfl)(J:lX (eK ord ops)=true:=by kernel_rfl)(S:bq N (eK ord ops) (eK ord ops)=some l:=by exact EP)(I:kN (eK ord ops)=need:=by kernel_rfl):bN P cfg f N (.br id ops) E H Q2:=IV A z J S I h
def dj(id:Nat)(h:∀K:aD->Hp->Prop,(∀E' H',Q2 .normal E' H'->K E' H')->aQ P cfg f l E H K)(A:cfg.bI f id=.text:=by exact Bo)(J:Bf ops=true:=by kernel_rfl)(S:bq N ops ops=some l:=by exact EO):bN P cfg f N (.br id ops) E H Q2:=bN.br A J S h
end
end Go.Proofs.YtbflaciihaijgaaGreat
namespace Go.Ab
set_option maxRecDepth 20000
open Go
variable{j:qm}{P:Program}{cfg:Cfg}{g:FuncId}{A:Type}{r i I:Nat}{H a b c:Hp}{x y:Ex}{s:qr}
def fj(v:AV):Prop:=∃k,∀m,k<=m->∀H,iceV H m v=some v
def gg(l:qm):Prop:=∀v∈l,fj v
def gg.nil:gg []:=fun _ h=>lC
def gg.cons{v:AV}{l:qm}(h:fj v)(K:gg l):gg (v::l):=fun w J=>by
 rcases fY.1 J with rfl|J
 .exact h
 .exact K _ J
theorem gg.dE:∀{l:qm},gg l->∃k,∀m,k<=m->∀H,iceL (iceV H m) l=some l
 |[],_=>⟨0,fun _ _ _=>rfl⟩
 |v::l,h=>by
  obtain⟨k1,j⟩:=h v gW;obtain⟨k2,Z⟩:=gg.dE (l:=l) fun w J=>h w (jE _ J)
  exact⟨max k1 k2,fun m M H=>by simp only[iceL,j m aa H,Z m aa H]⟩
theorem JC:∀{l:List qm},(∀z∈l,gg z)->∃k,∀m,k<=m->∀H,sX (iceV H m) l=some l
 |[],_=>⟨0,fun _ _ _=>rfl⟩
 |v::l,h=>by
  obtain⟨k1,j⟩:=(h v gW).dE;obtain⟨k2,Z⟩:=JC (l:=l) fun w J=>h w (jE _ J)
  exact⟨max k1 k2,fun m M H=>by simp only[sX,j m aa H,Z m aa H]⟩
def fj.one{v:AV}(h:∀m H,iceV H (m+1) v=some v):fj v:=⟨1,fun m M H=>by
 obtain⟨m,rfl⟩:∃k,m=k+1:=⟨m-1,aa⟩;exact h m H⟩
theorem fj.int(k:IntKind)(n:Int):fj (.int k n):=.one fun _ _=>rfl
theorem fj.bool(b:Bool):fj (.bool b):=.one fun _ _=>rfl
theorem fj.ae(s:qr):fj (.ae s):=.one fun _ _=>rfl
theorem fj.ab:fj .ab:=.one fun _ _=>rfl
def fj.ai{l:List qm}(h:∀z∈l,gg z):fj (.ai l):=by
 obtain⟨k,o⟩:=JC h;refine⟨k+1,fun m M H=>?_⟩;obtain⟨m,rfl⟩:∃k,m=k+1:=⟨m-1,aa⟩;simp only[iceV,o m aa H]
def fj.agg{l:qm}(h:gg l):fj (.agg l):=by
 obtain⟨k,o⟩:=h.dE;refine⟨k+1,fun m M H=>?_⟩;obtain⟨m,rfl⟩:∃k,m=k+1:=⟨m-1,aa⟩;simp only[iceV,o m aa H]
def fj.aW{l:qm}(h:gg l):fj (.aW l):=by
 obtain⟨k,o⟩:=h.dE;refine⟨k+1,fun m M H=>?_⟩;obtain⟨m,rfl⟩:∃k,m=k+1:=⟨m-1,aa⟩;simp only[iceV,o m aa H]
def fj.map{A:Type}{l:List A}{f:A->qm}(h:∀x∈l,gg (f x)):fj (.ai (l.map f)):=.ai fun z hr=>by
 obtain⟨x,hx,rfl⟩:=l3.1 hr;exact h x hx
def JD(h:gg j):∃k,sY k j=true:=by
 obtain⟨k,o⟩:=h.dE;exact⟨k,by unfold sY;rw[o k (aT _) bV];exact rV j⟩
def JE(fit:Fit P){ρ:Nat->Int}(o:mH cfg.cj ρ)(K:∀f j r,cfg.call f j=some r->bJ P ρ f j r){j:qm}{r:AV}
 (J:gg j) (hr:fj r) (h:aU P cfg g j bV fun v _=>v=r):bJ P ρ g j r:=by
 obtain⟨k,Z⟩:=JD J;obtain⟨m,M⟩:=hr;exact IB (m:=m) fit o K Z (a4 (fun v H' e=>by rw[e];exact M m (aT _) H') h)
def u5(fit:Fit P){ρ:Nat->Int}(o:mH cfg.cj ρ)(K:∀f j r,cfg.call f j=some r->bJ P ρ f j r){j:qm}{r:AV}{m:Nat}
 (J:gg j) (h:aU P cfg g j bV fun v H'=>iceV H' m v=some r):bJ P ρ g j r:=by
 obtain⟨k,Z⟩:=JD J;exact IB (m:=m) fit o K Z h
structure En where
 f:FuncId
 ao:Bool
 sp:qm->qv
variable{f:FuncId}
abbrev qu:=List En
variable{l:qu}
def dD:qu->FuncId->qm->qv
 |[],_,_=>none
 |e::l,f,args=>match Nat.beq e.f f with
  |true=>e.sp args
  |false=>dD l f args
def ir:qu->FuncId->Bool
 |[],_=>false
 |e::l,f=>match Nat.beq e.f f with
  |true=>e.ao
  |false=>ir l f
noncomputable def aF(pls:List (Nat×Nat×zdk))(l:qu):Cfg:={aj:=fun _=>false,call:=dD l,ao:=ir l,bI:=wj pls}
def cS(P:Program)(ρ:Nat->Int)(e:En):Prop:=∀j r,e.sp j=some r->bJ P ρ e.f j r
def eU(P:Program)(ρ:Nat->Int):qu->Prop
 |[]=>True
 |e::l=>cS P ρ e/\eU P ρ l
theorem eU.bS{P:Program}{ρ:Nat->Int}:∀{l:qu},eU P ρ l->∀f j r,dD l f j=some r->bJ P ρ f j r
 |[],_,_,_,_,h=>by simp[dD]at h
 |e::l,hl,f,j,r,h=>by
  simp only[dD]at h;split at h
  .rename_i m;rw[<-ib m];exact hl.1 j r h
  .exact eU.bS hl.2 f j r h
noncomputable def bS(ok:A->Prop)(enc:A->qm)(out:A->AV)(j:qm):qv:=open Classical in
 if h:∃x,ok x/\enc x=j then some (out (Classical.choose h))else none
def ES{A:Type}{ok:A->Prop}{enc:A->qm}{out:A->AV}(m:∀x y,enc x=enc y->x=y){x:A}(O:ok x):bS ok enc out (enc x)=some (out x):=by
 unfold bS;have h:∃y,ok y/\enc y=enc x:=⟨x,O,rfl⟩;rw[dif_pos h];rw[m _ _ (uY h).2]
def ET{A:Type}{ok:A->Prop}{enc:A->qm}{out:A->AV}(h:∀x,ok x->enc x≠j):bS ok enc out j=none:=by
 unfold bS;rw[dif_neg];rintro⟨x,hx,e⟩;exact h x hx e
def cZ{ρ:Nat->Int}{A:Type}{ok:A->Prop}{ice:Bool}{enc:A->qm}{out:A->AV}(h:∀x,ok x->bJ P ρ f (enc x) (out x)):cS P ρ ⟨f,ice,bS ok enc out⟩:=fun j r hr=>by
 change bS ok enc out j=some r at hr;unfold bS at hr;split at hr
 .rename_i hx;simp only[aH]at hr;subst hr;have:=h (Classical.choose hx) (uY hx).1;rw[(uY hx).2]at this;exact this
 .simp at hr
attribute [irreducible] bS
def EU{r:AV}(h:cfg.call g j=some r):aU P cfg g j H fun v H'=>v=r/\H'=H:=Rp h ⟨rfl,rfl⟩
def cp{pls:List (Nat×Nat×zdk)}{A:Type}{ok:A->Prop}{enc:A->qm}{out:A->AV}(m:∀x y,enc x=enc y->x=y){x:A}(K:dD l g (enc x)=bS ok enc out (enc x))(O:ok x):
 aU P (aF pls l) g (enc x) H fun v H'=>v=out x/\H'=H:=EU Jz
def Bu{pls:List (Nat×Nat×zdk)}{A:Type}{ok:A->Prop}{enc:A->qm}{out:A->AV}(m:∀x y,enc x=enc y->x=y){x:A}(K:∀Z,dD l g Z=bS ok enc out Z)(F:ir l g=true)(O:ok x){H':Hp}
 (I:∀y,ok y->enc y≠j) (V:fW (eP 100) j H=some (enc x,H')) :
 aU P (aF pls l) g j H fun v Y=>v=out x/\Y=H':=IA (by show dD l g j=none;rw[K];exact ET I) F rfl V Jz ⟨rfl,rfl⟩
def u7{ρ:Nat->Int}(fit:Fit P){pls:List (Nat×Nat×zdk)}(K:eU P ρ l)(sz:A->Nat){ok:A->Prop}{enc:A->qm}{out:A->AV}
 (J:∀x,ok x->gg (enc x)) (hr:∀x,ok x->fj (out x))
 (h:∀x,ok x->aU P (aF pls (⟨f,false,bS (fun y=>ok y/\sz y<sz x) enc out⟩::l)) f (enc x) bV fun v _=>v=out x):∀x,ok x->bJ P ρ f (enc x) (out x):=by
 have F:∀n x,sz x<n->ok x->bJ P ρ f (enc x) (out x):=by
  intro n;induction n with
  |zero=>intro x hx;omega
  |succ n ih=>
   intro x hx Z;exact JE (cfg:=aF pls (⟨f,false,bS (fun y=>ok y/\sz y<sz x) enc out⟩::l)) fit (mL ρ) (fun g j r C=>eU.bS (l:=⟨f,false,bS (fun y=>ok y/\sz y<sz x) enc out⟩::l) ⟨cZ fun y hy=>ih y aa hy.1,K⟩ g j r C) (J x Z) (hr x Z) (h x Z)
 exact fun x=>F (sz x+1) x (dq _)
def eG{ρ:Nat->Int}(fit:Fit P){pls:List (Nat×Nat×zdk)}(K:eU P ρ l){r:AV}(J:gg j)(hr:fj r)(h:aU P (aF pls l) f j bV fun v _=>v=r):bJ P ρ f j r:=
 JE fit (mL ρ) (fun g Z r C=>eU.bS K g Z r C) J hr h
abbrev bA(n:Int):Int:=IntKind.wrap .i64 n
section
variable (q:Ex -> Int -> Bool)
mutual
def lF:Ex->Int->Bool
 | .mk k n s o M,d=>q (.mk k n s o M) d&&iK M (bA (d+1))
def iK:qz->Int->Bool
 |[],_=>true
 |e::es,d=>lF e d&&iK es d
end
def EV(e:Ex)(d:Int):lF q e d=(q e d&&iK q e.ak (bA (d+1))):=by
 cases e;simp only[lF,Ex.ak]
def Bv{l:qz}(h:i<l.length)(d:Int):iK q (l.drop i) d=(lF q l[i] d&&iK q (l.drop (i+1)) d):=by
 rw[fR h,iK]
end
section
variable {σ:Type} (q:St -> Int -> σ -> Bool × σ)
mutual
def jX:St->Int->σ->Bool×σ
 | .mk k C S n a v j U V,d,s=>match q (.mk k C S n a v j U V) d s with
   |(false,s)=>(false,s)
   |(true,s)=>match eO U (bA (d+1)) s with
    |(false,s)=>(false,s)
    |(true,s)=>eO V (bA (d+1)) s
def eO:qt->Int->σ->Bool×σ
 |[],_,s=>(true,s)
 |x::l,d,s=>match jX x d s with
  |(false,s)=>(false,s)
  |(true,s)=>eO l d s
end
def VO(x:St)(d:Int)(s:σ):jX q x d s=match q x d s with
 |(false,s)=>(false,s)
 |(true,s)=>match eO q x.a1 (bA (d+1)) s with
  |(false,s)=>(false,s)
  |(true,s)=>eO q x.bh (bA (d+1)) s:=by
 cases x;simp only[jX,St.a1,St.bh]
def VP{l:qt}(h:i<l.length)(d:Int)(s:σ):eO q (l.drop i) d s=match jX q l[i] d s with
 |(false,s)=>(false,s)
 |(true,s)=>eO q (l.drop (i+1)) d s:=by
 rw[fR h,eO]
end
mutual
def Ex.sz:Ex->Nat
 | .mk _ _ s _ M=>1+s.length+cF M
def cF:qz->Nat
 |[]=>0
 |e::es=>1+e.sz+cF es
end
mutual
def St.sz:St->Nat
 | .mk _ C S _ a v j U V=>1+C.length+S.length+a.sz+v.sz+cF j+a6 U+a6 V
def a6:qt->Nat
 |[]=>0
 |x::l=>1+x.sz+a6 l
end
def db:qo->Nat
 |[]=>0
 |s::l=>1+s.length+db l
def Fu.sz(f:Fu):Nat:=1+f.name.length+db f.params+db f.ah+a6 f.body+f.value.sz
def dY:qG->Nat
 |[]=>0
 |f::l=>1+f.sz+dY l
def ez:List Ar->Nat
 |[]=>0
 |a::l=>1+a.name.length+ez l
def Pr.sz(p:Pr):Nat:=1+ez p.af+dY p.funcs
theorem lH:∀l:qz,l.length<=cF l
 |[]=>aT _
 |e::es=>by have:=lH es;simp only[gN,cF];omega
theorem mS:∀l:qt,l.length<=a6 l
 |[]=>aT _
 |e::es=>by have:=mS es;simp only[gN,a6];omega
theorem ig:∀l:qo,l.length<=db l
 |[]=>aT _
 |e::es=>by have:=ig es;simp only[gN,db];omega
theorem lI:∀l:qG,l.length<=dY l
 |[]=>aT _
 |e::es=>by have:=lI es;simp only[gN,dY];omega
theorem lJ:∀l:List Ar,l.length<=ez l
 |[]=>aT _
 |e::es=>by have:=lJ es;simp only[gN,ez];omega
theorem lK:∀{l:qz}{x:Ex},x∈l->x.sz<cF l
 |[],_,h=>by simp at h
 |e::es,x,h=>by
  rcases fY.1 h with rfl|h
  .simp only[cF];omega
  .have:=lK h;simp only[cF];omega
theorem l9:∀{l:qt}{x:St},x∈l->x.sz<a6 l
 |[],_,h=>by simp at h
 |e::es,x,h=>by
  rcases fY.1 h with rfl|h
  .simp only[a6];omega
  .have:=l9 h;simp only[a6];omega
theorem Bw:∀{l:qo}{x:qr},x∈l->x.length<db l
 |[],_,h=>by simp at h
 |e::es,x,h=>by
  rcases fY.1 h with rfl|h
  .simp only[db];omega
  .have:=Bw h;simp only[db];omega
theorem nX:∀{l:qG}{x:Fu},x∈l->x.sz<dY l
 |[],_,h=>by simp at h
 |e::es,x,h=>by
  rcases fY.1 h with rfl|h
  .simp only[dY];omega
  .have:=nX h;simp only[dY];omega
def Ex.aJ(e:Ex):e.sz=1+e.name.length+cF e.ak:=by cases e;simp only[Ex.sz,Ex.name,Ex.ak]
def St.aJ(x:St):x.sz=1+x.name.length+x.to.length+x.aL.sz+x.value.sz+cF x.args+a6 x.a1+a6 x.bh:=by cases x;simp only[St.sz,St.name,St.to,St.aL,St.value,St.args,St.a1,St.bh]
structure FrB (base:Nat) (H H':Hp):Prop where
 next:H.next<=H'.next
 get:∀r,base<=r->r<H.next->H'.get r=H.get r
def FrB.refl(base:Nat)(H:Hp):FrB base H H:=⟨aT _,fun _ _ _=>rfl⟩
def iu:=@FrB.refl
def FrB.trans{base:Nat}(h:FrB base a b)(k:FrB base b c):FrB base a c:=⟨dC h.next k.next,fun r j m=>(k.get r j (fO m h.next)).trans (h.get r j m)⟩
def FrB.alloc{base:Nat}(h:FrB base a b)(x:HB):FrB base a (b.alloc x):=⟨dC h.next (eT _),fun r j m=>by
 have:=h.next
 rw[aP,ad aa];exact h.get r j m⟩
def FrB.set{base:Nat}(h:FrB base a b)(hr:a.next<=r\/r<base)(x:HB):FrB base a (b.set r x):=⟨h.next,fun k j m=>by
 rw[aO,ad aa];exact h.get k j m⟩
def ii(base:Nat)(H H':Hp):Prop:=∀r,r<base->H'.get r=H.get r
theorem ii.refl(base:Nat)(H:Hp):ii base H H:=fun _ _=>rfl
def oZ:=@ii.refl
def ii.trans{base:Nat}(h:ii base a b)(k:ii base b c):ii base a c:=fun r hr=>(k r hr).trans (h r hr)
def ii.alloc{base:Nat}(h:ii base a b)(z:base<=b.next)(x:HB):ii base a (b.alloc x):=fun r hr=>by rw[aP,ad aa];exact h r hr
def ii.set{base:Nat}(h:ii base a b)(hr:base<=r)(x:HB):ii base a (b.set r x):=fun k o=>by rw[aO,ad aa];exact h k o
def FrB.cw{base:Nat}(h:base<=I)(k:FrB base a b):FrB I a b:=⟨k.next,fun r j m=>k.get r (dC h j) m⟩
def ii.cw{base:Nat}(h:base<=I)(k:ii I a b):ii base a b:=fun r hr=>k r (fO hr h)
def mT(x:St)(d:Int)(s:Int×Int):Bool×(Int×Int):=
 let n:=bA (s.1+1)
 let l:=if x.ag=4 then bA (s.2+1)else s.2
 (decide (d<=20)&&decide (n<=200)&&decide (l<=16),(n,l))
def r2(_:Ex)(d:Int):Bool:=decide (d<=20)
def nY(q:Ex->Int->Bool)(x:St)(_:Int)(s:Unit):Bool×Unit:=(lF q x.aL 0&&lF q x.value 0&&iK q x.args 0,s)
def nZ(q:Ex->Int->Bool)(f:Fu):Bool:=lF q f.value 0&&(eO (nY q) f.body 0 ()).1
def jq(f:Fu):Bool:=decide ((f.params.length:Int)<=6)&&decide ((f.ah.length:Int)<=8)&&(eO mT f.body 0 (0,0)).1&&nZ r2 f
def kA(p:Pr):Bool:=!decide (4<(p.af.length:Int)) && !decide (8<(p.funcs.length:Int))&&p.af.all (fun a=>!decide (a.len<1) && !decide (16<a.len))&&p.funcs.all jq
def Ex.pure(x:Ex):gg x.cells:=by
 have F:∀n (x:Ex),x.sz<n->gg x.cells:=by
  intro n;induction n with
  |zero=>intro x h;omega
  |succ n ih=>
   intro x h;rw[jm];refine .cons (.int _ _) (.cons (.int _ _) (.cons (.ae _) (.cons (.int _ _) (.cons (.map fun y hy=>ih y ?_) .nil))));have:=lK hy;have:=x.aJ;omega
 exact F _ x (dq _)
def yM(l:qz):fj (.ai (l.map Ex.cells)):=.map fun x _=>x.pure
def St.pure(x:St):gg x.cells:=by
 have F:∀n (x:St),x.sz<n->gg x.cells:=by
  intro n;induction n with
  |zero=>intro x h;omega
  |succ n ih=>
   intro x h;rw[l7];have:=x.aJ;refine .cons (.int _ _) (.cons (.ae _) (.cons (.ae _) (.cons (.int _ _) (.cons (.int _ _) (.cons (.int _ _) (.cons (.ae _) (.cons (.int _ _) (.cons (yM _) (.cons (.int _ _) (.cons (.int _ _) (.cons (.ae _) (.cons (.int _ _) (.cons (yM _) (.cons (yM _) (.cons (.map fun y hy=>ih y ?_) (.cons (.map fun y hy=>ih y ?_) .nil))))))))))))))))
   .have:=l9 hy;omega
   .have:=l9 hy;omega
 exact F _ x (dq _)
def wy(l:qt):fj (.ai (l.map St.cells)):=.map fun x _=>x.pure
def tq(l:qo):fj (cD l):=.map fun x _=>.cons (.ae _) .nil
def Fu.pure(x:Fu):gg x.cells:=by
 rw[wr];exact .cons (.ae _) (.cons (tq _) (.cons (tq _) (.cons (wy _) (.cons (.int _ _) (.cons (.int _ _) (.cons (.ae _) (.cons (.int _ _) (.cons (yM _) .nil))))))))
def Ar.pure(x:Ar):gg x.cells:=.cons (.ae _) (.cons (.int _ _) .nil)
def Pr.pure(x:Pr):gg x.cells:=.cons (.map fun x _=>x.pure) (.cons (.map fun x _=>x.pure) .nil)
theorem pW{A β:Type}{f:A->β}:∀{a b:List A},(∀x∈a,∀y,f x=f y->x=y)->a.map f=b.map f->a=b
 |[],[],_,_=>rfl
 |[],_::_,_,h=>by simp at h
 |_::_,[],_,h=>by simp at h
 |x::a,y::b,hf,h=>by
  simp only[el,ew]at h;rw[hf x gW y h.1,pW (fun z Y=>hf z (jE _ Y)) h.2]
def Ex.ext'(I:x.ag=y.ag)(h1:x.n=y.n)(h2:x.name=y.name)(A:x.op=y.op)(O:x.ak=y.ak):x=y:=by
 cases x;cases y;simp only[Ex.ag,Ex.n,Ex.name,Ex.op,Ex.ak]at *;simp[*]
def Ex.inj(h:x.cells=y.cells):x=y:=by
 have F:∀n (x:Ex),x.sz<n->∀y,x.cells=y.cells->x=y:=by
  intro n;induction n with
  |zero=>intro x h;omega
  |succ n ih=>
   intro x h y e;rw[jm,jm]at e;simp only[ew,AV.int.injEq,AV.ae.injEq,AV.ai.injEq,oT,bb]at e;obtain⟨Z,o,K,m,O⟩:=e;refine Ex.ext' Z o K m (pW (fun z Y=>ih z ?_) O);have:=lK Y;have:=x.aJ;omega
 exact F _ x (dq _) y h
def Bx{a b:qz}(h:a.map Ex.cells=b.map Ex.cells):a=b:=pW (fun _ _ _=>Ex.inj) h
def St.ext'{x y:St}(I:x.ag=y.ag)(h1:x.name=y.name)(h2:x.to=y.to)(A:x.n=y.n)(O:x.aL=y.aL)(J:x.value=y.value)(C:x.args=y.args)(Z:x.a1=y.a1)(j:x.bh=y.bh):x=y:=by
 cases x;cases y;simp only[St.ag,St.name,St.to,St.n,St.aL,St.value,St.args,St.a1,St.bh]at *;simp[*]
def St.inj{x y:St}(h:x.cells=y.cells):x=y:=by
 have F:∀n (x:St),x.sz<n->∀y,x.cells=y.cells->x=y:=by
  intro n;induction n with
  |zero=>intro x h;omega
  |succ n ih=>
   intro x h y e;have C:=x.aJ;rw[l7,l7]at e;simp only[ew,AV.int.injEq,AV.ae.injEq,AV.ai.injEq,oT,bb]at e;obtain⟨Z,o,K,m,gM,b7,ci,bX,bQ,A,V,U,O,S,M,J,I⟩:=e;refine St.ext' Z o K m (Ex.ext' gM b7 ci bX (Bx bQ)) (Ex.ext' A V U O (Bx S)) (Bx M) (pW (fun z Y=>ih z ?_) J) (pW (fun z Y=>ih z ?_) I)
   .have:=l9 Y;omega
   .have:=l9 Y;omega
 exact F _ x (dq _) y h
def By{a b:qt}(h:a.map St.cells=b.map St.cells):a=b:=pW (fun _ _ _=>St.inj) h
def u9{a b:qo}(h:(a.map fun s=>[AV.ae s])=b.map fun s=>[AV.ae s]):a=b:=pW (fun x _ y e=>Bp) h
def Fu.inj{x y:Fu}(h:x.cells=y.cells):x=y:=by
 obtain⟨n,p,l,b,v⟩:=x;obtain⟨V,U,M,b',J⟩:=y;rw[wr,wr]at h;simp only[ew,AV.int.injEq,AV.ae.injEq,AV.ai.injEq,oT,bb]at h;obtain⟨F,o,K,m,A,Z,z,O,Y⟩:=h;rw[F,u9 o,u9 K,By m,Ex.ext' A Z z O (Bx Y)]
def Ar.inj{x y:Ar}(h:x.cells=y.cells):x=y:=by
 obtain⟨n,p⟩:=x;obtain⟨o,z⟩:=y;simp only[Ar.cells,ew,AV.int.injEq,AV.ae.injEq,oT,bb]at h;rw[h.1,h.2]
def Pr.inj{x y:Pr}(h:x.cells=y.cells):x=y:=by
 obtain⟨n,p⟩:=x;obtain⟨o,z⟩:=y;simp only[Pr.cells,ew,AV.ai.injEq,oT,bb]at h;rw[pW (fun _ _ _=>Ar.inj) h.1,pW (fun _ _ _=>Fu.inj) h.2]
def JF(l:qp):fj (nV l):=.map fun x _=>.cons (.int _ _) .nil
def n1(n:Int):Bool:=(decide (97<=n)&&decide (n<=122))||(decide (65<=n)&&decide (n<=90))||decide (n=95)
def mb(n:Int):Bool:=decide (48<=n)&&decide (n<=57)
def jY(b:UInt8):Bool:=n1 b.toNat||mb b.toNat
def fk:qr->Nat
 |[]=>0
 |b::s=>if jY b then fk s+1 else 0
theorem JG:∀s:qr,fk s<=s.length
 |[]=>aT _
 |b::s=>by have:=JG s;simp only[fk,gN];split<;>omega
def jr:qr->Nat
 |[]=>0
 |b::s=>if b.toNat=10 then 0 else jr s+1
theorem JH:∀s:qr,jr s<=s.length
 |[]=>aT _
 |b::s=>by have:=JH s;simp only[jr,gN];split<;>omega
def jI(b:UInt8):Bool:=decide (b.toNat=32)||decide (b.toNat=9)||decide (b.toNat=10)||decide (b.toNat=13)
def fw:Bool->qr->Nat
 |_,[]=>0
 |true,b::s=>if b.toNat=10 then (if jI b then fw false s+1 else 0)else fw true s+1
 |false,b::s=>if jI b then fw false s+1 else if b.toNat=35 then fw true s+1 else 0
theorem JI:∀s:qr,fw true s=jr s+fw false (s.drop (jr s))
 |[]=>rfl
 |b::s=>by
  simp only[fw,jr];by_cases h:b.toNat=10
  .have z:jI b=true:=by unfold jI;simp[h]
   simp[h,z,fw]
  .simp only[h,bH,List.drop_succ_cons,JI s];omega
theorem wz:∀(c:Bool) (s:qr),fw c s<=s.length
 |c,[]=>by cases c<;>exact aT _
 |true,b::s=>by have j:=wz true s;have m:=wz false s;simp only[fw,gN];split<;>(try split)<;>omega
 |false,b::s=>by have j:=wz true s;have m:=wz false s;simp only[fw,gN];split<;>(try split)<;>omega
def JJ(s:qr)(k:Tk)(e:Int):Prop:=
 k.aL=0/\(e=0->∃n,1<=n/\n<=s.length/\k.text=s.take n/\(k.ag=1->n=fk s/\n<=16/\∀b,s[0]?=some b->mb b.toNat=false)) /\
 (1<=fk s->fk s<=16->(∀b,s[0]?=some b->mb b.toNat=false)->e=0/\k=⟨1,s.take (fk s),0⟩)
def tt(s:qr):Prop:=1<=fk s/\fk s=s.length/\s.length<=16/\∀b,s[0]?=some b->mb b.toNat=false
def Bz(s:qr)(O:List Tk):Prop:=∀k S,O=k::S->∃k0,JJ (s.drop (fw false s)) k0 0/\k.ag=k0.ag/\k.text=k0.text
def wA(lo:Nat)(H:Hp)(S:AV)(O:List Tk):Prop:=(O=[]/\S=.ab)\/∃r,S=.sl r 0 O.length 3/\H.get r=some (.cells (O.flatMap Tk.cells) 0 true)/\lo<r/\r<H.next/\O≠[]
theorem VQ(h:tt s):fw false s=0:=by
 obtain⟨j,m,A,O⟩:=h;cases s with
 |nil=>rfl
 |cons b s=>
  have hd:=O b rfl;simp only[fk]at j;have J:jY b=true:=by
   cases z:jY b with
   |true=>rfl
   |false=>rw[z]at j;simp at j
  simp only[jY,hd,nW]at J;have Z:jI b=false:=by
   unfold jI;simp only[n1,ky,jj]at J;simp;omega
  have Y:¬b.toNat=35:=by
   simp only[n1,ky,jj]at J;omega
  simp only[fw,Z,dg,bH,Y]
theorem JK:∀ts:List Tk,(ts.flatMap Tk.cells).length=ts.length*3
 |[]=>rfl
 |t::ts=>by rw[JA,lA,JK ts,Tk.aN,gN];omega
def FrB.az{base:Nat}(h:FrB base a b)(hr:a.next<=r):FrB base a (b.az r):=⟨h.next,fun k j m=>by
 rw[gm,ad aa];exact h.get k j m⟩
def kB(s:qr):Bool:=decide (1<=fk s)&&decide (fk s=s.length)&&decide (s.length<=16)&&(match s with|b::_=>!mb b.toNat|[]=>true)
def BA(s:qr):kB s=true↔tt s:=by
 unfold kB tt;cases s with
 |nil=>simp[fk]
 |cons b s=>simp[and_assoc]
def tu(s:qr):Bool:=decide (s=[97,114,114,97,121])||decide (s=[102,117,110,99])||decide (s=[118,97,114])||decide (s=[114,101,116,117,114,110])||decide (s=[105,102])||decide (s=[101,108,115,101])||decide (s=[119,104,105,108,101])||decide (s=[111,117,116])||decide (s=[116,114,97,112])
def cX(s:qr):Bool:=kB s && !tu s
def VS{k:Tk}{S:List Tk}(h:Bz s (k::S))(Y:k.ag=1)(U:k.text=s):tt s:=by
 obtain⟨k0,j,m,A⟩:=h k S rfl;obtain⟨n,dl,V,o,O⟩:=j.2.1 rfl;obtain⟨M,J,C⟩:=O (by rw[<-m];exact Y);rw[<-A,U]at o;have K:=lB List.length o;rw[mF,jP]at K;rw[jP]at V;have Z:fw false s=0:=aa;rw[Z,gV]at M C;have I:n=s.length:=aa;exact⟨aa,aa,aa,C⟩
end Go.Ab
