/- Parts: Rules, Lex. -/
import Derived.Test.YtljebeflbbgibaaGreatWCF
set_option linter.unusedSimpArgs false
set_option linter.unusedVariables false
set_option linter.unusedSectionVars false
set_option linter.defProp false
set_option maxHeartbeats 32000000
namespace Go.Ab
set_option maxRecDepth 20000
open Go
theorem r8{P:Prop}(h:P:=by first|(dsimp only[Sg,pB];first|done|exact rfl)|(dsimp only[];first|done|exact rfl)|exact rfl):P:=h
theorem nO{P:Prop}(h:P:=by first|(dsimp only[Qo];first|done|exact rfl)|exact rfl):P:=h
theorem cA{P:Prop}(h:P:=by ((first|simp only[P7,Nat.reduceBEq,ne_eq,not_false_eq_true, *,-hK]|simp only[P7,Nat.reduceBEq,ne_eq,not_false_eq_true, *]|skip);first|done|with_reducible rfl)):P:=h
theorem eP{P:Prop}(h:P:=by ((first|simp only[P7,Qy,tyF,Nat.reduceBEq,Nat.reduceAdd,Nat.reduceLeDiff,ne_eq,not_false_eq_true, *,-hK]|simp only[P7,Qy,tyF,Nat.reduceBEq,Nat.reduceAdd,Nat.reduceLeDiff,ne_eq,not_false_eq_true, *]|skip);first|done|with_reducible rfl)):P:=h
theorem nP{P:Prop}(h:P:=by ((try simp only[QA,QZ,Re,Nat.add_assoc,Nat.reduceAdd,Nat.zero_add]);with_reducible rfl)):P:=h
theorem yT{P:Prop}(h:P:=by ((first|simp only[P7,Nat.reduceBEq,R1,ne_eq,not_false_eq_true, *,-hK]|simp only[P7,Nat.reduceBEq,R1,ne_eq,not_false_eq_true, *]|skip);first|done|with_reducible rfl)):P:=h
theorem yU{P:Prop}(h:P:=by ((first|simp only[P7,Nat.reduceBEq,Rt,List.cons_append,List.nil_append,ne_eq,not_false_eq_true, *,-hK]|simp only[P7,Nat.reduceBEq,Rt,List.cons_append,List.nil_append,ne_eq,not_false_eq_true, *]|skip);first|done|with_reducible rfl)):P:=h
theorem yV{P:Prop}(h:P:=by ((first|simp only[P7,Nat.reduceBEq,RV,ne_eq,not_false_eq_true, *,-hK]|simp only[P7,Nat.reduceBEq,RV,ne_eq,not_false_eq_true, *]|skip);first|done|with_reducible rfl)):P:=h
theorem ct{P:Prop}(h:P:=by ((first|simp only[P7,Nat.reduceBEq,ne_eq,not_false_eq_true,decide_true,decide_false,Int.reduceEq,Int.reduceLE,Int.reduceToNat,Nat.mul_one, *,-hK]|simp only[P7,Nat.reduceBEq,ne_eq,not_false_eq_true,decide_true,decide_false,Int.reduceEq,Int.reduceLE,Int.reduceToNat,Nat.mul_one, *]|skip);first|done|with_reducible rfl)):P:=h
theorem eQ{P:Prop}(h:P:=by ((first|simp only[P7,Qy,tyF,Nat.reduceBEq,Nat.reduceAdd,Nat.reduceLeDiff,ne_eq,not_false_eq_true,decide_true,decide_false,Int.reduceEq,Int.reduceLE,Int.reduceToNat,Nat.mul_one, *,-hK]|simp only[P7,Qy,tyF,Nat.reduceBEq,Nat.reduceAdd,Nat.reduceLeDiff,ne_eq,not_false_eq_true,decide_true,decide_false,Int.reduceEq,Int.reduceLE,Int.reduceToNat,Nat.mul_one, *]|skip);first|done|with_reducible rfl)):P:=h
theorem yW{P:Prop}(h:P:=by ((first|simp only[P7,Nat.reduceBEq,R1,ne_eq,not_false_eq_true,decide_true,decide_false,Int.reduceEq,Int.reduceLE,Int.reduceToNat,Nat.mul_one, *,-hK]|simp only[P7,Nat.reduceBEq,R1,ne_eq,not_false_eq_true,decide_true,decide_false,Int.reduceEq,Int.reduceLE,Int.reduceToNat,Nat.mul_one, *]|skip);first|done|with_reducible rfl)):P:=h
theorem yX{P:Prop}(h:P:=by ((first|simp only[P7,Nat.reduceBEq,Rt,List.cons_append,List.nil_append,ne_eq,not_false_eq_true,decide_true,decide_false,Int.reduceEq,Int.reduceLE,Int.reduceToNat,Nat.mul_one, *,-hK]|simp only[P7,Nat.reduceBEq,Rt,List.cons_append,List.nil_append,ne_eq,not_false_eq_true,decide_true,decide_false,Int.reduceEq,Int.reduceLE,Int.reduceToNat,Nat.mul_one, *]|skip);first|done|with_reducible rfl)):P:=h
theorem yY{P:Prop}(h:P:=by ((first|simp only[P7,Nat.reduceBEq,RV,ne_eq,not_false_eq_true,decide_true,decide_false,Int.reduceEq,Int.reduceLE,Int.reduceToNat,Nat.mul_one, *,-hK]|simp only[P7,Nat.reduceBEq,RV,ne_eq,not_false_eq_true,decide_true,decide_false,Int.reduceEq,Int.reduceLE,Int.reduceToNat,Nat.mul_one, *]|skip);first|done|with_reducible rfl)):P:=h
def fM:=@List.cons_append
def r9:=@List.getElem?_cons_succ
def nQ:=@decide_eq_false_iff_not
def uV:=@List.getElem?_nil
end Go.Ab
namespace Go.Proofs.YtljebeflbbgibaaGreat
set_option maxRecDepth 20000
open Go Go.Ab
def SK:=ac gK f6
def SL:=ac @i4 @nQ
section
variable {P:Program} {cfg:Cfg} {f:FuncId} {l:List SOp} {E:ai} {H H':Hp} {Q:ai -> Hp -> Prop} {d:Nat} {v a b:AV} {x y:Operand} {t u:TypeId}
def bj(P:Program)(cfg:Cfg)(f:FuncId)(op:Op)(E:ai)(H:Hp)(v:AV)(H':Hp):Prop:=∃n,QU P cfg (QJ P cfg n) f E H op=.val v H'
theorem bj.of{op:Op}(h:∀Q:ai->Hp->Prop,ak P cfg f [] (T.set E 0 (some v)) H' Q->ak P cfg f [⟨some 0,op,none⟩] E H Q):bj P cfg f op E H v H':=by
 have i:=h (fun M m=>M.at 0=v/\m=H') (ak.nil ⟨by rw[uA];rfl,rfl⟩);unfold ak at i;simp only[]at i;unfold ec at i;obtain⟨n,w,m,g,o⟩:=i;unfold ak at o;obtain⟨U,rfl⟩:=o;have:(Qo E (some 0) w).at 0=w:=xz;rw[this]at U;exact⟨n,by rw[g,U]⟩
def bT:=@bj.of
theorem sa{op:Op}(h:∀Q:ai->Hp->Prop,ak P cfg f [] E H' Q->ak P cfg f [⟨none,op,none⟩] E H Q):∃v,bj P cfg f op E H v H':=by
 have i:=h (fun M m=>m=H') (ak.nil rfl);unfold ak at i;simp only[]at i;unfold ec at i;obtain⟨n,w,m,g,o⟩:=i;unfold ak at o;subst o;exact⟨w,n,g⟩
theorem bj.go{op:Op}(j:ak P cfg f l (T.set E d (some v)) H' Q)(h:bj P cfg f op E H v H'):ak P cfg f (⟨some d,op,none⟩::l) E H Q:=by
 obtain⟨n,h⟩:=h;unfold ak;show ec _ _ _ _ _ _ _;unfold ec;exact⟨n,v,H',h,j⟩
theorem yZ{op:Op}(j:ak P cfg f l E H' Q)(h:∃v,bj P cfg f op E H v H'):ak P cfg f (⟨none,op,none⟩::l) E H Q:=by
 obtain⟨v,n,h⟩:=h;unfold ak;show ec _ _ _ _ _ _ _;unfold ec;exact⟨n,v,H',h,j⟩
attribute [irreducible] bj
theorem PO{m K:ai->Hp->Prop}{R:Prop}(h:R)(hK:∀E H,m E H->K E H:=by assumption)(e:m E H=R:=by exact r8):ak P cfg f [] E H K:=ak.nil (hK _ _ (e▸h))
theorem P5{R:Prop}(h:R)(e:Q E H=R:=by first|(dsimp only[];first|done|exact rfl)|exact rfl):ak P cfg f [] E H Q:=ak.nil (e▸h)
theorem P6{g:List (Nat×Nat)}{Z:List Rc}{m:ai->Hp->Prop}{K:List Rc->ai->Hp->Prop}{R:Prop}(i:mn P cfg g Z H)(h:R)(hK:∀Z E' H',mn P cfg g Z H'->m E' H'->K Z E' H':=by assumption)(e:m E H=R:=by exact r8):cJ P cfg f [] Z E H K:=cJ.nil (hK _ _ _ i (e▸h))
theorem Rx.k{g:FuncId}{C:List AV}{r:AV}{K:AV->Hp->Prop}{R:Prop}(c:P2 P cfg g C H fun v H'=>v=r/\H'=H)(h:R)(e:K r H=R:=by exact nO):P2 P cfg g C H K:=b3 (by rintro _ _ ⟨rfl,rfl⟩;exact e▸h) c
theorem Ox.mv(h:PS E x=some v:=by exact cA):bj P cfg f (.move x) E H v H:=bT fun Q j=>ak.move h j
theorem Ox.as(h:PS E x=some v:=by exact cA):bj P cfg f (.assign x) E H v H:=bT fun Q j=>ak.assign h j
theorem Ox.pk{z:Operand}{t:Bool}(h:PS E x=some (.bool t):=by exact cA)(i:PS E y=some a:=by exact cA)(g:PS E z=some b:=by exact cA):bj P cfg f (.pick x y z) E H (fg t a b) H:=bT fun Q j=>ak.pick h i g j
theorem Ox.ld(h:PS E x=some a:=by exact cA)(i:Ru P H t a=some v:=by exact eP):bj P cfg f (.load t x) E H v H:=bT fun Q j=>ak.load h i j
theorem Ox.st(h:PS E x=some a:=by exact cA)(i:PS E y=some b:=by exact cA)(g:RT P H t a b=some H':=by exact eP):∃v,bj P cfg f (.store t x y) E H v H':=sa fun Q j=>jD h i g j
theorem Ox.nc{r o:Nat}(h:PS E x=some (.ptr r o):=by exact cA):bj P cfg f (.nilCheck x) E H (.ptr r o) H:=bT fun Q j=>ak.nilCheck h j
theorem Ox.bn{op:BinOp}(h:PS E x=some a:=by exact cA)(i:PS E y=some b:=by exact cA)(g:QR P cfg.dec op t a b=some v:=by exact eP):bj P cfg f (.binOp op t x y u) E H v H:=bT fun Q j=>ak.bin h i g j
theorem Ox.un{op:UnOp}(h:PS E x=some a:=by exact cA)(g:j4 op a=some v:=by exact eP):bj P cfg f (.unOp op t x) E H v H:=bT fun Q j=>ak.un h g j
theorem Ox.cv(h:PS E x=some a:=by exact cA)(g:RU P H t u a=some v:=by exact eP):bj P cfg f (.convert t u x) E H v H:=bT fun Q j=>ak.convert h g j
theorem Ox.fa{i:Nat}(h:PS E x=some a:=by exact cA)(g:PW P t a i=some v:=by exact eP):bj P cfg f (.fieldAddr t x i) E H v H:=bT fun Q j=>xK h g j
theorem Ox.fi{i:Nat}(h:PS E x=some a:=by exact cA)(g:Qu P t a i=some v:=by exact eP):bj P cfg f (.field t x i) E H v H:=bT fun Q j=>ak.field h g j
theorem Ox.ia(h:PS E x=some a:=by exact cA)(i:PS E y=some b:=by exact cA)(g:Qt P t a b=some v:=by exact eP):bj P cfg f (.indexAddr t x y) E H v H:=bT fun Q j=>xL h i g j
theorem Ox.ix(h:PS E x=some a:=by exact cA)(i:PS E y=some b:=by exact cA)(g:jl P t a b=some v:=by exact eP):bj P cfg f (.index t x y) E H v H:=bT fun Q j=>ak.index h i g j
theorem Ox.ex{i:Nat}(h:PS E x=some a:=by exact cA)(g:Ab.extract a i=some v:=by exact eP):bj P cfg f (.extract x i) E H v H:=bT fun Q j=>ak.extract h g j
theorem Ox.al{z:List AV}{n:Nat}(h:Qx P t=some z:=by exact eP)(m:some H.next=some n:=by exact nP):bj P cfg f (.alloc t) E H (.ptr n 0) (H.alloc (.cells z 0 true)):=bT fun Q j=>ak.alloc h m j
theorem Ox.bx{cs:List AV}{n:Nat}(h:PS E x=some a:=by exact cA)(V:some a.cells=some cs:=by exact eP)(m:some H.next=some n:=by exact nP):bj P cfg f (.box t x) E H (.ptr n 0) (H.alloc (.cells cs 0 true)):=bT fun Q j=>ak.box h V m j
theorem Ox.bd{V:Array (Nat×Operand)}{ps:List (Nat×AV)}(h:R1 E V.toList=some ps:=by exact yT)(g:jn P t ps=some v:=by exact eP):bj P cfg f (.build t V) E H v H:=bT fun Q j=>ak.build h g j
theorem Ox.bs{n:Nat}{V:Array (Nat×Operand)}{ps:List (Nat×AV)}(h:R1 E V.toList=some ps:=by exact yT)(g:Rs P H t n ps=some (v,H'):=by exact eP):bj P cfg f (.buildSlice t n V) E H v H':=bT fun Q j=>xM h g j
theorem Ox.mm{n:Nat}(m:some H.next=some n:=by exact nP):bj P cfg f (.makeMap t none) E H (.map n) (H.alloc (.map [])):=bT fun Q j=>ak.makeMap m j
theorem Ox.ms(h:PS E x=some a:=by exact cA)(i:PS E y=some b:=by exact cA)(g:RK P H t a b=some (v,H'):=by exact eP):bj P cfg f (.makeSlice t x y) E H v H':=bT fun Q j=>xO h i g j
theorem Ox.lu{ok:Bool}(h:PS E x=some a:=by exact cA)(i:PS E y=some b:=by exact cA)(g:R2 P H t a b ok=some v:=by exact eP):bj P cfg f (.lookup t x y ok) E H v H:=bT fun Q j=>ak.lookup h i g j
theorem Ox.mu{z:Operand}{c:AV}(h:PS E x=some a:=by exact cA)(i:PS E y=some b:=by exact cA)(g:PS E z=some c:=by exact cA)(o:SD P H t a b c=some H':=by exact eP):∃v,bj P cfg f (.mapUpdate t x y z) E H v H':=sa fun Q j=>xN h i g o j
theorem Ox.mf{g:FuncId}{cap:Array Operand}{vs:List AV}(h:Rt E cap.toList=some vs:=by exact yU):bj P cfg f (.makeFunc (.func g) #[] cap) E H (.clo g vs) H:=bT fun Q j=>ak.makeFunc h j
theorem Ox.sl{lo F:Option Operand}{I J:Option AV}(h:PS E x=some a:=by exact cA)(i:RV E lo=some I:=by exact yV)(g:RV E F=some J:=by exact yV)(o:jB P H t a I J=some v:=by exact eP):bj P cfg f (.slice t x lo F none) E H v H:=bT fun Q j=>ak.slice h i g o j
theorem Ox.ln{c:AV}(h:PS E x=some a:=by exact cA)(i:Qr P H t a=some c:=by exact eP):bj P cfg f (.call ⟨.builtin .len,#[x],#[t]⟩) E H c H:=bT fun Q j=>ak.len h i j
theorem Ox.ap(h:PS E x=some a:=by exact cA)(i:PS E y=some b:=by exact cA)(g:Rj P (cfg.keep f) H t u a b=some (v,H'):=by exact eP):bj P cfg f (.call ⟨.builtin .append,#[x,y],#[t,u]⟩) E H v H':=bT fun Q j=>mg h i g j
theorem Ox.mi{Y:Array TypeId}{k V:IntKind}{K Z:Int}(h:PS E x=some (.int k K):=by exact cA)(i:PS E y=some (.int V Z):=by exact cA):bj P cfg f (.call ⟨.builtin .min,#[x,y],Y⟩) E H (.int k (min K Z)) H:=bT fun Q j=>ak.min2 h i j
theorem Ox.ma{Y:Array TypeId}{k V:IntKind}{K Z:Int}(h:PS E x=some (.int k K):=by exact cA)(i:PS E y=some (.int V Z):=by exact cA):bj P cfg f (.call ⟨.builtin .max,#[x,y],Y⟩) E H (.int k (max K Z)) H:=bT fun Q j=>ak.max2 h i j
theorem Rx.o{op:Op}(j:ak P cfg f l (T.set E d (some v)) H' Q)(h:bj P cfg f op E H v H':=by first|apply(Ox.mv)|apply(Ox.as)|apply(Ox.pk)|apply(Ox.ld)|apply(Ox.nc)|apply(Ox.bn)|apply(Ox.un)|apply(Ox.cv)|apply(Ox.fa)|apply(Ox.fi)|apply(Ox.ia)|apply(Ox.ix)|apply(Ox.ex)|apply(Ox.al)|apply(Ox.bx)|apply(Ox.bd)|apply(Ox.bs)|apply(Ox.mm)|apply(Ox.ms)|apply(Ox.lu)|apply(Ox.mf)|apply(Ox.sl)|apply(Ox.ln)|apply(Ox.ap)|apply(Ox.mi)|apply(Ox.ma)):ak P cfg f (⟨some d,op,none⟩::l) E H Q:=bj.go j h
theorem Rx.on{op:Op}(j:ak P cfg f l E H' Q)(h:∃v,bj P cfg f op E H v H':=by first|apply(Ox.st)|apply(Ox.mu)):ak P cfg f (⟨none,op,none⟩::l) E H Q:=yZ j h
def dL:=@Rx.on
theorem Rx.call{j:Option Nat}{c:Call}{g:Operand}{k:FuncId}{cap vs C:List AV}(Z:P2 P cfg k C H fun v H'=>ak P cfg f l (Qo E j v) H' Q)(V:c.callee=.value g:=by rfl)(A:PS E g=some (.clo k cap):=by exact cA)(J:Rt E c.args.toList=some vs:=by exact yU)(O:vs++cap=C:=by simp only[fM,e6,b8];first|done|exact rfl):ak P cfg f (⟨j,.call c,none⟩::l) E H Q:=ci V A J (O▸Z)
def eR:=@Rx.call
theorem Rx.gu{j:Option Nat}{op:Op}{s:Nat}{t:Bool}{v:AV}{R:Prop}(Z:R)(h:some (E.at s)=some v:=by exact cA)(J:v=QQ:=by with_reducible rfl)(e:ak P cfg f l (Qo E j QQ) H Q=R:=by exact nO):ak P cfg f (⟨j,op,some (s,t)⟩::l) E H Q:=xI h J (e▸Z)
def mw:=@Rx.gu
theorem Rx.gd{j:Option Nat}{op:Op}{s:Nat}{tb t:Bool}{K I J g R:Prop}(i:K->J->ak P cfg f (⟨j,op,none⟩::l) E H Q)(Y:I->g->R)(h:E.at s=.bool t:=by exact cA)(Z:(t=tb)=K:=by(try simp only[SK,reduceCtorEq]);first|done|exact rfl)(z:(t=!tb)=I:=by(try simp only[SK,reduceCtorEq]);first|done|exact rfl)(V:K=J:=by(try simp only[SL]);first|done|exact rfl)(A:I=g:=by(try simp only[SL]);first|done|exact rfl)(e:ak P cfg f l (Qo E j QQ) H Q=R:=by exact nO):ak P cfg f (⟨j,op,some (s,tb)⟩::l) E H Q:=ak.guard h (fun k=>i (Z▸k) (V▸Z▸k)) (fun k=>e▸Y (z▸k) (A▸z▸k))
def cK:=@Rx.gd
theorem Rx.cd{N:Nat}{o L:SC}{Q:AX->ai->Hp->Prop}{t:Bool}{K I J g:Prop}(i:K->J->Wp P cfg f N o E H Q)(Y:I->g->Wp P cfg f N L E H Q)(C:PS E x=some (.bool t):=by exact cA)(Z:(t=true)=K:=by(try simp only[SK,reduceCtorEq]);first|done|exact rfl)(z:(t=false)=I:=by(try simp only[SK,reduceCtorEq]);first|done|exact rfl)(V:K=J:=by(try simp only[SL]);first|done|exact rfl)(A:I=g:=by(try simp only[SL]);first|done|exact rfl):Wp P cfg f N (.cond x o L) E H Q:=Wp.cond C (fun k=>i (Z▸k) (V▸Z▸k)) (fun k=>Y (z▸k) (A▸z▸k))
def a6:=@Rx.cd
theorem Oy.mv(h:PS E x=some v:=by exact ct):bj P cfg f (.move x) E H v H:=bT fun Q j=>ak.move h j
theorem Oy.as(h:PS E x=some v:=by exact ct):bj P cfg f (.assign x) E H v H:=bT fun Q j=>ak.assign h j
theorem Oy.pk{z:Operand}{t:Bool}(h:PS E x=some (.bool t):=by exact ct)(i:PS E y=some a:=by exact ct)(g:PS E z=some b:=by exact ct):bj P cfg f (.pick x y z) E H (fg t a b) H:=bT fun Q j=>ak.pick h i g j
theorem Oy.ld(h:PS E x=some a:=by exact ct)(i:Ru P H t a=some v:=by exact eQ):bj P cfg f (.load t x) E H v H:=bT fun Q j=>ak.load h i j
theorem Oy.st(h:PS E x=some a:=by exact ct)(i:PS E y=some b:=by exact ct)(g:RT P H t a b=some H':=by exact eQ):∃v,bj P cfg f (.store t x y) E H v H':=sa fun Q j=>jD h i g j
theorem Oy.nc{r o:Nat}(h:PS E x=some (.ptr r o):=by exact ct):bj P cfg f (.nilCheck x) E H (.ptr r o) H:=bT fun Q j=>ak.nilCheck h j
theorem Oy.bn{op:BinOp}(h:PS E x=some a:=by exact ct)(i:PS E y=some b:=by exact ct)(g:QR P cfg.dec op t a b=some v:=by exact eQ):bj P cfg f (.binOp op t x y u) E H v H:=bT fun Q j=>ak.bin h i g j
theorem Oy.un{op:UnOp}(h:PS E x=some a:=by exact ct)(g:j4 op a=some v:=by exact eQ):bj P cfg f (.unOp op t x) E H v H:=bT fun Q j=>ak.un h g j
theorem Oy.cv(h:PS E x=some a:=by exact ct)(g:RU P H t u a=some v:=by exact eQ):bj P cfg f (.convert t u x) E H v H:=bT fun Q j=>ak.convert h g j
theorem Oy.fa{i:Nat}(h:PS E x=some a:=by exact ct)(g:PW P t a i=some v:=by exact eQ):bj P cfg f (.fieldAddr t x i) E H v H:=bT fun Q j=>xK h g j
theorem Oy.fi{i:Nat}(h:PS E x=some a:=by exact ct)(g:Qu P t a i=some v:=by exact eQ):bj P cfg f (.field t x i) E H v H:=bT fun Q j=>ak.field h g j
theorem Oy.ia(h:PS E x=some a:=by exact ct)(i:PS E y=some b:=by exact ct)(g:Qt P t a b=some v:=by exact eQ):bj P cfg f (.indexAddr t x y) E H v H:=bT fun Q j=>xL h i g j
theorem Oy.ix(h:PS E x=some a:=by exact ct)(i:PS E y=some b:=by exact ct)(g:jl P t a b=some v:=by exact eQ):bj P cfg f (.index t x y) E H v H:=bT fun Q j=>ak.index h i g j
theorem Oy.ex{i:Nat}(h:PS E x=some a:=by exact ct)(g:Ab.extract a i=some v:=by exact eQ):bj P cfg f (.extract x i) E H v H:=bT fun Q j=>ak.extract h g j
theorem Oy.al{z:List AV}{n:Nat}(h:Qx P t=some z:=by exact eQ)(m:some H.next=some n:=by exact nP):bj P cfg f (.alloc t) E H (.ptr n 0) (H.alloc (.cells z 0 true)):=bT fun Q j=>ak.alloc h m j
theorem Oy.bx{cs:List AV}{n:Nat}(h:PS E x=some a:=by exact ct)(V:some a.cells=some cs:=by exact eQ)(m:some H.next=some n:=by exact nP):bj P cfg f (.box t x) E H (.ptr n 0) (H.alloc (.cells cs 0 true)):=bT fun Q j=>ak.box h V m j
theorem Oy.bd{V:Array (Nat×Operand)}{ps:List (Nat×AV)}(h:R1 E V.toList=some ps:=by exact yW)(g:jn P t ps=some v:=by exact eQ):bj P cfg f (.build t V) E H v H:=bT fun Q j=>ak.build h g j
theorem Oy.bs{n:Nat}{V:Array (Nat×Operand)}{ps:List (Nat×AV)}(h:R1 E V.toList=some ps:=by exact yW)(g:Rs P H t n ps=some (v,H'):=by exact eQ):bj P cfg f (.buildSlice t n V) E H v H':=bT fun Q j=>xM h g j
theorem Oy.mm{n:Nat}(m:some H.next=some n:=by exact nP):bj P cfg f (.makeMap t none) E H (.map n) (H.alloc (.map [])):=bT fun Q j=>ak.makeMap m j
theorem Oy.ms(h:PS E x=some a:=by exact ct)(i:PS E y=some b:=by exact ct)(g:RK P H t a b=some (v,H'):=by exact eQ):bj P cfg f (.makeSlice t x y) E H v H':=bT fun Q j=>xO h i g j
theorem Oy.lu{ok:Bool}(h:PS E x=some a:=by exact ct)(i:PS E y=some b:=by exact ct)(g:R2 P H t a b ok=some v:=by exact eQ):bj P cfg f (.lookup t x y ok) E H v H:=bT fun Q j=>ak.lookup h i g j
theorem Oy.mu{z:Operand}{c:AV}(h:PS E x=some a:=by exact ct)(i:PS E y=some b:=by exact ct)(g:PS E z=some c:=by exact ct)(o:SD P H t a b c=some H':=by exact eQ):∃v,bj P cfg f (.mapUpdate t x y z) E H v H':=sa fun Q j=>xN h i g o j
theorem Oy.mf{g:FuncId}{cap:Array Operand}{vs:List AV}(h:Rt E cap.toList=some vs:=by exact yX):bj P cfg f (.makeFunc (.func g) #[] cap) E H (.clo g vs) H:=bT fun Q j=>ak.makeFunc h j
theorem Oy.sl{lo F:Option Operand}{I J:Option AV}(h:PS E x=some a:=by exact ct)(i:RV E lo=some I:=by exact yY)(g:RV E F=some J:=by exact yY)(o:jB P H t a I J=some v:=by exact eQ):bj P cfg f (.slice t x lo F none) E H v H:=bT fun Q j=>ak.slice h i g o j
theorem Oy.ln{c:AV}(h:PS E x=some a:=by exact ct)(i:Qr P H t a=some c:=by exact eQ):bj P cfg f (.call ⟨.builtin .len,#[x],#[t]⟩) E H c H:=bT fun Q j=>ak.len h i j
theorem Oy.ap(h:PS E x=some a:=by exact ct)(i:PS E y=some b:=by exact ct)(g:Rj P (cfg.keep f) H t u a b=some (v,H'):=by exact eQ):bj P cfg f (.call ⟨.builtin .append,#[x,y],#[t,u]⟩) E H v H':=bT fun Q j=>mg h i g j
theorem Oy.mi{Y:Array TypeId}{k V:IntKind}{K Z:Int}(h:PS E x=some (.int k K):=by exact ct)(i:PS E y=some (.int V Z):=by exact ct):bj P cfg f (.call ⟨.builtin .min,#[x,y],Y⟩) E H (.int k (min K Z)) H:=bT fun Q j=>ak.min2 h i j
theorem Oy.ma{Y:Array TypeId}{k V:IntKind}{K Z:Int}(h:PS E x=some (.int k K):=by exact ct)(i:PS E y=some (.int V Z):=by exact ct):bj P cfg f (.call ⟨.builtin .max,#[x,y],Y⟩) E H (.int k (max K Z)) H:=bT fun Q j=>ak.max2 h i j
theorem Ry.o{op:Op}(j:ak P cfg f l (T.set E d (some v)) H' Q)(h:bj P cfg f op E H v H':=by first|apply(Oy.mv)|apply(Oy.as)|apply(Oy.pk)|apply(Oy.ld)|apply(Oy.nc)|apply(Oy.bn)|apply(Oy.un)|apply(Oy.cv)|apply(Oy.fa)|apply(Oy.fi)|apply(Oy.ia)|apply(Oy.ix)|apply(Oy.ex)|apply(Oy.al)|apply(Oy.bx)|apply(Oy.bd)|apply(Oy.bs)|apply(Oy.mm)|apply(Oy.ms)|apply(Oy.lu)|apply(Oy.mf)|apply(Oy.sl)|apply(Oy.ln)|apply(Oy.ap)|apply(Oy.mi)|apply(Oy.ma)):ak P cfg f (⟨some d,op,none⟩::l) E H Q:=bj.go j h
theorem Ry.on{op:Op}(j:ak P cfg f l E H' Q)(h:∃v,bj P cfg f op E H v H':=by first|apply(Oy.st)|apply(Oy.mu)):ak P cfg f (⟨none,op,none⟩::l) E H Q:=yZ j h
def bC:=@Ry.on
theorem Ry.call{j:Option Nat}{c:Call}{g:Operand}{k:FuncId}{cap vs C:List AV}(Z:P2 P cfg k C H fun v H'=>ak P cfg f l (Qo E j v) H' Q)(V:c.callee=.value g:=by rfl)(A:PS E g=some (.clo k cap):=by exact ct)(J:Rt E c.args.toList=some vs:=by exact yX)(O:vs++cap=C:=by simp only[fM,e6,b8];first|done|exact rfl):ak P cfg f (⟨j,.call c,none⟩::l) E H Q:=ci V A J (O▸Z)
def bD:=@Ry.call
theorem Ry.gu{j:Option Nat}{op:Op}{s:Nat}{t:Bool}{v:AV}{R:Prop}(Z:R)(h:some (E.at s)=some v:=by exact ct)(J:v=QQ:=by with_reducible rfl)(e:ak P cfg f l (Qo E j QQ) H Q=R:=by exact nO):ak P cfg f (⟨j,op,some (s,t)⟩::l) E H Q:=xI h J (e▸Z)
theorem Ry.gd{j:Option Nat}{op:Op}{s:Nat}{tb t:Bool}{K I J g R:Prop}(i:K->J->ak P cfg f (⟨j,op,none⟩::l) E H Q)(Y:I->g->R)(h:E.at s=.bool t:=by exact ct)(Z:(t=tb)=K:=by(try simp only[SK,reduceCtorEq]);first|done|exact rfl)(z:(t=!tb)=I:=by(try simp only[SK,reduceCtorEq]);first|done|exact rfl)(V:K=J:=by(try simp only[SL]);first|done|exact rfl)(A:I=g:=by(try simp only[SL]);first|done|exact rfl)(e:ak P cfg f l (Qo E j QQ) H Q=R:=by exact nO):ak P cfg f (⟨j,op,some (s,tb)⟩::l) E H Q:=ak.guard h (fun k=>i (Z▸k) (V▸Z▸k)) (fun k=>e▸Y (z▸k) (A▸z▸k))
def aU:=@Ry.gd
theorem Ry.gt{j:Option Nat}{op:Op}{s:Nat}{tb t:Bool}{K:List Rc}{Q:List Rc->ai->Hp->Prop}{Z I J g R:Prop}(i:Z->J->cJ P cfg f (⟨j,op,none⟩::l) K E H Q)(V:I->g->R)(h:E.at s=.bool t:=by exact ct)(Y:(t=tb)=Z:=by(try simp only[SK,reduceCtorEq]);first|done|exact rfl)(z:(t=!tb)=I:=by(try simp only[SK,reduceCtorEq]);first|done|exact rfl)(U:Z=J:=by(try simp only[SL]);first|done|exact rfl)(A:I=g:=by(try simp only[SL]);first|done|exact rfl)(e:cJ P cfg f l (K++[⟨op,false,E,H,QQ,H⟩]) (Qo E j QQ) H Q=R:=by exact nO):cJ P cfg f (⟨j,op,some (s,tb)⟩::l) K E H Q:=cJ.guard h (fun k=>i (Y▸k) (U▸Y▸k)) (fun k=>e▸V (z▸k) (A▸z▸k))
theorem Ry.cd{N:Nat}{o L:SC}{Q:AX->ai->Hp->Prop}{t:Bool}{K I J g:Prop}(i:K->J->Wp P cfg f N o E H Q)(Y:I->g->Wp P cfg f N L E H Q)(C:PS E x=some (.bool t):=by exact ct)(Z:(t=true)=K:=by(try simp only[SK,reduceCtorEq]);first|done|exact rfl)(z:(t=false)=I:=by(try simp only[SK,reduceCtorEq]);first|done|exact rfl)(V:K=J:=by(try simp only[SL]);first|done|exact rfl)(A:I=g:=by(try simp only[SL]);first|done|exact rfl):Wp P cfg f N (.cond x o L) E H Q:=Wp.cond C (fun k=>i (Z▸k) (V▸Z▸k)) (fun k=>Y (z▸k) (A▸z▸k))
def aH:=@Ry.cd
theorem eE{p:Prop}(h:p:=by first|(simp only[P7,Nat.reduceBEq, *];done)|rfl):p:=h
theorem eV{p:Prop}(h:p:=by((try simp only[P7,Nat.reduceBEq, *]);first|done|with_reducible rfl)):p:=h
theorem eW{p:Prop}(h:p:=by((try simp only[P7,Qy,tyF,Nat.reduceBEq,Nat.reduceAdd,Nat.reduceLeDiff, *]);first|done|with_reducible rfl)):p:=h
theorem P0{p:Prop}(h:p:=by((try simp only[P7,Nat.reduceBEq,SP,m8, *]);first|done|with_reducible rfl)):p:=h
theorem da{p:Prop}(h:p:=by((try simp only[P7,Qy,tyF,Nat.reduceBEq,Nat.reduceAdd,Nat.reduceLeDiff,SP,m8, *]);first|done|with_reducible rfl)):p:=h
theorem cu{p:Prop}(h:p:=by((try simp only[P7,Nat.reduceBEq, *,-hK]);first|done|with_reducible rfl)):p:=h
theorem cy{p:Prop}(h:p:=by((try simp only[P7,Nat.reduceBEq,Rt,fM,e6, *,-hK]);first|done|with_reducible rfl)):p:=h
theorem eI{p:Prop}(h:p:=by first|exact .inl rfl|exact .inr rfl|exact .inl trivial|exact .inr trivial):p:=h
theorem P1{p:Prop}(h:p:=by simp only[QK,Qs,a7,P7,Qy,tyF,Nat.reduceBEq,Nat.reduceAdd,Nat.reduceLeDiff, *]):p:=h
theorem QN{p:Prop}(h:p:=by(try simp only[QA,QZ,Re,bZ,Nat.reduceAdd]);omega):p:=h
theorem PR{N:Nat}{Q:AX->ai->Hp->Prop}{R:Prop}(h:R)(e:Q .normal E H=R:=by exact r8):Wp P cfg f N .skip E H Q:=Wp.skip (e▸h)
theorem Rx.rt{N:Nat}{Q:AX->ai->Hp->Prop}{R:Prop}(h:R)(e:Q .ret E H=R:=by exact r8):Wp P cfg f N .ret E H Q:=Wp.ret (e▸h)
def aq:=@Rx.rt
theorem PX{N id:Nat}{Q:AX->ai->Hp->Prop}{R:Prop}(h:R)(e:Q (.exit id) E H=R:=by first|(simp only[Sg,pB,reduceIte];first|done|exact rfl)|(dsimp only[];first|done|exact rfl)|exact rfl):Wp P cfg f N (.exit id) E H Q:=Wp.exit (e▸h)
theorem eK{p:Prop}(h:p:=by(refine⟨?_,?_⟩<;>simp only[e6,fM,iz,r9,pK,uV,List.forall_mem_cons,QA,QZ,aC,fJ,a7]<;>(repeat' apply ac)<;>first
 |(intro r hr;cases hr;done)
 |(refine EX (by simp only[e6,fM,iz,r9,pK,uV];rfl) (fun hd=>?_)
   simp only[pJ,e6,fM,iz,r9,pK,uV]at hd⊢;first
   |(cases hd;done)
   |exact ER eV eW
   |exact ES eV eV eW
   |exact ET eV eW
   |exact EU eV eW
   |exact EV eV (by simp only[RV];first|rfl|simp only[P7,Nat.reduceBEq, *]) (by simp only[RV];first|rfl|simp only[P7,Nat.reduceBEq, *]) eW
   |exact EW rfl eW eW)
 |exact aC _
 |assumption
 |omega)):p:=h
variable {N:Nat} {ops:List Oper} {Q2:AX -> ai -> Hp -> Prop}
theorem PQ(id:Nat)(g:List (Nat×Nat))(h:∀K:List Rc->ai->Hp->Prop,(∀Z E' H',mn P cfg g Z H'->Q2 .normal E' H'->K Z E' H')->cJ P cfg f l [] E H K)(J:cfg.plan f id=.text:=by first|rfl|exact hplan _|(rw[hS.plan];rfl))(m:kS ops=true:=by kernel_rfl)(Y:Qe N ops ops=some l:=by simp only[Qe,Qm,Qn,Nat.blt,Nat.ble];rfl)(V:jr ops=g:=by kernel_rfl):Wp P cfg f N (.draw id ops) E H Q2:=EQ J m Y V h
theorem QD(id:Nat)(h:∀K:ai->Hp->Prop,(∀E' H',Q2 .normal E' H'->K E' H')->ak P cfg f l E H K)(J:cfg.plan f id=.text:=by first|rfl|exact hplan _|(rw[hS.plan];rfl))(m:rU ops=true:=by kernel_rfl)(Z:Qe N ops ops=some l:=by simp only[Qe,Qm,Qn,Nat.blt,Nat.ble];rfl):Wp P cfg f N (.draw id ops) E H Q2:=Wp.draw J m Z h
end
end Go.Proofs.YtljebeflbbgibaaGreat
namespace Go.Ab
set_option maxRecDepth 20000
open Go
def lk(n:Int):Bool:=(decide (97<=n)&&decide (n<=122))||(decide (65<=n)&&decide (n<=90))||decide (n=95)
def kA(n:Int):Bool:=decide (48<=n)&&decide (n<=57)
def ll(b:UInt8):Bool:=lk b.toNat||kA b.toNat
def jO:List UInt8->Nat
 |[]=>0
 |b::s=>if ll b then jO s+1 else 0
def lm(s:List UInt8):Bool:=decide (1<=jO s)&&decide (jO s=s.length)&&decide (s.length<=16)&&(match s with|b::_=>!kA b.toNat|[]=>true)
def mz(s:List UInt8):Bool:=decide (s=[97,114,114,97,121])||decide (s=[102,117,110,99])||decide (s=[118,97,114])||decide (s=[114,101,116,117,114,110])||decide (s=[105,102])||decide (s=[101,108,115,101])||decide (s=[119,104,105,108,101])||decide (s=[111,117,116])||decide (s=[116,114,97,112])
def mA(s:List UInt8):Bool:=lm s && !mz s
end Go.Ab
