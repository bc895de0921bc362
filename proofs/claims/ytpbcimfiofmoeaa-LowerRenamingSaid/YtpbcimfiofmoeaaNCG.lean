/- Parts: Rules, AbPure, Spec4, TreeP, Lex. -/
import Derived.Test.YtpbcimfiofmoeaaNCF
set_option linter.unusedSimpArgs false
set_option linter.unusedVariables false
set_option linter.unusedSectionVars false
set_option linter.defProp false
set_option maxHeartbeats 32000000
namespace Go.Ab
set_option maxRecDepth 20000
open Go
theorem ym{P:Prop}(h:P:=by first|(dsimp only[kM,pN];first|done|exact rfl)|(dsimp only[];first|done|exact rfl)|exact rfl):P:=h
theorem tD{P:Prop}(h:P:=by first|(dsimp only[za1];first|done|exact rfl)|exact rfl):P:=h
theorem dC{P:Prop}(h:P:=by ((first|simp only[za4,Nat.reduceBEq,ne_eq,not_false_eq_true, *,-hK]|simp only[za4,Nat.reduceBEq,ne_eq,not_false_eq_true, *]|skip);first|done|with_reducible rfl)):P:=h
theorem iH{P:Prop}(h:P:=by ((first|simp only[za4,zbg,tyF,Nat.reduceBEq,Nat.reduceAdd,Nat.reduceLeDiff,ne_eq,not_false_eq_true, *,-hK]|simp only[za4,zbg,tyF,Nat.reduceBEq,Nat.reduceAdd,Nat.reduceLeDiff,ne_eq,not_false_eq_true, *]|skip);first|done|with_reducible rfl)):P:=h
theorem tE{P:Prop}(h:P:=by ((try simp only[zbb,zbl,zb4,Nat.add_assoc,Nat.reduceAdd,Nat.zero_add]);with_reducible rfl)):P:=h
theorem Gk{P:Prop}(h:P:=by ((first|simp only[za4,Nat.reduceBEq,zde,ne_eq,not_false_eq_true, *,-hK]|simp only[za4,Nat.reduceBEq,zde,ne_eq,not_false_eq_true, *]|skip);first|done|with_reducible rfl)):P:=h
theorem Gl{P:Prop}(h:P:=by ((first|simp only[za4,Nat.reduceBEq,zcY,List.cons_append,List.nil_append,ne_eq,not_false_eq_true, *,-hK]|simp only[za4,Nat.reduceBEq,zcY,List.cons_append,List.nil_append,ne_eq,not_false_eq_true, *]|skip);first|done|with_reducible rfl)):P:=h
theorem Gm{P:Prop}(h:P:=by ((first|simp only[za4,Nat.reduceBEq,zdb,ne_eq,not_false_eq_true, *,-hK]|simp only[za4,Nat.reduceBEq,zdb,ne_eq,not_false_eq_true, *]|skip);first|done|with_reducible rfl)):P:=h
theorem dy{P:Prop}(h:P:=by ((first|simp only[za4,Nat.reduceBEq,ne_eq,not_false_eq_true,decide_true,decide_false,Int.reduceEq,Int.reduceLE,Int.reduceToNat,Nat.mul_one, *,-hK]|simp only[za4,Nat.reduceBEq,ne_eq,not_false_eq_true,decide_true,decide_false,Int.reduceEq,Int.reduceLE,Int.reduceToNat,Nat.mul_one, *]|skip);first|done|with_reducible rfl)):P:=h
theorem iI{P:Prop}(h:P:=by ((first|simp only[za4,zbg,tyF,Nat.reduceBEq,Nat.reduceAdd,Nat.reduceLeDiff,ne_eq,not_false_eq_true,decide_true,decide_false,Int.reduceEq,Int.reduceLE,Int.reduceToNat,Nat.mul_one, *,-hK]|simp only[za4,zbg,tyF,Nat.reduceBEq,Nat.reduceAdd,Nat.reduceLeDiff,ne_eq,not_false_eq_true,decide_true,decide_false,Int.reduceEq,Int.reduceLE,Int.reduceToNat,Nat.mul_one, *]|skip);first|done|with_reducible rfl)):P:=h
theorem Gn{P:Prop}(h:P:=by ((first|simp only[za4,Nat.reduceBEq,zde,ne_eq,not_false_eq_true,decide_true,decide_false,Int.reduceEq,Int.reduceLE,Int.reduceToNat,Nat.mul_one, *,-hK]|simp only[za4,Nat.reduceBEq,zde,ne_eq,not_false_eq_true,decide_true,decide_false,Int.reduceEq,Int.reduceLE,Int.reduceToNat,Nat.mul_one, *]|skip);first|done|with_reducible rfl)):P:=h
theorem Gp{P:Prop}(h:P:=by ((first|simp only[za4,Nat.reduceBEq,zcY,List.cons_append,List.nil_append,ne_eq,not_false_eq_true,decide_true,decide_false,Int.reduceEq,Int.reduceLE,Int.reduceToNat,Nat.mul_one, *,-hK]|simp only[za4,Nat.reduceBEq,zcY,List.cons_append,List.nil_append,ne_eq,not_false_eq_true,decide_true,decide_false,Int.reduceEq,Int.reduceLE,Int.reduceToNat,Nat.mul_one, *]|skip);first|done|with_reducible rfl)):P:=h
theorem Gq{P:Prop}(h:P:=by ((first|simp only[za4,Nat.reduceBEq,zdb,ne_eq,not_false_eq_true,decide_true,decide_false,Int.reduceEq,Int.reduceLE,Int.reduceToNat,Nat.mul_one, *,-hK]|simp only[za4,Nat.reduceBEq,zdb,ne_eq,not_false_eq_true,decide_true,decide_false,Int.reduceEq,Int.reduceLE,Int.reduceToNat,Nat.mul_one, *]|skip);first|done|with_reducible rfl)):P:=h
theorem B8{P:Prop}(h:P:=by first|(simp only[za4,Nat.reduceBEq, *];done)|rfl):P:=h
theorem B9{P:Prop}(h:P:=by first|rfl|exact hplan _|(rw[hS.plan];rfl)):P:=h
def nX:=@List.cons_append
def pR:=@List.getElem?_cons_succ
def pS:=@List.getElem?_cons_zero
def yn:=@List.drop_succ_cons
def kR:=@decide_eq_false_iff_not
def Ca:=@List.getElem?_nil
def Cb:=@Classical.choose_spec
def hP:=@List.drop_eq_getElem_cons
def cJ:=@Nat.lt_succ_self
def kS:=@Bool.or_false
def sn:=@List.flatMap_cons
def yo:=And.intro @nX.{0} @oD.{0}
def fJ:=And.intro yo @aR.{0}
end Go.Ab
namespace Go.Proofs.Ytpbcimfiofmoeaa
set_option maxRecDepth 20000
open Go Go.Ab
def zdl:=ad mc lw
def zdG:=ad @oG @kR
section
variable {P:Program} {cfg:Cfg} {f:FuncId} {l:List SOp} {E:au} {H H':Hp} {Q:au -> Hp -> Prop} {d:Nat} {v a b:AV} {x y:Operand} {t u:TypeId}
def bU(P:Program)(cfg:Cfg)(f:FuncId)(op:Op)(E:au)(H:Hp)(v:AV)(H':Hp):Prop:=∃n,zcd P cfg (zb2 P cfg n) f E H op=.val v H'
theorem bU.of{op:Op}(h:∀Q:au->Hp->Prop,ay P cfg f [] (T.set E 0 (some v)) H' Q->ay P cfg f [⟨some 0,op,none⟩] E H Q):bU P cfg f op E H v H':=by
 have i:=h (fun Y m=>Y.at 0=v/\m=H') (vk ⟨by rw[iF];rfl,rfl⟩);unfold ay at i;simp only[]at i;unfold gH at i;obtain⟨n,w,m,g,Z⟩:=i;unfold ay at Z;obtain⟨L,rfl⟩:=Z;have:(za1 E (some 0) w).at 0=w:=EZ;rw[this]at L;exact⟨n,by rw[g,L]⟩
def cL:=@bU.of
theorem yp{op:Op}(h:∀Q:au->Hp->Prop,ay P cfg f [] E H' Q->ay P cfg f [⟨none,op,none⟩] E H Q):∃v,bU P cfg f op E H v H':=by
 have i:=h (fun Y m=>m=H') (vk rfl);unfold ay at i;simp only[]at i;unfold gH at i;obtain⟨n,w,m,g,Z⟩:=i;unfold ay at Z;subst Z;exact⟨w,n,g⟩
theorem bU.go{op:Op}(j:ay P cfg f l (T.set E d (some v)) H' Q)(h:bU P cfg f op E H v H'):ay P cfg f (⟨some d,op,none⟩::l) E H Q:=by
 obtain⟨n,h⟩:=h;unfold ay;show gH _ _ _ _ _ _ _;unfold gH;exact⟨n,v,H',h,j⟩
theorem Gs{op:Op}(j:ay P cfg f l E H' Q)(h:∃v,bU P cfg f op E H v H'):ay P cfg f (⟨none,op,none⟩::l) E H Q:=by
 obtain⟨v,n,h⟩:=h;unfold ay;show gH _ _ _ _ _ _ _;unfold gH;exact⟨n,v,H',h,j⟩
attribute [irreducible] bU
theorem Rx.nl{m K:au->Hp->Prop}{R:Prop}(h:R)(hK:∀E H,m E H->K E H:=by assumption)(e:m E H=R:=by exact ym):ay P cfg f [] E H K:=vk (hK _ _ (e▸h))
def ai:=@Rx.nl
theorem zbK{R:Prop}(h:R)(e:Q E H=R:=by first|(dsimp only[];first|done|exact rfl)|exact rfl):ay P cfg f [] E H Q:=vk (e▸h)
theorem zcr{m:List (Nat×Nat)}{O:List Rc}{Z:au->Hp->Prop}{K:List Rc->au->Hp->Prop}{R:Prop}(h1:pP P cfg m O H)(h:R)(hK:∀O E' H',pP P cfg m O H'->Z E' H'->K O E' H':=by assumption)(e:Z E H=R:=by exact ym):dG P cfg f [] O E H K:=dG.nil (hK _ _ _ h1 (e▸h))
theorem zbV{g:FuncId}{ar:List AV}{r:AV}{K:AV->Hp->Prop}{R:Prop}(c:za9 P cfg g ar H fun v H'=>v=r/\H'=H)(h:R)(e:K r H=R:=by exact tD):za9 P cfg g ar H K:=aI (by rintro _ _ ⟨rfl,rfl⟩;exact e▸h) c
theorem Ox.mv(h:zaZ E x=some v:=by exact dC):bU P cfg f (.move x) E H v H:=cL fun Q j=>ay.move h j
theorem Ox.as(h:zaZ E x=some v:=by exact dC):bU P cfg f (.assign x) E H v H:=cL fun Q j=>ay.assign h j
theorem Ox.pk{z:Operand}{t:Bool}(h:zaZ E x=some (.bool t):=by exact dC)(h1:zaZ E y=some a:=by exact dC)(h2:zaZ E z=some b:=by exact dC):bU P cfg f (.pick x y z) E H (jn t a b) H:=cL fun Q j=>ay.pick h h1 h2 j
theorem Ox.ld(h:zaZ E x=some a:=by exact dC)(h1:ip P H t a=some v:=by exact iH):bU P cfg f (.load t x) E H v H:=cL fun Q j=>ay.load h h1 j
theorem Ox.st(h:zaZ E x=some a:=by exact dC)(h1:zaZ E y=some b:=by exact dC)(h2:lV P H t a b=some H':=by exact iH):∃v,bU P cfg f (.store t x y) E H v H':=yp fun Q j=>BJ h h1 h2 j
theorem Ox.nc{r o:Nat}(h:zaZ E x=some (.ptr r o):=by exact dC):bU P cfg f (.nilCheck x) E H (.ptr r o) H:=cL fun Q j=>ay.nilCheck h j
theorem Ox.bn{op:BinOp}(h:zaZ E x=some a:=by exact dC)(h1:zaZ E y=some b:=by exact dC)(h2:zcq P cfg.dec op t a b=some v:=by exact iH):bU P cfg f (.binOp op t x y u) E H v H:=cL fun Q j=>ay.bin h h1 h2 j
theorem Ox.un{op:UnOp}(h:zaZ E x=some a:=by exact dC)(h2:qy op a=some v:=by exact iH):bU P cfg f (.unOp op t x) E H v H:=cL fun Q j=>ay.un h h2 j
theorem Ox.cv(h:zaZ E x=some a:=by exact dC)(h2:zdg P H t u a=some v:=by exact iH):bU P cfg f (.convert t u x) E H v H:=cL fun Q j=>ay.convert h h2 j
theorem Ox.fa{i:Nat}(h:zaZ E x=some a:=by exact dC)(h2:za6 P t a i=some v:=by exact iH):bU P cfg f (.fieldAddr t x i) E H v H:=cL fun Q j=>Fo h h2 j
theorem Ox.fi{i:Nat}(h:zaZ E x=some a:=by exact dC)(h2:zbG P t a i=some v:=by exact iH):bU P cfg f (.field t x i) E H v H:=cL fun Q j=>ay.field h h2 j
theorem Ox.ia(h:zaZ E x=some a:=by exact dC)(h1:zaZ E y=some b:=by exact dC)(h2:zb1 P t a b=some v:=by exact iH):bU P cfg f (.indexAddr t x y) E H v H:=cL fun Q j=>Fp h h1 h2 j
theorem Ox.ix(h:zaZ E x=some a:=by exact dC)(h1:zaZ E y=some b:=by exact dC)(h2:nH P t a b=some v:=by exact iH):bU P cfg f (.index t x y) E H v H:=cL fun Q j=>ay.index h h1 h2 j
theorem Ox.ex{i:Nat}(h:zaZ E x=some a:=by exact dC)(h2:Ab.extract a i=some v:=by exact iH):bU P cfg f (.extract x i) E H v H:=cL fun Q j=>ay.extract h h2 j
theorem Ox.al{z:List AV}{n:Nat}(h:zbU P t=some z:=by exact iH)(U:some H.next=some n:=by exact tE):bU P cfg f (.alloc t) E H (.ptr n 0) (H.alloc (.cells z 0 true)):=cL fun Q j=>ay.alloc h U j
theorem Ox.bx{cs:List AV}{n:Nat}(h:zaZ E x=some a:=by exact dC)(V:some a.cells=some cs:=by exact iH)(U:some H.next=some n:=by exact tE):bU P cfg f (.box t x) E H (.ptr n 0) (H.alloc (.cells cs 0 true)):=cL fun Q j=>ay.box h V U j
theorem Ox.bd{J:Array (Nat×Operand)}{ps:List (Nat×AV)}(h:zde E J.toList=some ps:=by exact Gk)(h2:zb5 P t ps=some v:=by exact iH):bU P cfg f (.build t J) E H v H:=cL fun Q j=>ay.build h h2 j
theorem Ox.bs{n:Nat}{J:Array (Nat×Operand)}{ps:List (Nat×AV)}(h:zde E J.toList=some ps:=by exact Gk)(h2:zcv P H t n ps=some (v,H'):=by exact iH):bU P cfg f (.buildSlice t n J) E H v H':=cL fun Q j=>Fq h h2 j
theorem Ox.mm{n:Nat}(U:some H.next=some n:=by exact tE):bU P cfg f (.makeMap t none) E H (.map n) (H.alloc (.map [])):=cL fun Q j=>ay.makeMap U j
theorem Ox.ms(h:zaZ E x=some a:=by exact dC)(h1:zaZ E y=some b:=by exact dC)(h2:zdC P H t a b=some (v,H'):=by exact iH):bU P cfg f (.makeSlice t x y) E H v H':=cL fun Q j=>Ft h h1 h2 j
theorem Ox.lu{ok:Bool}(h:zaZ E x=some a:=by exact dC)(h1:zaZ E y=some b:=by exact dC)(h2:jd P H t a b ok=some v:=by exact iH):bU P cfg f (.lookup t x y ok) E H v H:=cL fun Q j=>ay.lookup h h1 h2 j
theorem Ox.mu{z:Operand}{c:AV}(h:zaZ E x=some a:=by exact dC)(h1:zaZ E y=some b:=by exact dC)(h2:zaZ E z=some c:=by exact dC)(m:zdu P H t a b c=some H':=by exact iH):∃v,bU P cfg f (.mapUpdate t x y z) E H v H':=yp fun Q j=>Fs h h1 h2 m j
theorem Ox.mf{g:FuncId}{cap:Array Operand}{vs:List AV}(h:zcY E cap.toList=some vs:=by exact Gl):bU P cfg f (.makeFunc (.func g) #[] cap) E H (.clo g vs) H:=cL fun Q j=>ay.makeFunc h j
theorem Ox.sl{lo z:Option Operand}{V M:Option AV}(h:zaZ E x=some a:=by exact dC)(h1:zdb E lo=some V:=by exact Gm)(h2:zdb E z=some M:=by exact Gm)(m:mJ P H t a V M=some v:=by exact iH):bU P cfg f (.slice t x lo z none) E H v H:=cL fun Q j=>ay.slice h h1 h2 m j
theorem Ox.ln{c:AV}(h:zaZ E x=some a:=by exact dC)(h1:zbO P H t a=some c:=by exact iH):bU P cfg f (.call ⟨.builtin .len,#[x],#[t]⟩) E H c H:=cL fun Q j=>ay.len h h1 j
theorem Ox.ap(h:zaZ E x=some a:=by exact dC)(h1:zaZ E y=some b:=by exact dC)(h2:zcg P (cfg.keep f) H t u a b=some (v,H'):=by exact iH):bU P cfg f (.call ⟨.builtin .append,#[x,y],#[t,u]⟩) E H v H':=cL fun Q j=>qL h h1 h2 j
theorem Ox.mi{M:Array TypeId}{k z:IntKind}{Y C:Int}(h:zaZ E x=some (.int k Y):=by exact dC)(h1:zaZ E y=some (.int z C):=by exact dC):bU P cfg f (.call ⟨.builtin .min,#[x,y],M⟩) E H (.int k (min Y C)) H:=cL fun Q j=>ay.min2 h h1 j
theorem Ox.ma{M:Array TypeId}{k z:IntKind}{Y C:Int}(h:zaZ E x=some (.int k Y):=by exact dC)(h1:zaZ E y=some (.int z C):=by exact dC):bU P cfg f (.call ⟨.builtin .max,#[x,y],M⟩) E H (.int k (max Y C)) H:=cL fun Q j=>ay.max2 h h1 j
theorem Rx.o{op:Op}(j:ay P cfg f l (T.set E d (some v)) H' Q)(h:bU P cfg f op E H v H':=by first|apply(Ox.mv)|apply(Ox.as)|apply(Ox.pk)|apply(Ox.ld)|apply(Ox.nc)|apply(Ox.bn)|apply(Ox.un)|apply(Ox.cv)|apply(Ox.fa)|apply(Ox.fi)|apply(Ox.ia)|apply(Ox.ix)|apply(Ox.ex)|apply(Ox.al)|apply(Ox.bx)|apply(Ox.bd)|apply(Ox.bs)|apply(Ox.mm)|apply(Ox.ms)|apply(Ox.lu)|apply(Ox.mf)|apply(Ox.sl)|apply(Ox.ln)|apply(Ox.ap)|apply(Ox.mi)|apply(Ox.ma)):ay P cfg f (⟨some d,op,none⟩::l) E H Q:=bU.go j h
theorem Rx.on{op:Op}(j:ay P cfg f l E H' Q)(h:∃v,bU P cfg f op E H v H':=by first|apply(Ox.st)|apply(Ox.mu)):ay P cfg f (⟨none,op,none⟩::l) E H Q:=Gs j h
def bN:=@Rx.on
theorem Rx.call{o:Option Nat}{c:Call}{g:Operand}{k:FuncId}{cap vs ar:List AV}(j:za9 P cfg k ar H fun v H'=>ay P cfg f l (za1 E o v) H' Q)(V:c.callee=.value g:=by rfl)(C:zaZ E g=some (.clo k cap):=by exact dC)(M:zcY E c.args.toList=some vs:=by exact Gl)(Z:vs++cap=ar:=by simp only[fJ];first|done|exact rfl):ay P cfg f (⟨o,.call c,none⟩::l) E H Q:=aK V C M (Z▸j)
def mn:=@Rx.call
theorem Rx.gu{o:Option Nat}{op:Op}{s:Nat}{t:Bool}{v:AV}{R:Prop}(j:R)(h:some (E.at s)=some v:=by exact dC)(M:v=zcb:=by with_reducible rfl)(e:ay P cfg f l (za1 E o zcb) H Q=R:=by exact tD):ay P cfg f (⟨o,op,some (s,t)⟩::l) E H Q:=Fl h M (e▸j)
theorem Rx.gd{o:Option Nat}{op:Op}{s:Nat}{g t:Bool}{i I Z j R:Prop}(h1:i->Z->ay P cfg f (⟨o,op,none⟩::l) E H Q)(h2:I->j->R)(h:E.at s=.bool t:=by exact dC)(Y:(t=g)=i:=by(try simp only[zdl,reduceCtorEq]);first|done|exact rfl)(C:(t=!g)=I:=by(try simp only[zdl,reduceCtorEq]);first|done|exact rfl)(J:i=Z:=by(try simp only[zdG]);first|done|exact rfl)(V:I=j:=by(try simp only[zdG]);first|done|exact rfl)(e:ay P cfg f l (za1 E o zcb) H Q=R:=by exact tD):ay P cfg f (⟨o,op,some (s,g)⟩::l) E H Q:=ay.guard h (fun k=>h1 (Y▸k) (J▸Y▸k)) (fun k=>e▸h2 (C▸k) (V▸C▸k))
def da:=@Rx.gd
theorem Rx.cd{N:Nat}{o z:SC}{Q:AX->au->Hp->Prop}{t:Bool}{i I Z j:Prop}(h1:i->Z->zbu P cfg f N o E H Q)(h2:I->j->zbu P cfg f N z E H Q)(V:zaZ E x=some (.bool t):=by exact dC)(Y:(t=true)=i:=by(try simp only[zdl,reduceCtorEq]);first|done|exact rfl)(C:(t=false)=I:=by(try simp only[zdl,reduceCtorEq]);first|done|exact rfl)(J:i=Z:=by(try simp only[zdG]);first|done|exact rfl)(U:I=j:=by(try simp only[zdG]);first|done|exact rfl):zbu P cfg f N (.cond x o z) E H Q:=zbu.cond V (fun k=>h1 (Y▸k) (J▸Y▸k)) (fun k=>h2 (C▸k) (U▸C▸k))
def bu:=@Rx.cd
theorem Oy.mv(h:zaZ E x=some v:=by exact dy):bU P cfg f (.move x) E H v H:=cL fun Q j=>ay.move h j
theorem Oy.as(h:zaZ E x=some v:=by exact dy):bU P cfg f (.assign x) E H v H:=cL fun Q j=>ay.assign h j
theorem Oy.pk{z:Operand}{t:Bool}(h:zaZ E x=some (.bool t):=by exact dy)(h1:zaZ E y=some a:=by exact dy)(h2:zaZ E z=some b:=by exact dy):bU P cfg f (.pick x y z) E H (jn t a b) H:=cL fun Q j=>ay.pick h h1 h2 j
theorem Oy.ld(h:zaZ E x=some a:=by exact dy)(h1:ip P H t a=some v:=by exact iI):bU P cfg f (.load t x) E H v H:=cL fun Q j=>ay.load h h1 j
theorem Oy.st(h:zaZ E x=some a:=by exact dy)(h1:zaZ E y=some b:=by exact dy)(h2:lV P H t a b=some H':=by exact iI):∃v,bU P cfg f (.store t x y) E H v H':=yp fun Q j=>BJ h h1 h2 j
theorem Oy.nc{r o:Nat}(h:zaZ E x=some (.ptr r o):=by exact dy):bU P cfg f (.nilCheck x) E H (.ptr r o) H:=cL fun Q j=>ay.nilCheck h j
theorem Oy.bn{op:BinOp}(h:zaZ E x=some a:=by exact dy)(h1:zaZ E y=some b:=by exact dy)(h2:zcq P cfg.dec op t a b=some v:=by exact iI):bU P cfg f (.binOp op t x y u) E H v H:=cL fun Q j=>ay.bin h h1 h2 j
theorem Oy.un{op:UnOp}(h:zaZ E x=some a:=by exact dy)(h2:qy op a=some v:=by exact iI):bU P cfg f (.unOp op t x) E H v H:=cL fun Q j=>ay.un h h2 j
theorem Oy.cv(h:zaZ E x=some a:=by exact dy)(h2:zdg P H t u a=some v:=by exact iI):bU P cfg f (.convert t u x) E H v H:=cL fun Q j=>ay.convert h h2 j
theorem Oy.fa{i:Nat}(h:zaZ E x=some a:=by exact dy)(h2:za6 P t a i=some v:=by exact iI):bU P cfg f (.fieldAddr t x i) E H v H:=cL fun Q j=>Fo h h2 j
theorem Oy.fi{i:Nat}(h:zaZ E x=some a:=by exact dy)(h2:zbG P t a i=some v:=by exact iI):bU P cfg f (.field t x i) E H v H:=cL fun Q j=>ay.field h h2 j
theorem Oy.ia(h:zaZ E x=some a:=by exact dy)(h1:zaZ E y=some b:=by exact dy)(h2:zb1 P t a b=some v:=by exact iI):bU P cfg f (.indexAddr t x y) E H v H:=cL fun Q j=>Fp h h1 h2 j
theorem Oy.ix(h:zaZ E x=some a:=by exact dy)(h1:zaZ E y=some b:=by exact dy)(h2:nH P t a b=some v:=by exact iI):bU P cfg f (.index t x y) E H v H:=cL fun Q j=>ay.index h h1 h2 j
theorem Oy.ex{i:Nat}(h:zaZ E x=some a:=by exact dy)(h2:Ab.extract a i=some v:=by exact iI):bU P cfg f (.extract x i) E H v H:=cL fun Q j=>ay.extract h h2 j
theorem Oy.al{z:List AV}{n:Nat}(h:zbU P t=some z:=by exact iI)(U:some H.next=some n:=by exact tE):bU P cfg f (.alloc t) E H (.ptr n 0) (H.alloc (.cells z 0 true)):=cL fun Q j=>ay.alloc h U j
theorem Oy.bx{cs:List AV}{n:Nat}(h:zaZ E x=some a:=by exact dy)(V:some a.cells=some cs:=by exact iI)(U:some H.next=some n:=by exact tE):bU P cfg f (.box t x) E H (.ptr n 0) (H.alloc (.cells cs 0 true)):=cL fun Q j=>ay.box h V U j
theorem Oy.bd{J:Array (Nat×Operand)}{ps:List (Nat×AV)}(h:zde E J.toList=some ps:=by exact Gn)(h2:zb5 P t ps=some v:=by exact iI):bU P cfg f (.build t J) E H v H:=cL fun Q j=>ay.build h h2 j
theorem Oy.bs{n:Nat}{J:Array (Nat×Operand)}{ps:List (Nat×AV)}(h:zde E J.toList=some ps:=by exact Gn)(h2:zcv P H t n ps=some (v,H'):=by exact iI):bU P cfg f (.buildSlice t n J) E H v H':=cL fun Q j=>Fq h h2 j
theorem Oy.mm{n:Nat}(U:some H.next=some n:=by exact tE):bU P cfg f (.makeMap t none) E H (.map n) (H.alloc (.map [])):=cL fun Q j=>ay.makeMap U j
theorem Oy.ms(h:zaZ E x=some a:=by exact dy)(h1:zaZ E y=some b:=by exact dy)(h2:zdC P H t a b=some (v,H'):=by exact iI):bU P cfg f (.makeSlice t x y) E H v H':=cL fun Q j=>Ft h h1 h2 j
theorem Oy.lu{ok:Bool}(h:zaZ E x=some a:=by exact dy)(h1:zaZ E y=some b:=by exact dy)(h2:jd P H t a b ok=some v:=by exact iI):bU P cfg f (.lookup t x y ok) E H v H:=cL fun Q j=>ay.lookup h h1 h2 j
theorem Oy.mu{z:Operand}{c:AV}(h:zaZ E x=some a:=by exact dy)(h1:zaZ E y=some b:=by exact dy)(h2:zaZ E z=some c:=by exact dy)(m:zdu P H t a b c=some H':=by exact iI):∃v,bU P cfg f (.mapUpdate t x y z) E H v H':=yp fun Q j=>Fs h h1 h2 m j
theorem Oy.mf{g:FuncId}{cap:Array Operand}{vs:List AV}(h:zcY E cap.toList=some vs:=by exact Gp):bU P cfg f (.makeFunc (.func g) #[] cap) E H (.clo g vs) H:=cL fun Q j=>ay.makeFunc h j
theorem Oy.sl{lo z:Option Operand}{V M:Option AV}(h:zaZ E x=some a:=by exact dy)(h1:zdb E lo=some V:=by exact Gq)(h2:zdb E z=some M:=by exact Gq)(m:mJ P H t a V M=some v:=by exact iI):bU P cfg f (.slice t x lo z none) E H v H:=cL fun Q j=>ay.slice h h1 h2 m j
theorem Oy.ln{c:AV}(h:zaZ E x=some a:=by exact dy)(h1:zbO P H t a=some c:=by exact iI):bU P cfg f (.call ⟨.builtin .len,#[x],#[t]⟩) E H c H:=cL fun Q j=>ay.len h h1 j
theorem Oy.ap(h:zaZ E x=some a:=by exact dy)(h1:zaZ E y=some b:=by exact dy)(h2:zcg P (cfg.keep f) H t u a b=some (v,H'):=by exact iI):bU P cfg f (.call ⟨.builtin .append,#[x,y],#[t,u]⟩) E H v H':=cL fun Q j=>qL h h1 h2 j
theorem Oy.mi{M:Array TypeId}{k z:IntKind}{Y C:Int}(h:zaZ E x=some (.int k Y):=by exact dy)(h1:zaZ E y=some (.int z C):=by exact dy):bU P cfg f (.call ⟨.builtin .min,#[x,y],M⟩) E H (.int k (min Y C)) H:=cL fun Q j=>ay.min2 h h1 j
theorem Oy.ma{M:Array TypeId}{k z:IntKind}{Y C:Int}(h:zaZ E x=some (.int k Y):=by exact dy)(h1:zaZ E y=some (.int z C):=by exact dy):bU P cfg f (.call ⟨.builtin .max,#[x,y],M⟩) E H (.int k (max Y C)) H:=cL fun Q j=>ay.max2 h h1 j
theorem Ry.o{op:Op}(j:ay P cfg f l (T.set E d (some v)) H' Q)(h:bU P cfg f op E H v H':=by first|apply(Oy.mv)|apply(Oy.as)|apply(Oy.pk)|apply(Oy.ld)|apply(Oy.nc)|apply(Oy.bn)|apply(Oy.un)|apply(Oy.cv)|apply(Oy.fa)|apply(Oy.fi)|apply(Oy.ia)|apply(Oy.ix)|apply(Oy.ex)|apply(Oy.al)|apply(Oy.bx)|apply(Oy.bd)|apply(Oy.bs)|apply(Oy.mm)|apply(Oy.ms)|apply(Oy.lu)|apply(Oy.mf)|apply(Oy.sl)|apply(Oy.ln)|apply(Oy.ap)|apply(Oy.mi)|apply(Oy.ma)):ay P cfg f (⟨some d,op,none⟩::l) E H Q:=bU.go j h
theorem Ry.on{op:Op}(j:ay P cfg f l E H' Q)(h:∃v,bU P cfg f op E H v H':=by first|apply(Oy.st)|apply(Oy.mu)):ay P cfg f (⟨none,op,none⟩::l) E H Q:=Gs j h
def dD:=@Ry.on
theorem Ry.call{o:Option Nat}{c:Call}{g:Operand}{k:FuncId}{cap vs ar:List AV}(j:za9 P cfg k ar H fun v H'=>ay P cfg f l (za1 E o v) H' Q)(V:c.callee=.value g:=by rfl)(C:zaZ E g=some (.clo k cap):=by exact dy)(M:zcY E c.args.toList=some vs:=by exact Gp)(Z:vs++cap=ar:=by simp only[fJ];first|done|exact rfl):ay P cfg f (⟨o,.call c,none⟩::l) E H Q:=aK V C M (Z▸j)
def jb:=@Ry.call
theorem Ry.gu{o:Option Nat}{op:Op}{s:Nat}{t:Bool}{v:AV}{R:Prop}(j:R)(h:some (E.at s)=some v:=by exact dy)(M:v=zcb:=by with_reducible rfl)(e:ay P cfg f l (za1 E o zcb) H Q=R:=by exact tD):ay P cfg f (⟨o,op,some (s,t)⟩::l) E H Q:=Fl h M (e▸j)
theorem Ry.gd{o:Option Nat}{op:Op}{s:Nat}{g t:Bool}{i I Z j R:Prop}(h1:i->Z->ay P cfg f (⟨o,op,none⟩::l) E H Q)(h2:I->j->R)(h:E.at s=.bool t:=by exact dy)(Y:(t=g)=i:=by(try simp only[zdl,reduceCtorEq]);first|done|exact rfl)(C:(t=!g)=I:=by(try simp only[zdl,reduceCtorEq]);first|done|exact rfl)(J:i=Z:=by(try simp only[zdG]);first|done|exact rfl)(V:I=j:=by(try simp only[zdG]);first|done|exact rfl)(e:ay P cfg f l (za1 E o zcb) H Q=R:=by exact tD):ay P cfg f (⟨o,op,some (s,g)⟩::l) E H Q:=ay.guard h (fun k=>h1 (Y▸k) (J▸Y▸k)) (fun k=>e▸h2 (C▸k) (V▸C▸k))
def kT:=@Ry.gd
theorem Ry.gt{o:Option Nat}{op:Op}{s:Nat}{g t:Bool}{O:List Rc}{Q:List Rc->au->Hp->Prop}{i I Z j R:Prop}(h1:i->Z->dG P cfg f (⟨o,op,none⟩::l) O E H Q)(h2:I->j->R)(h:E.at s=.bool t:=by exact dy)(Y:(t=g)=i:=by(try simp only[zdl,reduceCtorEq]);first|done|exact rfl)(C:(t=!g)=I:=by(try simp only[zdl,reduceCtorEq]);first|done|exact rfl)(J:i=Z:=by(try simp only[zdG]);first|done|exact rfl)(V:I=j:=by(try simp only[zdG]);first|done|exact rfl)(e:dG P cfg f l (O++[⟨op,false,E,H,zcb,H⟩]) (za1 E o zcb) H Q=R:=by exact tD):dG P cfg f (⟨o,op,some (s,g)⟩::l) O E H Q:=dG.guard h (fun k=>h1 (Y▸k) (J▸Y▸k)) (fun k=>e▸h2 (C▸k) (V▸C▸k))
theorem Ry.cd{N:Nat}{o z:SC}{Q:AX->au->Hp->Prop}{t:Bool}{i I Z j:Prop}(h1:i->Z->zbu P cfg f N o E H Q)(h2:I->j->zbu P cfg f N z E H Q)(V:zaZ E x=some (.bool t):=by exact dy)(Y:(t=true)=i:=by(try simp only[zdl,reduceCtorEq]);first|done|exact rfl)(C:(t=false)=I:=by(try simp only[zdl,reduceCtorEq]);first|done|exact rfl)(J:i=Z:=by(try simp only[zdG]);first|done|exact rfl)(U:I=j:=by(try simp only[zdG]);first|done|exact rfl):zbu P cfg f N (.cond x o z) E H Q:=zbu.cond V (fun k=>h1 (Y▸k) (J▸Y▸k)) (fun k=>h2 (C▸k) (U▸C▸k))
def bi:=@Ry.cd
theorem eE{p:Prop}(h:p:=by exact B8):p:=h
theorem zdQ{p:Prop}(h:p:=by first|(simp only[za4,zbg,tyF,Nat.reduceBEq,Nat.reduceAdd,Nat.reduceLeDiff, *];done)|rfl):p:=h
theorem eV{p:Prop}(h:p:=by((try simp only[za4,Nat.reduceBEq, *]);first|done|with_reducible rfl)):p:=h
theorem zdO{p:Prop}(h:p:=by((try simp only[za4,zbg,tyF,Nat.reduceBEq,Nat.reduceAdd,Nat.reduceLeDiff, *]);first|done|with_reducible rfl)):p:=h
theorem za7{p:Prop}(h:p:=by((try simp only[za4,Nat.reduceBEq,zb9,zch, *]);first|done|with_reducible rfl)):p:=h
theorem Cd{p:Prop}(h:p:=by((try simp only[za4,zbg,tyF,Nat.reduceBEq,Nat.reduceAdd,Nat.reduceLeDiff,zb9,zch, *]);first|done|with_reducible rfl)):p:=h
theorem aL{p:Prop}(h:p:=by((try simp only[za4,Nat.reduceBEq, *,-hK]);first|done|with_reducible rfl)):p:=h
theorem aM{p:Prop}(h:p:=by((try simp only[za4,Nat.reduceBEq,zcY,yo, *,-hK]);first|done|with_reducible rfl)):p:=h
theorem za2{p:Prop}(h:p:=by first|exact .inl rfl|exact .inr rfl|exact .inl trivial|exact .inr trivial):p:=h
theorem zbw{p:Prop}(h:p:=by simp only[zbR,zbq,br,za4,zbg,tyF,Nat.reduceBEq,Nat.reduceAdd,Nat.reduceLeDiff, *]):p:=h
theorem eN{p:Prop}(h:p:=by(try simp only[zbb,zbl,zb4,b4,Nat.reduceAdd]);omega):p:=h
theorem za8{N:Nat}{Q:AX->au->Hp->Prop}{R:Prop}(h:R)(e:Q .normal E H=R:=by exact ym):zbu P cfg f N .skip E H Q:=zbu.skip (e▸h)
theorem Rx.rt{N:Nat}{Q:AX->au->Hp->Prop}{R:Prop}(h:R)(e:Q .ret E H=R:=by exact ym):zbu P cfg f N .ret E H Q:=zbu.ret (e▸h)
def aN:=@Rx.rt
theorem zbW{N id:Nat}{Q:AX->au->Hp->Prop}{R:Prop}(h:R)(e:Q (.exit id) E H=R:=by first|(simp only[kM,pN,reduceIte];first|done|exact rfl)|(dsimp only[];first|done|exact rfl)|exact rfl):zbu P cfg f N (.exit id) E H Q:=zbu.exit (e▸h)
theorem zck{p:Prop}(h:p:=by(refine⟨?_,?_⟩<;>simp only[oD,nX,mU,pR,pS,Ca,List.forall_mem_cons,zbb,zbl,aA,kK,br]<;>(repeat' apply ad)<;>first
 |(intro r hr;cases hr;done)
 |(refine OA (by simp only[oD,nX,mU,pR,pS,Ca];rfl) (fun hd=>?_)
   simp only[vo,oD,nX,mU,pR,pS,Ca]at hd⊢;first
   |(cases hd;done)
   |exact Oq eV zdO
   |exact Ot eV eV zdO
   |exact Ou eV zdO
   |exact Ov eV zdO
   |exact Ow eV (by simp only[zdb];first|rfl|simp only[za4,Nat.reduceBEq, *]) (by simp only[zdb];first|rfl|simp only[za4,Nat.reduceBEq, *]) zdO
   |exact Oz rfl zdO zdO)
 |exact aA _
 |assumption
 |omega)):p:=h
variable {N:Nat} {ops:List Oper} {Q2:AX -> au -> Hp -> Prop}
theorem zcy(id:Nat)(m:List (Nat×Nat))(h:∀K:List Rc->au->Hp->Prop,(∀O E' H',pP P cfg m O H'->Q2 .normal E' H'->K O E' H')->dG P cfg f l [] E H K)(C:cfg.plan f id=.text:=by exact B9)(I:oB ops=true:=by kernel_rfl)(J:zbt N ops ops=some l:=by simp only[zbt,zbA,zbB,Nat.blt,Nat.ble];rfl)(U:mO ops=m:=by kernel_rfl):zbu P cfg f N (.draw id ops) E H Q2:=On C I J U h
theorem Ce(id:Nat)(Z:List Nat)(m:List (Nat×Nat))(h:∀K:List Rc->au->Hp->Prop,(∀O E' H',pP P cfg m O H'->Q2 .normal E' H'->K O E' H')->dG P cfg f l [] E H K)(C:cfg.plan f id=.perm Z:=by exact B9)(o:uB Z ops=true:=by kernel_rfl)(I:oB (gh Z ops)=true:=by kernel_rfl)(J:zbt N (gh Z ops) (gh Z ops)=some l:=by simp only[gh,qD,List.filterMap_cons,List.filterMap_nil,pR,pS,zbt,zbA,zbB,Nat.blt,Nat.ble];rfl)(U:mO (gh Z ops)=m:=by kernel_rfl):zbu P cfg f N (.draw id ops) E H Q2:=Oo C o I J U h
theorem sq(id:Nat)(h:∀K:au->Hp->Prop,(∀E' H',Q2 .normal E' H'->K E' H')->ay P cfg f l E H K)(C:cfg.plan f id=.text:=by exact B9)(I:x7 ops=true:=by kernel_rfl)(J:zbt N ops ops=some l:=by simp only[zbt,zbA,zbB,Nat.blt,Nat.ble];rfl):zbu P cfg f N (.draw id ops) E H Q2:=zbu.draw C I J h
end
end Go.Proofs.Ytpbcimfiofmoeaa
namespace Go.Ab
set_option maxRecDepth 20000
open Go
def eL(v:AV):Prop:=∃k,∀m,k<=m->∀H,iceV H m v=some v
def fB(l:List AV):Prop:=∀v∈l,eL v
theorem fB.nil:fB []:=fun _ h=>j6
theorem fB.cons{v:AV}{l:List AV}(h:eL v)(K:fB l):fB (v::l):=fun w O=>by
 rcases fz.1 O with rfl|O
 .exact h
 .exact K _ O
theorem fB.bound:∀{l:List AV},fB l->∃k,∀m,k<=m->∀H,iceL (iceV H m) l=some l
 |[],_=>⟨0,fun _ _ _=>rfl⟩
 |v::l,h=>by
  obtain⟨k1,i⟩:=h v eQ;obtain⟨Z,g⟩:=fB.bound (l:=l) fun w O=>h w (fH _ O)
  exact⟨max k1 Z,fun m V H=>by simp only[iceL,i m ac H,g m ac H]⟩
theorem Gt:∀{l:List (List AV)},(∀K∈l,fB K)->∃k,∀m,k<=m->∀H,qE (iceV H m) l=some l
 |[],_=>⟨0,fun _ _ _=>rfl⟩
 |v::l,h=>by
  obtain⟨k1,i⟩:=(h v eQ).bound;obtain⟨Z,g⟩:=Gt (l:=l) fun w O=>h w (fH _ O)
  exact⟨max k1 Z,fun m V H=>by simp only[qE,i m ac H,g m ac H]⟩
theorem eL.one{v:AV}(h:∀m H,iceV H (m+1) v=some v):eL v:=⟨1,fun m V H=>by
 obtain⟨m,rfl⟩:∃k,m=k+1:=⟨m-1,ac⟩;exact h m H⟩
theorem eL.int(k:IntKind)(n:Int):eL (.int k n):=.one fun _ _=>rfl
theorem eL.bool(b:Bool):eL (.bool b):=.one fun _ _=>rfl
theorem eL.str(s:List UInt8):eL (.str s):=.one fun _ _=>rfl
theorem eL.nilS:eL .nilS:=.one fun _ _=>rfl
theorem eL.lst{l:List (List AV)}(h:∀K∈l,fB K):eL (.lst l):=by
 obtain⟨k,j⟩:=Gt h;refine⟨k+1,fun m V H=>?_⟩;obtain⟨m,rfl⟩:∃k,m=k+1:=⟨m-1,ac⟩;simp only[iceV,j m ac H]
theorem eL.agg{l:List AV}(h:fB l):eL (.agg l):=by
 obtain⟨k,j⟩:=h.bound;refine⟨k+1,fun m V H=>?_⟩;obtain⟨m,rfl⟩:∃k,m=k+1:=⟨m-1,ac⟩;simp only[iceV,j m ac H]
theorem eL.tup{l:List AV}(h:fB l):eL (.tup l):=by
 obtain⟨k,j⟩:=h.bound;refine⟨k+1,fun m V H=>?_⟩;obtain⟨m,rfl⟩:∃k,m=k+1:=⟨m-1,ac⟩;simp only[iceV,j m ac H]
theorem eL.map{z:Type}{l:List z}{f:z->List AV}(h:∀x∈l,fB (f x)):eL (.lst (l.map f)):=.lst fun K hr=>by
 obtain⟨x,I,rfl⟩:=kJ.1 hr;exact h x I
theorem Gu{Y:List AV}(h:fB Y):∃k,pA k Y=true:=by
 obtain⟨k,j⟩:=h.bound;exact⟨k,by unfold pA;rw[j k (aA _) zbk];exact zdL Y⟩
theorem U6{P:Program}{cfg:Cfg}(fit:Fit P){ρ:Nat->Int}(i:l4 cfg.dec ρ)(V:∀f Y r,cfg.call f Y=some r->cn P ρ f Y r){g:FuncId}{Y:List AV}{r:AV}
 (I:fB Y) (hr:eL r) (h:za9 P cfg g Y zbk fun v _=>v=r):cn P ρ g Y r:=by
 obtain⟨k,j⟩:=Gu I;obtain⟨m,Z⟩:=hr;exact Fm (m:=m) fit i V j (aI (fun v H' e=>by rw[e];exact Z m (aA _) H') h)
theorem Cf{P:Program}{cfg:Cfg}(fit:Fit P){ρ:Nat->Int}(i:l4 cfg.dec ρ)(V:∀f Y r,cfg.call f Y=some r->cn P ρ f Y r){g:FuncId}{Y:List AV}{r:AV}{m:Nat}
 (I:fB Y) (h:za9 P cfg g Y zbk fun v H'=>iceV H' m v=some r):cn P ρ g Y r:=by
 obtain⟨k,j⟩:=Gu I;exact Fm (m:=m) fit i V j h
structure En where
 f:FuncId
 ice:Bool
 sp:List AV->Option AV
def zcu:List En->FuncId->List AV->Option AV
 |[],_,_=>none
 |e::l,f,args=>match Nat.beq e.f f with
  |true=>e.sp args
  |false=>zcu l f args
def lB:List En->FuncId->Bool
 |[],_=>false
 |e::l,f=>match Nat.beq e.f f with
  |true=>e.ice
  |false=>lB l f
noncomputable def za3(pls:List (Nat×Nat×Plan))(l:List En):Cfg:={keep:=fun _=>false,call:=zcu l,ice:=lB l,plan:=xM pls}
def fk(P:Program)(ρ:Nat->Int)(e:En):Prop:=∀Y r,e.sp Y=some r->cn P ρ e.f Y r
def jc(P:Program)(ρ:Nat->Int):List En->Prop
 |[]=>True
 |e::l=>fk P ρ e/\jc P ρ l
theorem jc.look{P:Program}{ρ:Nat->Int}:∀{l:List En},jc P ρ l->∀f Y r,zcu l f Y=some r->cn P ρ f Y r
 |[],_,_,_,_,h=>by simp[zcu]at h
 |e::l,hl,f,Y,r,h=>by
  simp only[zcu]at h;split at h
  .rename_i hf;rw[<-hM hf];exact hl.1 Y r h
  .exact jc.look hl.2 f Y r h
noncomputable def dA{z:Type}(ok:z->Prop)(enc:z->List AV)(out:z->AV)(Y:List AV):Option AV:=open Classical in
 if h:∃x,ok x/\enc x=Y then some (out (Classical.choose h))else none
theorem Gv{z:Type}{ok:z->Prop}{enc:z->List AV}{out:z->AV}(I:∀x y,enc x=enc y->x=y){x:z}(Z:ok x):dA ok enc out (enc x)=some (out x):=by
 unfold dA;have h:∃y,ok y/\enc y=enc x:=⟨x,Z,rfl⟩;rw[dif_pos h];rw[I _ _ (Cb h).2]
theorem Gw{z:Type}{ok:z->Prop}{enc:z->List AV}{out:z->AV}{Y:List AV}(h:∀x,ok x->enc x≠Y):dA ok enc out Y=none:=by
 unfold dA;rw[dif_neg];rintro⟨x,I,e⟩;exact h x I e
theorem zcQ{P:Program}{ρ:Nat->Int}{z:Type}{ok:z->Prop}{f:FuncId}{ice:Bool}{enc:z->List AV}{out:z->AV}(h:∀x,ok x->cn P ρ f (enc x) (out x)):fk P ρ ⟨f,ice,dA ok enc out⟩:=fun Y r hr=>by
 change dA ok enc out Y=some r at hr;unfold dA at hr;split at hr
 .rename_i I;simp only[az]at hr;subst hr;have:=h (Classical.choose I) (Cb I).1;rw[(Cb I).2]at this;exact this
 .simp at hr
attribute [irreducible] dA
theorem Gx{P:Program}{cfg:Cfg}{g:FuncId}{Y:List AV}{r:AV}{H:Hp}(h:cfg.call g Y=some r):za9 P cfg g Y H fun v H'=>v=r/\H'=H:=Nm h ⟨rfl,rfl⟩
theorem zcz{P:Program}{pls:List (Nat×Nat×Plan)}{l:List En}{z:Type}{ok:z->Prop}{enc:z->List AV}{out:z->AV}(I:∀x y,enc x=enc y->x=y){g:FuncId}{x:z}(K:zcu l g (enc x)=dA ok enc out (enc x))(Z:ok x){H:Hp}:
 za9 P (za3 pls l) g (enc x) H fun v H'=>v=out x/\H'=H:=Gx (by show zcu l g (enc x)=_;rw[K];exact Gv I Z)
theorem U7{P:Program}{pls:List (Nat×Nat×Plan)}{l:List En}{z:Type}{ok:z->Prop}{enc:z->List AV}{out:z->AV}(I:∀x y,enc x=enc y->x=y){g:FuncId}{x:z}(K:∀i,zcu l g i=dA ok enc out i)(Z:lB l g=true)(V:ok x){Y:List AV}{H H':Hp}
 (U:∀y,ok y->enc y≠Y) (O:kG (iY 100) Y H=some (enc x,H')) :
 za9 P (za3 pls l) g Y H fun v m=>v=out x/\m=H':=Nn (by show zcu l g Y=none;rw[K];exact Gw U) Z rfl O (by show zcu l g (enc x)=_;rw[K];exact Gv I V) ⟨rfl,rfl⟩
theorem zda{P:Program}{ρ:Nat->Int}(fit:Fit P){pls:List (Nat×Nat×Plan)}{l:List En}(K:jc P ρ l){f:FuncId}{Y:List AV}{r:AV}(I:fB Y)(hr:eL r)(h:za9 P (za3 pls l) f Y zbk fun v _=>v=r):cn P ρ f Y r:=
 U6 fit (pL ρ) (fun g i r C=>jc.look K g i r C) I hr h
abbrev b9(n:Int):Int:=IntKind.wrap .i64 n
section
variable (q:Ex -> Int -> Bool)
mutual
def kU:Ex->Int->Bool
 | .mk k n s o L,d=>q (.mk k n s o L) d&&zc0 L (b9 (d+1))
def zc0:List Ex->Int->Bool
 |[],_=>true
 |e::es,d=>kU e d&&zc0 es d
end
theorem Cg(e:Ex)(d:Int):kU q e d=(q e d&&zc0 q e.kids (b9 (d+1))):=by
 cases e;simp only[kU,Ex.kids]
theorem yq{l:List Ex}{i:Nat}(h:i<l.length)(d:Int):zc0 q (l.drop i) d=(kU q l[i] d&&zc0 q (l.drop (i+1)) d):=by
 rw[hP h,zc0]
end
section
variable {σ:Type} (q:St -> Int -> σ -> Bool × σ)
mutual
def jx:St->Int->σ->Bool×σ
 | .mk k M U n a v Y Z V,d,s=>match q (.mk k M U n a v Y Z V) d s with
   |(false,s)=>(false,s)
   |(true,s)=>match zcn Z (b9 (d+1)) s with
    |(false,s)=>(false,s)
    |(true,s)=>zcn V (b9 (d+1)) s
def zcn:List St->Int->σ->Bool×σ
 |[],_,s=>(true,s)
 |x::l,d,s=>match jx x d s with
  |(false,s)=>(false,s)
  |(true,s)=>zcn l d s
end
theorem U8(x:St)(d:Int)(s:σ):jx q x d s=match q x d s with
 |(false,s)=>(false,s)
 |(true,s)=>match zcn q x.thn (b9 (d+1)) s with
  |(false,s)=>(false,s)
  |(true,s)=>zcn q x.els (b9 (d+1)) s:=by
 cases x;simp only[jx,St.thn,St.els]
theorem U9{l:List St}{i:Nat}(h:i<l.length)(d:Int)(s:σ):zcn q (l.drop i) d s=match jx q l[i] d s with
 |(false,s)=>(false,s)
 |(true,s)=>zcn q (l.drop (i+1)) d s:=by
 rw[hP h,zcn]
end
mutual
def Ex.sz:Ex->Nat
 | .mk _ _ s _ L=>1+s.length+zcf L
def zcf:List Ex->Nat
 |[]=>0
 |e::es=>1+e.sz+zcf es
end
mutual
def St.sz:St->Nat
 | .mk _ M Z _ a v Y V U=>1+M.length+Z.length+a.sz+v.sz+zcf Y+zbC V+zbC U
def zbC:List St->Nat
 |[]=>0
 |x::l=>1+x.sz+zbC l
end
def zco:List (List UInt8)->Nat
 |[]=>0
 |s::l=>1+s.length+zco l
def Fu.sz(f:Fu):Nat:=1+f.name.length+zco f.params+zco f.locals+zbC f.body+f.value.sz
def fV:List Fu->Nat
 |[]=>0
 |f::l=>1+f.sz+fV l
def zcU:List Ar->Nat
 |[]=>0
 |a::l=>1+a.name.length+zcU l
def Pr.sz(p:Pr):Nat:=1+zcU p.arrays+fV p.funcs
theorem zdH:∀l:List Ex,l.length<=zcf l
 |[]=>aA _
 |e::es=>by have:=zdH es;simp only[cS,zcf];omega
theorem vE:∀l:List St,l.length<=zbC l
 |[]=>aA _
 |e::es=>by have:=vE es;simp only[cS,zbC];omega
theorem zdI:∀l:List (List UInt8),l.length<=zco l
 |[]=>aA _
 |e::es=>by have:=zdI es;simp only[cS,zco];omega
theorem qO:∀l:List Fu,l.length<=fV l
 |[]=>aA _
 |e::es=>by have:=qO es;simp only[cS,fV];omega
theorem qP:∀l:List Ar,l.length<=zcU l
 |[]=>aA _
 |e::es=>by have:=qP es;simp only[cS,zcU];omega
theorem zdJ:∀{l:List Ex}{x:Ex},x∈l->x.sz<zcf l
 |[],_,h=>by simp at h
 |e::es,x,h=>by
  rcases fz.1 h with rfl|h
  .simp only[zcf];omega
  .have:=zdJ h;simp only[zcf];omega
theorem zdM:∀{l:List St}{x:St},x∈l->x.sz<zbC l
 |[],_,h=>by simp at h
 |e::es,x,h=>by
  rcases fz.1 h with rfl|h
  .simp only[zbC];omega
  .have:=zdM h;simp only[zbC];omega
theorem yr:∀{l:List (List UInt8)}{x:List UInt8},x∈l->x.length<zco l
 |[],_,h=>by simp at h
 |e::es,x,h=>by
  rcases fz.1 h with rfl|h
  .simp only[zco];omega
  .have:=yr h;simp only[zco];omega
theorem qQ:∀{l:List Fu}{x:Fu},x∈l->x.sz<fV l
 |[],_,h=>by simp at h
 |e::es,x,h=>by
  rcases fz.1 h with rfl|h
  .simp only[fV];omega
  .have:=qQ h;simp only[fV];omega
theorem Ex.sz_eq(e:Ex):e.sz=1+e.name.length+zcf e.kids:=by cases e;simp only[Ex.sz,Ex.name,Ex.kids]
theorem St.sz_eq(x:St):x.sz=1+x.name.length+x.to.length+x.at_.sz+x.value.sz+zcf x.args+zbC x.thn+zbC x.els:=by cases x;simp only[St.sz,St.name,St.to,St.at_,St.value,St.args,St.thn,St.els]
structure FrB (base:Nat) (H H':Hp):Prop where
 next:H.next<=H'.next
 get:∀r,base<=r->r<H.next->H'.get r=H.get r
theorem FrB.refl(base:Nat)(H:Hp):FrB base H H:=⟨aA _,fun _ _ _=>rfl⟩
def gW:=@FrB.refl
theorem FrB.trans{base:Nat}{a b c:Hp}(h:FrB base a b)(k:FrB base b c):FrB base a c:=⟨cm h.next k.next,fun r i g=>(k.get r i (l0 g h.next)).trans (h.get r i g)⟩
theorem FrB.alloc{base:Nat}{a b:Hp}(h:FrB base a b)(x:HB):FrB base a (b.alloc x):=⟨cm h.next (dV _),fun r i g=>by
 have:=h.next
 rw[zaY,af ac];exact h.get r i g⟩
theorem FrB.set{base r:Nat}{a b:Hp}(h:FrB base a b)(hr:a.next<=r\/r<base)(x:HB):FrB base a (b.set r x):=⟨h.next,fun k i g=>by
 rw[aC,af ac];exact h.get k i g⟩
def gw(base:Nat)(H H':Hp):Prop:=∀r,r<base->H'.get r=H.get r
theorem gw.refl(base:Nat)(H:Hp):gw base H H:=fun _ _=>rfl
def nY:=@gw.refl
theorem gw.trans{base:Nat}{a b c:Hp}(h:gw base a b)(k:gw base b c):gw base a c:=fun r hr=>(k r hr).trans (h r hr)
theorem gw.alloc{base:Nat}{a b:Hp}(h:gw base a b)(o:base<=b.next)(x:HB):gw base a (b.alloc x):=fun r hr=>by rw[zaY,af ac];exact h r hr
theorem gw.set{base r:Nat}{a b:Hp}(h:gw base a b)(hr:base<=r)(x:HB):gw base a (b.set r x):=fun k j=>by rw[aC,af ac];exact h k j
theorem FrB.weak{base L:Nat}(h:base<=L){a b:Hp}(k:FrB base a b):FrB L a b:=⟨k.next,fun r i g=>k.get r (cm h i) g⟩
theorem gw.weak{base L:Nat}(h:base<=L){a b:Hp}(k:gw L a b):gw base a b:=fun r hr=>k r (l0 hr h)
def mo(x:St)(d:Int)(s:Int×Int):Bool×(Int×Int):=
 let n:=b9 (s.1+1)
 let l:=if x.kind=4 then b9 (s.2+1)else s.2
 (decide (d<=20)&&decide (n<=200)&&decide (l<=16),(n,l))
def pU(_:Ex)(d:Int):Bool:=decide (d<=20)
def nf(q:Ex->Int->Bool)(x:St)(_:Int)(s:Unit):Bool×Unit:=(kU q x.at_ 0&&kU q x.value 0&&zc0 q x.args 0,s)
def ng(q:Ex->Int->Bool)(f:Fu):Bool:=kU q f.value 0&&(zcn (nf q) f.body 0 ()).1
def iK(f:Fu):Bool:=decide ((f.params.length:Int)<=6)&&decide ((f.locals.length:Int)<=8)&&(zcn mo f.body 0 (0,0)).1&&ng pU f
def jL(p:Pr):Bool:=!decide (4<(p.arrays.length:Int)) && !decide (8<(p.funcs.length:Int))&&p.arrays.all (fun a=>!decide (a.len<1) && !decide (16<a.len))&&p.funcs.all iK
theorem Ex.pure(x:Ex):fB x.cells:=by
 have K:∀n (x:Ex),x.sz<n->fB x.cells:=by
  intro n;induction n with
  |zero=>intro x h;omega
  |succ n ih=>
   intro x h;rw[mh];refine .cons (.int _ _) (.cons (.int _ _) (.cons (.str _) (.cons (.int _ _) (.cons (.map fun y o=>ih y ?_) .nil))));have:=zdJ o;have:=x.sz_eq;omega
 exact K _ x (cJ _)
theorem vF(l:List Ex):eL (.lst (l.map Ex.cells)):=.map fun x _=>x.pure
theorem St.pure(x:St):fB x.cells:=by
 have K:∀n (x:St),x.sz<n->fB x.cells:=by
  intro n;induction n with
  |zero=>intro x h;omega
  |succ n ih=>
   intro x h;rw[qM];have:=x.sz_eq;refine .cons (.int _ _) (.cons (.str _) (.cons (.str _) (.cons (.int _ _) (.cons (.int _ _) (.cons (.int _ _) (.cons (.str _) (.cons (.int _ _) (.cons (vF _) (.cons (.int _ _) (.cons (.int _ _) (.cons (.str _) (.cons (.int _ _) (.cons (vF _) (.cons (vF _) (.cons (.map fun y o=>ih y ?_) (.cons (.map fun y o=>ih y ?_) .nil))))))))))))))))
   .have:=zdM o;omega
   .have:=zdM o;omega
 exact K _ x (cJ _)
theorem Ch(l:List St):eL (.lst (l.map St.cells)):=.map fun x _=>x.pure
theorem vG(l:List (List UInt8)):eL (zbP l):=.map fun x _=>.cons (.str _) .nil
theorem Fu.pure(x:Fu):fB x.cells:=by
 rw[vr];exact .cons (.str _) (.cons (vG _) (.cons (vG _) (.cons (Ch _) (.cons (.int _ _) (.cons (.int _ _) (.cons (.str _) (.cons (.int _ _) (.cons (vF _) .nil))))))))
theorem Ar.pure(x:Ar):fB x.cells:=.cons (.str _) (.cons (.int _ _) .nil)
theorem Pr.pure(x:Pr):fB x.cells:=.cons (.map fun x _=>x.pure) (.cons (.map fun x _=>x.pure) .nil)
theorem nh{Z β:Type}{f:Z->β}:∀{a b:List Z},(∀x∈a,∀y,f x=f y->x=y)->a.map f=b.map f->a=b
 |[],[],_,_=>rfl
 |[],_::_,_,h=>by simp at h
 |_::_,[],_,h=>by simp at h
 |x::a,y::b,hf,h=>by
  simp only[dN,ez]at h;rw[hf x eQ y h.1,nh (fun z j=>hf z (fH _ j)) h.2]
theorem Ex.ext'{x y:Ex}(J:x.kind=y.kind)(h1:x.n=y.n)(h2:x.name=y.name)(m:x.op=y.op)(L:x.kids=y.kids):x=y:=by
 cases x;cases y;simp only[Ex.kind,Ex.n,Ex.name,Ex.op,Ex.kids]at *;simp[*]
theorem Ex.inj{x y:Ex}(h:x.cells=y.cells):x=y:=by
 have K:∀n (x:Ex),x.sz<n->∀y,x.cells=y.cells->x=y:=by
  intro n;induction n with
  |zero=>intro x h;omega
  |succ n ih=>
   intro x h y e;rw[mh,mh]at e;simp only[ez,AV.int.injEq,AV.str.injEq,AV.lst.injEq,kK,br]at e;obtain⟨g,i,C,J,Z⟩:=e;refine Ex.ext' g i C J (nh (fun z j=>ih z ?_) Z);have:=zdJ j;have:=x.sz_eq;omega
 exact K _ x (cJ _) y h
theorem yu{a b:List Ex}(h:a.map Ex.cells=b.map Ex.cells):a=b:=nh (fun _ _ _=>Ex.inj) h
theorem St.ext'{x y:St}(J:x.kind=y.kind)(h1:x.name=y.name)(h2:x.to=y.to)(m:x.n=y.n)(L:x.at_=y.at_)(o:x.value=y.value)(U:x.args=y.args)(I:x.thn=y.thn)(Z:x.els=y.els):x=y:=by
 cases x;cases y;simp only[St.kind,St.name,St.to,St.n,St.at_,St.value,St.args,St.thn,St.els]at *;simp[*]
theorem St.inj{x y:St}(h:x.cells=y.cells):x=y:=by
 have K:∀n (x:St),x.sz<n->∀y,x.cells=y.cells->x=y:=by
  intro n;induction n with
  |zero=>intro x h;omega
  |succ n ih=>
   intro x h y e;have hs:=x.sz_eq;rw[qM,qM]at e;simp only[ez,AV.int.injEq,AV.str.injEq,AV.lst.injEq,kK,br]at e;obtain⟨g,i,C,J,zbp,Z,Y,V,o,U,O,M,L,I,m,e7,e8⟩:=e;refine St.ext' g i C J (Ex.ext' zbp Z Y V (yu o)) (Ex.ext' U O M L (yu I)) (yu m) (nh (fun z j=>ih z ?_) e7) (nh (fun z j=>ih z ?_) e8)
   .have:=zdM j;omega
   .have:=zdM j;omega
 exact K _ x (cJ _) y h
theorem Gy{a b:List St}(h:a.map St.cells=b.map St.cells):a=b:=nh (fun _ _ _=>St.inj) h
theorem yw{a b:List (List UInt8)}(h:(a.map fun s=>[AV.str s])=b.map fun s=>[AV.str s]):a=b:=nh (fun x _ y e=>by simpa using e) h
theorem Fu.inj{x y:Fu}(h:x.cells=y.cells):x=y:=by
 obtain⟨n,p,l,b,v⟩:=x;obtain⟨z,O,j,M,L⟩:=y;rw[vr,vr]at h;simp only[ez,AV.int.injEq,AV.str.injEq,AV.lst.injEq,kK,br]at h;obtain⟨g,i,C,J,Z,K,V,Y,U⟩:=h;rw[g,yw i,yw C,Gy J,Ex.ext' Z K V Y (yu U)]
theorem Ar.inj{x y:Ar}(h:x.cells=y.cells):x=y:=by
 obtain⟨n,p⟩:=x;obtain⟨z,C⟩:=y;simp only[Ar.cells,ez,AV.int.injEq,AV.str.injEq,kK,br]at h;rw[h.1,h.2]
theorem Pr.inj{x y:Pr}(h:x.cells=y.cells):x=y:=by
 obtain⟨n,p⟩:=x;obtain⟨z,C⟩:=y;simp only[Pr.cells,ez,AV.lst.injEq,br]at h;rw[nh (fun _ _ _=>Ar.inj) h.1,nh (fun _ _ _=>Fu.inj) h.2]
theorem Va(l:List Int):eL (x9 l):=.map fun x _=>.cons (.int _ _) .nil
theorem Nd.pure(x:Nd):fB x.cells:=.cons (.int _ _) (.cons (.int _ _) (.cons (Va _) .nil))
theorem Vb{a b:List Int}(h:(a.map fun n=>[AV.int .i64 n])=b.map fun n=>[AV.int .i64 n]):a=b:=nh (fun x _ y e=>by simpa using e) h
theorem Nd.inj{x y:Nd}(h:x.cells=y.cells):x=y:=by
 obtain⟨n,p,k⟩:=x;obtain⟨z,C,k'⟩:=y;simp only[Nd.cells,ez,AV.int.injEq,AV.lst.injEq,kK,br]at h;rw[h.1,h.2.1,Vb h.2.2]
def vH(n:Int):Bool:=(decide (97<=n)&&decide (n<=122))||(decide (65<=n)&&decide (n<=90))||decide (n=95)
def sr(n:Int):Bool:=decide (48<=n)&&decide (n<=57)
def nZ(b:UInt8):Bool:=vH b.toNat||sr b.toNat
def zcO:List UInt8->Nat
 |[]=>0
 |b::s=>if nZ b then zcO s+1 else 0
theorem Gz:∀s:List UInt8,zcO s<=s.length
 |[]=>aA _
 |b::s=>by have:=Gz s;simp only[zcO,cS];split<;>omega
def iL:List UInt8->Nat
 |[]=>0
 |b::s=>if b.toNat=10 then 0 else iL s+1
theorem GA:∀s:List UInt8,iL s<=s.length
 |[]=>aA _
 |b::s=>by have:=GA s;simp only[iL,cS];split<;>omega
def je(b:UInt8):Bool:=decide (b.toNat=32)||decide (b.toNat=9)||decide (b.toNat=10)||decide (b.toNat=13)
def zcA:Bool->List UInt8->Nat
 |_,[]=>0
 |true,b::s=>if b.toNat=10 then (if je b then zcA false s+1 else 0)else zcA true s+1
 |false,b::s=>if je b then zcA false s+1 else if b.toNat=35 then zcA true s+1 else 0
theorem GB:∀s:List UInt8,zcA true s=iL s+zcA false (s.drop (iL s))
 |[]=>rfl
 |b::s=>by
  simp only[zcA,iL];by_cases h:b.toNat=10
  .have o:je b=true:=by unfold je;simp[h]
   simp[h,o,zcA]
  .simp only[h,de,yn,GB s];omega
theorem tF:∀(c:Bool) (s:List UInt8),zcA c s<=s.length
 |c,[]=>by cases c<;>exact aA _
 |true,b::s=>by have i:=tF true s;have g:=tF false s;simp only[zcA,cS];split<;>(try split)<;>omega
 |false,b::s=>by have i:=tF true s;have g:=tF false s;simp only[zcA,cS];split<;>(try split)<;>omega
def GC(s:List UInt8)(k:Tk)(e:Int):Prop:=
 k.at_=0/\(e=0->∃n,1<=n/\n<=s.length/\k.text=s.take n/\(k.kind=1->n=zcO s/\n<=16/\∀b,s[0]?=some b->sr b.toNat=false)) /\
 (1<=zcO s->zcO s<=16->(∀b,s[0]?=some b->sr b.toNat=false)->e=0/\k=⟨1,s.take (zcO s),0⟩)
def qR(s:List UInt8):Prop:=1<=zcO s/\zcO s=s.length/\s.length<=16/\∀b,s[0]?=some b->sr b.toNat=false
def yx(s:List UInt8)(M:List Tk):Prop:=∀k z,M=k::z->∃k0,GC (s.drop (zcA false s)) k0 0/\k.kind=k0.kind/\k.text=k0.text
def tG(lo:Nat)(H:Hp)(V:AV)(M:List Tk):Prop:=(M=[]/\V=.nilS)\/∃r,V=.sl r 0 M.length 3/\H.get r=some (.cells (M.flatMap Tk.cells) 0 true)/\lo<r/\r<H.next/\M≠[]
theorem Vc{s:List UInt8}(h:qR s):zcA false s=0:=by
 obtain⟨i,g,m,L⟩:=h;cases s with
 |nil=>rfl
 |cons b s=>
  have hd:=L b rfl;simp only[zcO]at i;have O:nZ b=true:=by
   cases o:nZ b with
   |true=>rfl
   |false=>rw[o]at i;simp at i
  simp only[nZ,hd,kS]at O;have C:je b=false:=by
   unfold je;simp only[vH,pK,i9]at O;simp;omega
  have Z:¬b.toNat=35:=by
   simp only[vH,pK,i9]at O;omega
  simp only[zcA,C,cK,de,Z]
theorem GD:∀ts:List Tk,(ts.flatMap Tk.cells).length=ts.length*3
 |[]=>rfl
 |t::ts=>by rw[sn,fy,GD ts,Tk.clen,cS];omega
theorem FrB.kill{base r:Nat}{a b:Hp}(h:FrB base a b)(hr:a.next<=r):FrB base a (b.kill r):=⟨h.next,fun k i g=>by
 rw[zcW,af ac];exact h.get k i g⟩
def oR(s:List UInt8):Bool:=decide (1<=zcO s)&&decide (zcO s=s.length)&&decide (s.length<=16)&&(match s with|b::_=>!sr b.toNat|[]=>true)
theorem yy(s:List UInt8):oR s=true↔qR s:=by
 unfold oR qR;cases s with
 |nil=>simp[zcO]
 |cons b s=>simp[and_assoc]
def GE(s:List UInt8):Bool:=decide (s=[97,114,114,97,121])||decide (s=[102,117,110,99])||decide (s=[118,97,114])||decide (s=[114,101,116,117,114,110])||decide (s=[105,102])||decide (s=[101,108,115,101])||decide (s=[119,104,105,108,101])||decide (s=[111,117,116])||decide (s=[116,114,97,112])
def zb6(s:List UInt8):Bool:=oR s && !GE s
theorem Vd{s:List UInt8}{k:Tk}{z:List Tk}(h:yx s (k::z))(j:k.kind=1)(M:k.text=s):qR s:=by
 obtain⟨k0,i,g,m⟩:=h k z rfl;obtain⟨n,zbT,J,Z,K⟩:=i.2.1 rfl;obtain⟨Y,O,V⟩:=K (by rw[<-g];exact j);rw[<-m,M]at Z;have U:=ju List.length Z;rw[jr,js]at U;rw[js]at J;have I:zcA false s=0:=ac;rw[I,fT]at Y V;have hn:n=s.length:=ac;exact⟨ac,ac,ac,V⟩
end Go.Ab
