/- Parts: Rules, Lex. -/
import Derived.Test.YtljebeflbbgibaaGreatZCF
set_option linter.unusedSimpArgs false
set_option linter.unusedVariables false
set_option linter.unusedSectionVars false
set_option linter.defProp false
set_option maxHeartbeats 32000000
namespace Go.Ab
set_option maxRecDepth 20000
open Go
theorem wN{P:Prop}(h:P:=by first|(dsimp only[kz,pP];first|done|exact rfl)|(dsimp only[];first|done|exact rfl)|exact rfl):P:=h
theorem rX{P:Prop}(h:P:=by first|(dsimp only[zcF];first|done|exact rfl)|exact rfl):P:=h
theorem di{P:Prop}(h:P:=by ((first|simp only[zcz,Nat.reduceBEq,ne_eq,not_false_eq_true, *,-hK]|simp only[zcz,Nat.reduceBEq,ne_eq,not_false_eq_true, *]|skip);first|done|with_reducible rfl)):P:=h
theorem gN{P:Prop}(h:P:=by ((first|simp only[zcz,zcL,tyF,Nat.reduceBEq,Nat.reduceAdd,Nat.reduceLeDiff,ne_eq,not_false_eq_true, *,-hK]|simp only[zcz,zcL,tyF,Nat.reduceBEq,Nat.reduceAdd,Nat.reduceLeDiff,ne_eq,not_false_eq_true, *]|skip);first|done|with_reducible rfl)):P:=h
theorem rY{P:Prop}(h:P:=by ((try simp only[zcB,zcS,zdg,Nat.add_assoc,Nat.reduceAdd,Nat.zero_add]);with_reducible rfl)):P:=h
theorem EY{P:Prop}(h:P:=by ((first|simp only[zcz,Nat.reduceBEq,zeQ,ne_eq,not_false_eq_true, *,-hK]|simp only[zcz,Nat.reduceBEq,zeQ,ne_eq,not_false_eq_true, *]|skip);first|done|with_reducible rfl)):P:=h
theorem EZ{P:Prop}(h:P:=by ((first|simp only[zcz,Nat.reduceBEq,zeq,List.cons_append,List.nil_append,ne_eq,not_false_eq_true, *,-hK]|simp only[zcz,Nat.reduceBEq,zeq,List.cons_append,List.nil_append,ne_eq,not_false_eq_true, *]|skip);first|done|with_reducible rfl)):P:=h
theorem E6{P:Prop}(h:P:=by ((first|simp only[zcz,Nat.reduceBEq,zeJ,ne_eq,not_false_eq_true, *,-hK]|simp only[zcz,Nat.reduceBEq,zeJ,ne_eq,not_false_eq_true, *]|skip);first|done|with_reducible rfl)):P:=h
theorem df{P:Prop}(h:P:=by ((first|simp only[zcz,Nat.reduceBEq,ne_eq,not_false_eq_true,decide_true,decide_false,Int.reduceEq,Int.reduceLE,Int.reduceToNat,Nat.mul_one, *,-hK]|simp only[zcz,Nat.reduceBEq,ne_eq,not_false_eq_true,decide_true,decide_false,Int.reduceEq,Int.reduceLE,Int.reduceToNat,Nat.mul_one, *]|skip);first|done|with_reducible rfl)):P:=h
theorem gO{P:Prop}(h:P:=by ((first|simp only[zcz,zcL,tyF,Nat.reduceBEq,Nat.reduceAdd,Nat.reduceLeDiff,ne_eq,not_false_eq_true,decide_true,decide_false,Int.reduceEq,Int.reduceLE,Int.reduceToNat,Nat.mul_one, *,-hK]|simp only[zcz,zcL,tyF,Nat.reduceBEq,Nat.reduceAdd,Nat.reduceLeDiff,ne_eq,not_false_eq_true,decide_true,decide_false,Int.reduceEq,Int.reduceLE,Int.reduceToNat,Nat.mul_one, *]|skip);first|done|with_reducible rfl)):P:=h
theorem E7{P:Prop}(h:P:=by ((first|simp only[zcz,Nat.reduceBEq,zeQ,ne_eq,not_false_eq_true,decide_true,decide_false,Int.reduceEq,Int.reduceLE,Int.reduceToNat,Nat.mul_one, *,-hK]|simp only[zcz,Nat.reduceBEq,zeQ,ne_eq,not_false_eq_true,decide_true,decide_false,Int.reduceEq,Int.reduceLE,Int.reduceToNat,Nat.mul_one, *]|skip);first|done|with_reducible rfl)):P:=h
theorem E8{P:Prop}(h:P:=by ((first|simp only[zcz,Nat.reduceBEq,zeq,List.cons_append,List.nil_append,ne_eq,not_false_eq_true,decide_true,decide_false,Int.reduceEq,Int.reduceLE,Int.reduceToNat,Nat.mul_one, *,-hK]|simp only[zcz,Nat.reduceBEq,zeq,List.cons_append,List.nil_append,ne_eq,not_false_eq_true,decide_true,decide_false,Int.reduceEq,Int.reduceLE,Int.reduceToNat,Nat.mul_one, *]|skip);first|done|with_reducible rfl)):P:=h
theorem E9{P:Prop}(h:P:=by ((first|simp only[zcz,Nat.reduceBEq,zeJ,ne_eq,not_false_eq_true,decide_true,decide_false,Int.reduceEq,Int.reduceLE,Int.reduceToNat,Nat.mul_one, *,-hK]|simp only[zcz,Nat.reduceBEq,zeJ,ne_eq,not_false_eq_true,decide_true,decide_false,Int.reduceEq,Int.reduceLE,Int.reduceToNat,Nat.mul_one, *]|skip);first|done|with_reducible rfl)):P:=h
theorem AB{P:Prop}(h:P:=by first|rfl|exact hplan _|(rw[hS.plan];rfl)):P:=h
def nT:=@List.cons_append
def uh:=@List.getElem?_cons_succ
def ui:=@List.drop_succ_cons
def jw:=@decide_eq_false_iff_not
def AC:=@List.getElem?_nil
def jx:=@Bool.or_false
def oI:=@List.flatMap_cons
def AD:=And.intro @nT.{0} @lK.{0}
def eM:=And.intro AD @br.{0}
end Go.Ab
namespace Go.Proofs.YtljebeflbbgibaaGreat
set_option maxRecDepth 20000
open Go Go.Ab
def zff:=ad k8 gL
def zfg:=ad @jq @jw
section
variable {P:Program} {cfg:Cfg} {f:FuncId} {l:List SOp} {E:ao} {H H':Hp} {Q:ao -> Hp -> Prop} {d:Nat} {v a b:AV} {x y:Operand} {t u:TypeId}
def bM(P:Program)(cfg:Cfg)(f:FuncId)(op:Op)(E:ao)(H:Hp)(v:AV)(H':Hp):Prop:=∃n,zdA P cfg (zdp P cfg n) f E H op=.val v H'
theorem bM.of{op:Op}(h:∀Q:ao->Hp->Prop,aC P cfg f [] (T.set E 0 (some v)) H' Q->aC P cfg f [⟨some 0,op,none⟩] E H Q):bM P cfg f op E H v H':=by
 have i:=h (fun M Z=>M.at 0=v/\Z=H') (aC.nil ⟨by rw[gH];rfl,rfl⟩);unfold aC at i;simp only[]at i;unfold fI at i;obtain⟨n,w,Z,g,o⟩:=i;unfold aC at o;obtain⟨U,rfl⟩:=o;have:(zcF E (some 0) w).at 0=w:=Dy;rw[this]at U;exact⟨n,by rw[g,U]⟩
def cz:=@bM.of
theorem wO{op:Op}(h:∀Q:ao->Hp->Prop,aC P cfg f [] E H' Q->aC P cfg f [⟨none,op,none⟩] E H Q):∃v,bM P cfg f op E H v H':=by
 have i:=h (fun M Z=>Z=H') (aC.nil rfl);unfold aC at i;simp only[]at i;unfold fI at i;obtain⟨n,w,Z,g,o⟩:=i;unfold aC at o;subst o;exact⟨w,n,g⟩
theorem bM.go{op:Op}(j:aC P cfg f l (T.set E d (some v)) H' Q)(h:bM P cfg f op E H v H'):aC P cfg f (⟨some d,op,none⟩::l) E H Q:=by
 obtain⟨n,h⟩:=h;unfold aC;show fI _ _ _ _ _ _ _;unfold fI;exact⟨n,v,H',h,j⟩
theorem Fa{op:Op}(j:aC P cfg f l E H' Q)(h:∃v,bM P cfg f op E H v H'):aC P cfg f (⟨none,op,none⟩::l) E H Q:=by
 obtain⟨v,n,h⟩:=h;unfold aC;show fI _ _ _ _ _ _ _;unfold fI;exact⟨n,v,H',h,j⟩
attribute [irreducible] bM
theorem zcl{o K:ao->Hp->Prop}{R:Prop}(h:R)(hK:∀E H,o E H->K E H:=by assumption)(e:o E H=R:=by exact wN):aC P cfg f [] E H K:=aC.nil (hK _ _ (e▸h))
theorem zcV{R:Prop}(h:R)(e:Q E H=R:=by first|(dsimp only[];first|done|exact rfl)|exact rfl):aC P cfg f [] E H Q:=aC.nil (e▸h)
theorem zc5{V:List (Nat×Nat)}{g:List Rc}{o:ao->Hp->Prop}{K:List Rc->ao->Hp->Prop}{R:Prop}(h1:nQ P cfg V g H)(h:R)(hK:∀g E' H',nQ P cfg V g H'->o E' H'->K g E' H':=by assumption)(e:o E H=R:=by exact wN):dk P cfg f [] g E H K:=dk.nil (hK _ _ _ h1 (e▸h))
theorem Rx.k{g:FuncId}{z:List AV}{r:AV}{K:AV->Hp->Prop}{R:Prop}(c:zcx P cfg g z H fun v H'=>v=r/\H'=H)(h:R)(e:K r H=R:=by exact rX):zcx P cfg g z H K:=a7 (by rintro _ _ ⟨rfl,rfl⟩;exact e▸h) c
theorem Ox.mv(h:zcp E x=some v:=by exact di):bM P cfg f (.move x) E H v H:=cz fun Q j=>aC.move h j
theorem Ox.as(h:zcp E x=some v:=by exact di):bM P cfg f (.assign x) E H v H:=cz fun Q j=>aC.assign h j
theorem Ox.pk{z:Operand}{t:Bool}(h:zcp E x=some (.bool t):=by exact di)(h1:zcp E y=some a:=by exact di)(h2:zcp E z=some b:=by exact di):bM P cfg f (.pick x y z) E H (hY t a b) H:=cz fun Q j=>aC.pick h h1 h2 j
theorem Ox.ld(h:zcp E x=some a:=by exact di)(h1:zdZ P H t a=some v:=by exact gN):bM P cfg f (.load t x) E H v H:=cz fun Q j=>aC.load h h1 j
theorem Ox.st(h:zcp E x=some a:=by exact di)(h1:zcp E y=some b:=by exact di)(h2:zet P H t a b=some H':=by exact gN):∃v,bM P cfg f (.store t x y) E H v H':=wO fun Q j=>mF h h1 h2 j
theorem Ox.nc{r o:Nat}(h:zcp E x=some (.ptr r o):=by exact di):bM P cfg f (.nilCheck x) E H (.ptr r o) H:=cz fun Q j=>aC.nilCheck h j
theorem Ox.bn{op:BinOp}(h:zcp E x=some a:=by exact di)(h1:zcp E y=some b:=by exact di)(h2:zdr P cfg.dec op t a b=some v:=by exact gN):bM P cfg f (.binOp op t x y u) E H v H:=cz fun Q j=>aC.bin h h1 h2 j
theorem Ox.un{op:UnOp}(h:zcp E x=some a:=by exact di)(h2:nA op a=some v:=by exact gN):bM P cfg f (.unOp op t x) E H v H:=cz fun Q j=>aC.un h h2 j
theorem Ox.cv(h:zcp E x=some a:=by exact di)(h2:zeI P H t u a=some v:=by exact gN):bM P cfg f (.convert t u x) E H v H:=cz fun Q j=>aC.convert h h2 j
theorem Ox.fa{i:Nat}(h:zcp E x=some a:=by exact di)(h2:zcs P t a i=some v:=by exact gN):bM P cfg f (.fieldAddr t x i) E H v H:=cz fun Q j=>DL h h2 j
theorem Ox.fi{i:Nat}(h:zcp E x=some a:=by exact di)(h2:zcM P t a i=some v:=by exact gN):bM P cfg f (.field t x i) E H v H:=cz fun Q j=>aC.field h h2 j
theorem Ox.ia(h:zcp E x=some a:=by exact di)(h1:zcp E y=some b:=by exact di)(h2:zcU P t a b=some v:=by exact gN):bM P cfg f (.indexAddr t x y) E H v H:=cz fun Q j=>DM h h1 h2 j
theorem Ox.ix(h:zcp E x=some a:=by exact di)(h1:zcp E y=some b:=by exact di)(h2:lJ P t a b=some v:=by exact gN):bM P cfg f (.index t x y) E H v H:=cz fun Q j=>aC.index h h1 h2 j
theorem Ox.ex{i:Nat}(h:zcp E x=some a:=by exact di)(h2:Ab.extract a i=some v:=by exact gN):bM P cfg f (.extract x i) E H v H:=cz fun Q j=>aC.extract h h2 j
theorem Ox.al{z:List AV}{n:Nat}(h:zcX P t=some z:=by exact gN)(m:some H.next=some n:=by exact rY):bM P cfg f (.alloc t) E H (.ptr n 0) (H.alloc (.cells z 0 true)):=cz fun Q j=>aC.alloc h m j
theorem Ox.bx{cs:List AV}{n:Nat}(h:zcp E x=some a:=by exact di)(O:some a.cells=some cs:=by exact gN)(m:some H.next=some n:=by exact rY):bM P cfg f (.box t x) E H (.ptr n 0) (H.alloc (.cells cs 0 true)):=cz fun Q j=>aC.box h O m j
theorem Ox.bd{i:Array (Nat×Operand)}{ps:List (Nat×AV)}(h:zeQ E i.toList=some ps:=by exact EY)(h2:zdK P t ps=some v:=by exact gN):bM P cfg f (.build t i) E H v H:=cz fun Q j=>aC.build h h2 j
theorem Ox.bs{n:Nat}{i:Array (Nat×Operand)}{ps:List (Nat×AV)}(h:zeQ E i.toList=some ps:=by exact EY)(h2:zdS P H t n ps=some (v,H'):=by exact gN):bM P cfg f (.buildSlice t n i) E H v H':=cz fun Q j=>DN h h2 j
theorem Ox.mm{n:Nat}(m:some H.next=some n:=by exact rY):bM P cfg f (.makeMap t none) E H (.map n) (H.alloc (.map [])):=cz fun Q j=>aC.makeMap m j
theorem Ox.ms(h:zcp E x=some a:=by exact di)(h1:zcp E y=some b:=by exact di)(h2:zeb P H t a b=some (v,H'):=by exact gN):bM P cfg f (.makeSlice t x y) E H v H':=cz fun Q j=>DP h h1 h2 j
theorem Ox.lu{ok:Bool}(h:zcp E x=some a:=by exact di)(h1:zcp E y=some b:=by exact di)(h2:zeD P H t a b ok=some v:=by exact gN):bM P cfg f (.lookup t x y ok) E H v H:=cz fun Q j=>aC.lookup h h1 h2 j
theorem Ox.mu{z:Operand}{c:AV}(h:zcp E x=some a:=by exact di)(h1:zcp E y=some b:=by exact di)(h2:zcp E z=some c:=by exact di)(o:ze2 P H t a b c=some H':=by exact gN):∃v,bM P cfg f (.mapUpdate t x y z) E H v H':=wO fun Q j=>DO h h1 h2 o j
theorem Ox.mf{g:FuncId}{cap:Array Operand}{vs:List AV}(h:zeq E cap.toList=some vs:=by exact EZ):bM P cfg f (.makeFunc (.func g) #[] cap) E H (.clo g vs) H:=cz fun Q j=>aC.makeFunc h j
theorem Ox.sl{lo C:Option Operand}{O L:Option AV}(h:zcp E x=some a:=by exact di)(h1:zeJ E lo=some O:=by exact E6)(h2:zeJ E C=some L:=by exact E6)(o:kR P H t a O L=some v:=by exact gN):bM P cfg f (.slice t x lo C none) E H v H:=cz fun Q j=>aC.slice h h1 h2 o j
theorem Ox.ln{c:AV}(h:zcp E x=some a:=by exact di)(h1:zc0 P H t a=some c:=by exact gN):bM P cfg f (.call ⟨.builtin .len,#[x],#[t]⟩) E H c H:=cz fun Q j=>aC.len h h1 j
theorem Ox.ap(h:zcp E x=some a:=by exact di)(h1:zcp E y=some b:=by exact di)(h2:zdX P (cfg.keep f) H t u a b=some (v,H'):=by exact gN):bM P cfg f (.call ⟨.builtin .append,#[x,y],#[t,u]⟩) E H v H':=cz fun Q j=>nL h h1 h2 j
theorem Ox.mi{O:Array TypeId}{k M:IntKind}{L z:Int}(h:zcp E x=some (.int k L):=by exact di)(h1:zcp E y=some (.int M z):=by exact di):bM P cfg f (.call ⟨.builtin .min,#[x,y],O⟩) E H (.int k (min L z)) H:=cz fun Q j=>aC.min2 h h1 j
theorem Ox.ma{O:Array TypeId}{k M:IntKind}{L z:Int}(h:zcp E x=some (.int k L):=by exact di)(h1:zcp E y=some (.int M z):=by exact di):bM P cfg f (.call ⟨.builtin .max,#[x,y],O⟩) E H (.int k (max L z)) H:=cz fun Q j=>aC.max2 h h1 j
theorem Rx.o{op:Op}(j:aC P cfg f l (T.set E d (some v)) H' Q)(h:bM P cfg f op E H v H':=by first|apply(Ox.mv)|apply(Ox.as)|apply(Ox.pk)|apply(Ox.ld)|apply(Ox.nc)|apply(Ox.bn)|apply(Ox.un)|apply(Ox.cv)|apply(Ox.fa)|apply(Ox.fi)|apply(Ox.ia)|apply(Ox.ix)|apply(Ox.ex)|apply(Ox.al)|apply(Ox.bx)|apply(Ox.bd)|apply(Ox.bs)|apply(Ox.mm)|apply(Ox.ms)|apply(Ox.lu)|apply(Ox.mf)|apply(Ox.sl)|apply(Ox.ln)|apply(Ox.ap)|apply(Ox.mi)|apply(Ox.ma)):aC P cfg f (⟨some d,op,none⟩::l) E H Q:=bM.go j h
theorem Rx.on{op:Op}(j:aC P cfg f l E H' Q)(h:∃v,bM P cfg f op E H v H':=by first|apply(Ox.st)|apply(Ox.mu)):aC P cfg f (⟨none,op,none⟩::l) E H Q:=Fa j h
def b8:=@Rx.on
theorem Rx.call{U:Option Nat}{c:Call}{g:Operand}{k:FuncId}{cap vs z:List AV}(j:zcx P cfg k z H fun v H'=>aC P cfg f l (zcF E U v) H' Q)(O:c.callee=.value g:=by rfl)(A:zcp E g=some (.clo k cap):=by exact di)(L:zeq E c.args.toList=some vs:=by exact EZ)(Z:vs++cap=z:=by simp only[eM];first|done|exact rfl):aC P cfg f (⟨U,.call c,none⟩::l) E H Q:=bg O A L (Z▸j)
def iU:=@Rx.call
theorem Rx.gu{U:Option Nat}{op:Op}{s:Nat}{t:Bool}{v:AV}{R:Prop}(j:R)(h:some (E.at s)=some v:=by exact di)(L:v=zdx:=by with_reducible rfl)(e:aC P cfg f l (zcF E U zdx) H Q=R:=by exact rX):aC P cfg f (⟨U,op,some (s,t)⟩::l) E H Q:=DI h L (e▸j)
def qg:=@Rx.gu
theorem Rx.gd{U:Option Nat}{op:Op}{s:Nat}{tb t:Bool}{Y C o L R:Prop}(h1:Y->o->aC P cfg f (⟨U,op,none⟩::l) E H Q)(h2:C->L->R)(h:E.at s=.bool t:=by exact di)(Z:(t=tb)=Y:=by(try simp only[zff,reduceCtorEq]);first|done|exact rfl)(A:(t=!tb)=C:=by(try simp only[zff,reduceCtorEq]);first|done|exact rfl)(J:Y=o:=by(try simp only[zfg]);first|done|exact rfl)(W:C=L:=by(try simp only[zfg]);first|done|exact rfl)(e:aC P cfg f l (zcF E U zdx) H Q=R:=by exact rX):aC P cfg f (⟨U,op,some (s,tb)⟩::l) E H Q:=aC.guard h (fun k=>h1 (Z▸k) (J▸Z▸k)) (fun k=>e▸h2 (A▸k) (W▸A▸k))
def b0:=@Rx.gd
theorem Rx.cd{N:Nat}{z A:SC}{Q:AX->ao->Hp->Prop}{t:Bool}{Y C o L:Prop}(h1:Y->o->zcY P cfg f N z E H Q)(h2:C->L->zcY P cfg f N A E H Q)(F:zcp E x=some (.bool t):=by exact di)(Z:(t=true)=Y:=by(try simp only[zff,reduceCtorEq]);first|done|exact rfl)(W:(t=false)=C:=by(try simp only[zff,reduceCtorEq]);first|done|exact rfl)(J:Y=o:=by(try simp only[zfg]);first|done|exact rfl)(V:C=L:=by(try simp only[zfg]);first|done|exact rfl):zcY P cfg f N (.cond x z A) E H Q:=zcY.cond F (fun k=>h1 (Z▸k) (J▸Z▸k)) (fun k=>h2 (W▸k) (V▸W▸k))
def aS:=@Rx.cd
theorem Oy.mv(h:zcp E x=some v:=by exact df):bM P cfg f (.move x) E H v H:=cz fun Q j=>aC.move h j
theorem Oy.as(h:zcp E x=some v:=by exact df):bM P cfg f (.assign x) E H v H:=cz fun Q j=>aC.assign h j
theorem Oy.pk{z:Operand}{t:Bool}(h:zcp E x=some (.bool t):=by exact df)(h1:zcp E y=some a:=by exact df)(h2:zcp E z=some b:=by exact df):bM P cfg f (.pick x y z) E H (hY t a b) H:=cz fun Q j=>aC.pick h h1 h2 j
theorem Oy.ld(h:zcp E x=some a:=by exact df)(h1:zdZ P H t a=some v:=by exact gO):bM P cfg f (.load t x) E H v H:=cz fun Q j=>aC.load h h1 j
theorem Oy.st(h:zcp E x=some a:=by exact df)(h1:zcp E y=some b:=by exact df)(h2:zet P H t a b=some H':=by exact gO):∃v,bM P cfg f (.store t x y) E H v H':=wO fun Q j=>mF h h1 h2 j
theorem Oy.nc{r o:Nat}(h:zcp E x=some (.ptr r o):=by exact df):bM P cfg f (.nilCheck x) E H (.ptr r o) H:=cz fun Q j=>aC.nilCheck h j
theorem Oy.bn{op:BinOp}(h:zcp E x=some a:=by exact df)(h1:zcp E y=some b:=by exact df)(h2:zdr P cfg.dec op t a b=some v:=by exact gO):bM P cfg f (.binOp op t x y u) E H v H:=cz fun Q j=>aC.bin h h1 h2 j
theorem Oy.un{op:UnOp}(h:zcp E x=some a:=by exact df)(h2:nA op a=some v:=by exact gO):bM P cfg f (.unOp op t x) E H v H:=cz fun Q j=>aC.un h h2 j
theorem Oy.cv(h:zcp E x=some a:=by exact df)(h2:zeI P H t u a=some v:=by exact gO):bM P cfg f (.convert t u x) E H v H:=cz fun Q j=>aC.convert h h2 j
theorem Oy.fa{i:Nat}(h:zcp E x=some a:=by exact df)(h2:zcs P t a i=some v:=by exact gO):bM P cfg f (.fieldAddr t x i) E H v H:=cz fun Q j=>DL h h2 j
theorem Oy.fi{i:Nat}(h:zcp E x=some a:=by exact df)(h2:zcM P t a i=some v:=by exact gO):bM P cfg f (.field t x i) E H v H:=cz fun Q j=>aC.field h h2 j
theorem Oy.ia(h:zcp E x=some a:=by exact df)(h1:zcp E y=some b:=by exact df)(h2:zcU P t a b=some v:=by exact gO):bM P cfg f (.indexAddr t x y) E H v H:=cz fun Q j=>DM h h1 h2 j
theorem Oy.ix(h:zcp E x=some a:=by exact df)(h1:zcp E y=some b:=by exact df)(h2:lJ P t a b=some v:=by exact gO):bM P cfg f (.index t x y) E H v H:=cz fun Q j=>aC.index h h1 h2 j
theorem Oy.ex{i:Nat}(h:zcp E x=some a:=by exact df)(h2:Ab.extract a i=some v:=by exact gO):bM P cfg f (.extract x i) E H v H:=cz fun Q j=>aC.extract h h2 j
theorem Oy.al{z:List AV}{n:Nat}(h:zcX P t=some z:=by exact gO)(m:some H.next=some n:=by exact rY):bM P cfg f (.alloc t) E H (.ptr n 0) (H.alloc (.cells z 0 true)):=cz fun Q j=>aC.alloc h m j
theorem Oy.bx{cs:List AV}{n:Nat}(h:zcp E x=some a:=by exact df)(O:some a.cells=some cs:=by exact gO)(m:some H.next=some n:=by exact rY):bM P cfg f (.box t x) E H (.ptr n 0) (H.alloc (.cells cs 0 true)):=cz fun Q j=>aC.box h O m j
theorem Oy.bd{i:Array (Nat×Operand)}{ps:List (Nat×AV)}(h:zeQ E i.toList=some ps:=by exact E7)(h2:zdK P t ps=some v:=by exact gO):bM P cfg f (.build t i) E H v H:=cz fun Q j=>aC.build h h2 j
theorem Oy.bs{n:Nat}{i:Array (Nat×Operand)}{ps:List (Nat×AV)}(h:zeQ E i.toList=some ps:=by exact E7)(h2:zdS P H t n ps=some (v,H'):=by exact gO):bM P cfg f (.buildSlice t n i) E H v H':=cz fun Q j=>DN h h2 j
theorem Oy.mm{n:Nat}(m:some H.next=some n:=by exact rY):bM P cfg f (.makeMap t none) E H (.map n) (H.alloc (.map [])):=cz fun Q j=>aC.makeMap m j
theorem Oy.ms(h:zcp E x=some a:=by exact df)(h1:zcp E y=some b:=by exact df)(h2:zeb P H t a b=some (v,H'):=by exact gO):bM P cfg f (.makeSlice t x y) E H v H':=cz fun Q j=>DP h h1 h2 j
theorem Oy.lu{ok:Bool}(h:zcp E x=some a:=by exact df)(h1:zcp E y=some b:=by exact df)(h2:zeD P H t a b ok=some v:=by exact gO):bM P cfg f (.lookup t x y ok) E H v H:=cz fun Q j=>aC.lookup h h1 h2 j
theorem Oy.mu{z:Operand}{c:AV}(h:zcp E x=some a:=by exact df)(h1:zcp E y=some b:=by exact df)(h2:zcp E z=some c:=by exact df)(o:ze2 P H t a b c=some H':=by exact gO):∃v,bM P cfg f (.mapUpdate t x y z) E H v H':=wO fun Q j=>DO h h1 h2 o j
theorem Oy.mf{g:FuncId}{cap:Array Operand}{vs:List AV}(h:zeq E cap.toList=some vs:=by exact E8):bM P cfg f (.makeFunc (.func g) #[] cap) E H (.clo g vs) H:=cz fun Q j=>aC.makeFunc h j
theorem Oy.sl{lo C:Option Operand}{O L:Option AV}(h:zcp E x=some a:=by exact df)(h1:zeJ E lo=some O:=by exact E9)(h2:zeJ E C=some L:=by exact E9)(o:kR P H t a O L=some v:=by exact gO):bM P cfg f (.slice t x lo C none) E H v H:=cz fun Q j=>aC.slice h h1 h2 o j
theorem Oy.ln{c:AV}(h:zcp E x=some a:=by exact df)(h1:zc0 P H t a=some c:=by exact gO):bM P cfg f (.call ⟨.builtin .len,#[x],#[t]⟩) E H c H:=cz fun Q j=>aC.len h h1 j
theorem Oy.ap(h:zcp E x=some a:=by exact df)(h1:zcp E y=some b:=by exact df)(h2:zdX P (cfg.keep f) H t u a b=some (v,H'):=by exact gO):bM P cfg f (.call ⟨.builtin .append,#[x,y],#[t,u]⟩) E H v H':=cz fun Q j=>nL h h1 h2 j
theorem Oy.mi{O:Array TypeId}{k M:IntKind}{L z:Int}(h:zcp E x=some (.int k L):=by exact df)(h1:zcp E y=some (.int M z):=by exact df):bM P cfg f (.call ⟨.builtin .min,#[x,y],O⟩) E H (.int k (min L z)) H:=cz fun Q j=>aC.min2 h h1 j
theorem Oy.ma{O:Array TypeId}{k M:IntKind}{L z:Int}(h:zcp E x=some (.int k L):=by exact df)(h1:zcp E y=some (.int M z):=by exact df):bM P cfg f (.call ⟨.builtin .max,#[x,y],O⟩) E H (.int k (max L z)) H:=cz fun Q j=>aC.max2 h h1 j
theorem Ry.o{op:Op}(j:aC P cfg f l (T.set E d (some v)) H' Q)(h:bM P cfg f op E H v H':=by first|apply(Oy.mv)|apply(Oy.as)|apply(Oy.pk)|apply(Oy.ld)|apply(Oy.nc)|apply(Oy.bn)|apply(Oy.un)|apply(Oy.cv)|apply(Oy.fa)|apply(Oy.fi)|apply(Oy.ia)|apply(Oy.ix)|apply(Oy.ex)|apply(Oy.al)|apply(Oy.bx)|apply(Oy.bd)|apply(Oy.bs)|apply(Oy.mm)|apply(Oy.ms)|apply(Oy.lu)|apply(Oy.mf)|apply(Oy.sl)|apply(Oy.ln)|apply(Oy.ap)|apply(Oy.mi)|apply(Oy.ma)):aC P cfg f (⟨some d,op,none⟩::l) E H Q:=bM.go j h
theorem Ry.on{op:Op}(j:aC P cfg f l E H' Q)(h:∃v,bM P cfg f op E H v H':=by first|apply(Oy.st)|apply(Oy.mu)):aC P cfg f (⟨none,op,none⟩::l) E H Q:=Fa j h
def b7:=@Ry.on
theorem Ry.call{U:Option Nat}{c:Call}{g:Operand}{k:FuncId}{cap vs z:List AV}(j:zcx P cfg k z H fun v H'=>aC P cfg f l (zcF E U v) H' Q)(O:c.callee=.value g:=by rfl)(A:zcp E g=some (.clo k cap):=by exact df)(L:zeq E c.args.toList=some vs:=by exact E8)(Z:vs++cap=z:=by simp only[eM];first|done|exact rfl):aC P cfg f (⟨U,.call c,none⟩::l) E H Q:=bg O A L (Z▸j)
def bK:=@Ry.call
theorem Ry.gu{U:Option Nat}{op:Op}{s:Nat}{t:Bool}{v:AV}{R:Prop}(j:R)(h:some (E.at s)=some v:=by exact df)(L:v=zdx:=by with_reducible rfl)(e:aC P cfg f l (zcF E U zdx) H Q=R:=by exact rX):aC P cfg f (⟨U,op,some (s,t)⟩::l) E H Q:=DI h L (e▸j)
theorem Ry.gd{U:Option Nat}{op:Op}{s:Nat}{tb t:Bool}{Y C o L R:Prop}(h1:Y->o->aC P cfg f (⟨U,op,none⟩::l) E H Q)(h2:C->L->R)(h:E.at s=.bool t:=by exact df)(Z:(t=tb)=Y:=by(try simp only[zff,reduceCtorEq]);first|done|exact rfl)(A:(t=!tb)=C:=by(try simp only[zff,reduceCtorEq]);first|done|exact rfl)(J:Y=o:=by(try simp only[zfg]);first|done|exact rfl)(W:C=L:=by(try simp only[zfg]);first|done|exact rfl)(e:aC P cfg f l (zcF E U zdx) H Q=R:=by exact rX):aC P cfg f (⟨U,op,some (s,tb)⟩::l) E H Q:=aC.guard h (fun k=>h1 (Z▸k) (J▸Z▸k)) (fun k=>e▸h2 (A▸k) (W▸A▸k))
def a8:=@Ry.gd
theorem iC{U:Option Nat}{op:Op}{s:Nat}{tb t:Bool}{g:List Rc}{Q:List Rc->ao->Hp->Prop}{Y C o L R:Prop}(h1:Y->o->dk P cfg f (⟨U,op,none⟩::l) g E H Q)(h2:C->L->R)(h:E.at s=.bool t:=by exact df)(Z:(t=tb)=Y:=by(try simp only[zff,reduceCtorEq]);first|done|exact rfl)(A:(t=!tb)=C:=by(try simp only[zff,reduceCtorEq]);first|done|exact rfl)(J:Y=o:=by(try simp only[zfg]);first|done|exact rfl)(W:C=L:=by(try simp only[zfg]);first|done|exact rfl)(e:dk P cfg f l (g++[⟨op,false,E,H,zdx,H⟩]) (zcF E U zdx) H Q=R:=by exact rX):dk P cfg f (⟨U,op,some (s,tb)⟩::l) g E H Q:=dk.guard h (fun k=>h1 (Z▸k) (J▸Z▸k)) (fun k=>e▸h2 (A▸k) (W▸A▸k))
theorem Ry.cd{N:Nat}{z A:SC}{Q:AX->ao->Hp->Prop}{t:Bool}{Y C o L:Prop}(h1:Y->o->zcY P cfg f N z E H Q)(h2:C->L->zcY P cfg f N A E H Q)(F:zcp E x=some (.bool t):=by exact df)(Z:(t=true)=Y:=by(try simp only[zff,reduceCtorEq]);first|done|exact rfl)(W:(t=false)=C:=by(try simp only[zff,reduceCtorEq]);first|done|exact rfl)(J:Y=o:=by(try simp only[zfg]);first|done|exact rfl)(V:C=L:=by(try simp only[zfg]);first|done|exact rfl):zcY P cfg f N (.cond x z A) E H Q:=zcY.cond F (fun k=>h1 (Z▸k) (J▸Z▸k)) (fun k=>h2 (W▸k) (V▸W▸k))
def aB:=@Ry.cd
theorem eE{p:Prop}(h:p:=by first|(simp only[zcz,Nat.reduceBEq, *];done)|rfl):p:=h
theorem zfr{p:Prop}(h:p:=by first|(simp only[zcz,zcL,tyF,Nat.reduceBEq,Nat.reduceAdd,Nat.reduceLeDiff, *];done)|rfl):p:=h
theorem eV{p:Prop}(h:p:=by((try simp only[zcz,Nat.reduceBEq, *]);first|done|with_reducible rfl)):p:=h
theorem zfk{p:Prop}(h:p:=by((try simp only[zcz,zcL,tyF,Nat.reduceBEq,Nat.reduceAdd,Nat.reduceLeDiff, *]);first|done|with_reducible rfl)):p:=h
theorem eR{p:Prop}(h:p:=by((try simp only[zcz,Nat.reduceBEq,zd2,zee, *]);first|done|with_reducible rfl)):p:=h
theorem dA{p:Prop}(h:p:=by((try simp only[zcz,zcL,tyF,Nat.reduceBEq,Nat.reduceAdd,Nat.reduceLeDiff,zd2,zee, *]);first|done|with_reducible rfl)):p:=h
theorem bh{p:Prop}(h:p:=by((try simp only[zcz,Nat.reduceBEq, *,-hK]);first|done|with_reducible rfl)):p:=h
theorem bj{p:Prop}(h:p:=by((try simp only[zcz,Nat.reduceBEq,zeq,AD, *,-hK]);first|done|with_reducible rfl)):p:=h
theorem eI{p:Prop}(h:p:=by first|exact .inl rfl|exact .inr rfl|exact .inl trivial|exact .inr trivial):p:=h
theorem zcy{p:Prop}(h:p:=by simp only[zcO,zcI,aY,zcz,zcL,tyF,Nat.reduceBEq,Nat.reduceAdd,Nat.reduceLeDiff, *]):p:=h
theorem zcT{p:Prop}(h:p:=by(try simp only[zcB,zcS,zdg,bw,Nat.reduceAdd]);omega):p:=h
theorem zco{N:Nat}{Q:AX->ao->Hp->Prop}{R:Prop}(h:R)(e:Q .normal E H=R:=by exact wN):zcY P cfg f N .skip E H Q:=zcY.skip (e▸h)
theorem Rx.rt{N:Nat}{Q:AX->ao->Hp->Prop}{R:Prop}(h:R)(e:Q .ret E H=R:=by exact wN):zcY P cfg f N .ret E H Q:=zcY.ret (e▸h)
def am:=@Rx.rt
theorem zcA{N id:Nat}{Q:AX->ao->Hp->Prop}{R:Prop}(h:R)(e:Q (.exit id) E H=R:=by first|(simp only[kz,pP,reduceIte];first|done|exact rfl)|(dsimp only[];first|done|exact rfl)|exact rfl):zcY P cfg f N (.exit id) E H Q:=zcY.exit (e▸h)
theorem eK{p:Prop}(h:p:=by(refine⟨?_,?_⟩<;>simp only[lK,nT,f8,uh,oE,AC,List.forall_mem_cons,zcB,zcS,aM,fH,aY]<;>(repeat' apply ad)<;>first
 |(intro r hr;cases hr;done)
 |(refine Nx (by simp only[lK,nT,f8,uh,oE,AC];rfl) (fun hd=>?_)
   simp only[t9,lK,nT,f8,uh,oE,AC]at hd⊢;first
   |(cases hd;done)
   |exact Nr eV zfk
   |exact Ns eV eV zfk
   |exact Nt eV zfk
   |exact Nu eV zfk
   |exact Nv eV (by simp only[zeJ];first|rfl|simp only[zcz,Nat.reduceBEq, *]) (by simp only[zeJ];first|rfl|simp only[zcz,Nat.reduceBEq, *]) zfk
   |exact Nw rfl zfk zfk)
 |exact aM _
 |assumption
 |omega)):p:=h
variable {N:Nat} {ops:List Oper} {Q2:AX -> ao -> Hp -> Prop}
theorem zc4(id:Nat)(V:List (Nat×Nat))(h:∀K:List Rc->ao->Hp->Prop,(∀g E' H',nQ P cfg V g H'->Q2 .normal E' H'->K g E' H')->dk P cfg f l [] E H K)(W:cfg.plan f id=.text:=by exact AB)(Z:mo ops=true:=by kernel_rfl)(Y:zcE N ops ops=some l:=by simp only[zcE,zcJ,zcK,Nat.blt,Nat.ble];rfl)(m:kV ops=V:=by kernel_rfl):zcY P cfg f N (.draw id ops) E H Q2:=Np W Z Y m h
theorem Rx.dP(id:Nat)(U:List Nat)(V:List (Nat×Nat))(h:∀K:List Rc->ao->Hp->Prop,(∀g E' H',nQ P cfg V g H'->Q2 .normal E' H'->K g E' H')->dk P cfg f l [] E H K)(W:cfg.plan f id=.perm U:=by exact AB)(z:tj U ops=true:=by kernel_rfl)(Z:mo (zel U ops)=true:=by kernel_rfl)(Y:zcE N (zel U ops) (zel U ops)=some l:=by simp only[zel,oy,List.filterMap_cons,List.filterMap_nil,uh,oE,zcE,zcJ,zcK,Nat.blt,Nat.ble];rfl)(m:kV (zel U ops)=V:=by kernel_rfl):zcY P cfg f N (.draw id ops) E H Q2:=Nq W z Z Y m h
theorem nU(id:Nat)(h:∀K:ao->Hp->Prop,(∀E' H',Q2 .normal E' H'->K E' H')->aC P cfg f l E H K)(W:cfg.plan f id=.text:=by exact AB)(V:wt ops=true:=by kernel_rfl)(Z:zcE N ops ops=some l:=by simp only[zcE,zcJ,zcK,Nat.blt,Nat.ble];rfl):zcY P cfg f N (.draw id ops) E H Q2:=zcY.draw W V Z h
end
end Go.Proofs.YtljebeflbbgibaaGreat
namespace Go.Ab
set_option maxRecDepth 20000
open Go
def lq(n:Int):Bool:=(decide (97<=n)&&decide (n<=122))||(decide (65<=n)&&decide (n<=90))||decide (n=95)
def jR(n:Int):Bool:=decide (48<=n)&&decide (n<=57)
def iD(b:UInt8):Bool:=lq b.toNat||jR b.toNat
def zdR:List UInt8->Nat
 |[]=>0
 |b::s=>if iD b then zdR s+1 else 0
theorem Fb:∀s:List UInt8,zdR s<=s.length
 |[]=>aM _
 |b::s=>by have:=Fb s;simp only[zdR,dg];split<;>omega
def gP:List UInt8->Nat
 |[]=>0
 |b::s=>if b.toNat=10 then 0 else gP s+1
theorem Fc:∀s:List UInt8,gP s<=s.length
 |[]=>aM _
 |b::s=>by have:=Fc s;simp only[gP,dg];split<;>omega
def zeH(b:UInt8):Bool:=decide (b.toNat=32)||decide (b.toNat=9)||decide (b.toNat=10)||decide (b.toNat=13)
def zdV:Bool->List UInt8->Nat
 |_,[]=>0
 |true,b::s=>if b.toNat=10 then (if zeH b then zdV false s+1 else 0)else zdV true s+1
 |false,b::s=>if zeH b then zdV false s+1 else if b.toNat=35 then zdV true s+1 else 0
theorem Fe:∀s:List UInt8,zdV true s=gP s+zdV false (s.drop (gP s))
 |[]=>rfl
 |b::s=>by
  simp only[zdV,gP];by_cases h:b.toNat=10
  .have z:zeH b=true:=by unfold zeH;simp[h]
   simp[h,z,zdV]
  .simp only[h,ck,ui,Fe s];omega
theorem rZ:∀(c:Bool) (s:List UInt8),zdV c s<=s.length
 |c,[]=>by cases c<;>exact aM _
 |true,b::s=>by have i:=rZ true s;have g:=rZ false s;simp only[zdV,dg];split<;>(try split)<;>omega
 |false,b::s=>by have i:=rZ true s;have g:=rZ false s;simp only[zdV,dg];split<;>(try split)<;>omega
def Ff(s:List UInt8)(k:Tk)(e:Int):Prop:=
 k.at_=0/\(e=0->∃n,1<=n/\n<=s.length/\k.text=s.take n/\(k.kind=1->n=zdR s/\n<=16/\∀b,s[0]?=some b->jR b.toNat=false)) /\
 (1<=zdR s->zdR s<=16->(∀b,s[0]?=some b->jR b.toNat=false)->e=0/\k=⟨1,s.take (zdR s),0⟩)
def oJ(s:List UInt8):Prop:=1<=zdR s/\zdR s=s.length/\s.length<=16/\∀b,s[0]?=some b->jR b.toNat=false
def wP(s:List UInt8)(O:List Tk):Prop:=∀k C,O=k::C->∃zdz,Ff (s.drop (zdV false s)) zdz 0/\k.kind=zdz.kind/\k.text=zdz.text
def r0(lo:Nat)(H:Hp)(Z:AV)(O:List Tk):Prop:=(O=[]/\Z=.nilS)\/∃r,Z=.sl r 0 O.length 3/\H.get r=some (.cells (O.flatMap Tk.cells) 0 true)/\lo<r/\r<H.next/\O≠[]
theorem Wl{s:List UInt8}(h:oJ s):zdV false s=0:=by
 obtain⟨i,g,o,U⟩:=h;cases s with
 |nil=>rfl
 |cons b s=>
  have hd:=U b rfl;simp only[zdR]at i;have J:iD b=true:=by
   cases z:iD b with
   |true=>rfl
   |false=>rw[z]at i;simp at i
  simp only[iD,hd,jx]at J;have j:zeH b=false:=by
   unfold zeH;simp only[lq,nJ,kw]at J;simp;omega
  have C:¬b.toNat=35:=by
   simp only[lq,nJ,kw]at J;omega
  simp only[zdV,j,cr,ck,C]
theorem Fg:∀ts:List Tk,(ts.flatMap Tk.cells).length=ts.length*3
 |[]=>rfl
 |t::ts=>by rw[oI,fj,Fg ts,Tk.clen,dg];omega
theorem FrB.kill{base r:Nat}{a b:Hp}(h:FrB base a b)(hr:a.next<=r):FrB base a (b.kill r):=⟨h.next,fun k i g=>by
 rw[zem,ah ac];exact h.get k i g⟩
def iV(s:List UInt8):Bool:=decide (1<=zdR s)&&decide (zdR s=s.length)&&decide (s.length<=16)&&(match s with|b::_=>!jR b.toNat|[]=>true)
theorem wQ(s:List UInt8):iV s=true↔oJ s:=by
 unfold iV oJ;cases s with
 |nil=>simp[zdR]
 |cons b s=>simp[and_assoc]
def oK(s:List UInt8):Bool:=decide (s=[97,114,114,97,121])||decide (s=[102,117,110,99])||decide (s=[118,97,114])||decide (s=[114,101,116,117,114,110])||decide (s=[105,102])||decide (s=[101,108,115,101])||decide (s=[119,104,105,108,101])||decide (s=[111,117,116])||decide (s=[116,114,97,112])
def zc9(s:List UInt8):Bool:=iV s && !oK s
theorem Wm{s:List UInt8}{k:Tk}{C:List Tk}(h:wP s (k::C))(j:k.kind=1)(Z:k.text=s):oJ s:=by
 obtain⟨zdz,i,g,o⟩:=h k C rfl;obtain⟨n,n1,K,J,Y⟩:=i.2.1 rfl;obtain⟨L,M,O⟩:=Y (by rw[<-g];exact j);rw[<-o,Z]at J;have I:=ku List.length J;rw[iN,ik]at I;rw[ik]at K;have m:zdV false s=0:=ac;rw[m,dQ]at L O;have W:n=s.length:=ac;exact⟨ac,ac,ac,O⟩
end Go.Ab
