/- Parts: Rules, AbPure, TreeP, Lex. -/
import Derived.Test.YtljebeflbbgibaaGreatXCF
set_option linter.unusedSimpArgs false
set_option linter.unusedVariables false
set_option linter.unusedSectionVars false
set_option linter.defProp false
set_option maxHeartbeats 32000000
namespace Go.Ab
set_option maxRecDepth 20000
open Go
theorem xw{P:Prop}(h:P:=by first|(dsimp only[jt,qi];first|done|exact rfl)|(dsimp only[];first|done|exact rfl)|exact rfl):P:=h
theorem sB{P:Prop}(h:P:=by first|(dsimp only[zdE];first|done|exact rfl)|exact rfl):P:=h
theorem dx{P:Prop}(h:P:=by ((first|simp only[zdy,Nat.reduceBEq,ne_eq,not_false_eq_true, *,-hK]|simp only[zdy,Nat.reduceBEq,ne_eq,not_false_eq_true, *]|skip);first|done|with_reducible rfl)):P:=h
theorem gY{P:Prop}(h:P:=by ((first|simp only[zdy,zdJ,tyF,Nat.reduceBEq,Nat.reduceAdd,Nat.reduceLeDiff,ne_eq,not_false_eq_true, *,-hK]|simp only[zdy,zdJ,tyF,Nat.reduceBEq,Nat.reduceAdd,Nat.reduceLeDiff,ne_eq,not_false_eq_true, *]|skip);first|done|with_reducible rfl)):P:=h
theorem sC{P:Prop}(h:P:=by ((try simp only[zdA,zdQ,zec,Nat.add_assoc,Nat.reduceAdd,Nat.zero_add]);with_reducible rfl)):P:=h
theorem FN{P:Prop}(h:P:=by ((first|simp only[zdy,Nat.reduceBEq,zfH,ne_eq,not_false_eq_true, *,-hK]|simp only[zdy,Nat.reduceBEq,zfH,ne_eq,not_false_eq_true, *]|skip);first|done|with_reducible rfl)):P:=h
theorem FO{P:Prop}(h:P:=by ((first|simp only[zdy,Nat.reduceBEq,zfj,List.cons_append,List.nil_append,ne_eq,not_false_eq_true, *,-hK]|simp only[zdy,Nat.reduceBEq,zfj,List.cons_append,List.nil_append,ne_eq,not_false_eq_true, *]|skip);first|done|with_reducible rfl)):P:=h
theorem FP{P:Prop}(h:P:=by ((first|simp only[zdy,Nat.reduceBEq,zfB,ne_eq,not_false_eq_true, *,-hK]|simp only[zdy,Nat.reduceBEq,zfB,ne_eq,not_false_eq_true, *]|skip);first|done|with_reducible rfl)):P:=h
theorem dm{P:Prop}(h:P:=by ((first|simp only[zdy,Nat.reduceBEq,ne_eq,not_false_eq_true,decide_true,decide_false,Int.reduceEq,Int.reduceLE,Int.reduceToNat,Nat.mul_one, *,-hK]|simp only[zdy,Nat.reduceBEq,ne_eq,not_false_eq_true,decide_true,decide_false,Int.reduceEq,Int.reduceLE,Int.reduceToNat,Nat.mul_one, *]|skip);first|done|with_reducible rfl)):P:=h
theorem gZ{P:Prop}(h:P:=by ((first|simp only[zdy,zdJ,tyF,Nat.reduceBEq,Nat.reduceAdd,Nat.reduceLeDiff,ne_eq,not_false_eq_true,decide_true,decide_false,Int.reduceEq,Int.reduceLE,Int.reduceToNat,Nat.mul_one, *,-hK]|simp only[zdy,zdJ,tyF,Nat.reduceBEq,Nat.reduceAdd,Nat.reduceLeDiff,ne_eq,not_false_eq_true,decide_true,decide_false,Int.reduceEq,Int.reduceLE,Int.reduceToNat,Nat.mul_one, *]|skip);first|done|with_reducible rfl)):P:=h
theorem FQ{P:Prop}(h:P:=by ((first|simp only[zdy,Nat.reduceBEq,zfH,ne_eq,not_false_eq_true,decide_true,decide_false,Int.reduceEq,Int.reduceLE,Int.reduceToNat,Nat.mul_one, *,-hK]|simp only[zdy,Nat.reduceBEq,zfH,ne_eq,not_false_eq_true,decide_true,decide_false,Int.reduceEq,Int.reduceLE,Int.reduceToNat,Nat.mul_one, *]|skip);first|done|with_reducible rfl)):P:=h
theorem FR{P:Prop}(h:P:=by ((first|simp only[zdy,Nat.reduceBEq,zfj,List.cons_append,List.nil_append,ne_eq,not_false_eq_true,decide_true,decide_false,Int.reduceEq,Int.reduceLE,Int.reduceToNat,Nat.mul_one, *,-hK]|simp only[zdy,Nat.reduceBEq,zfj,List.cons_append,List.nil_append,ne_eq,not_false_eq_true,decide_true,decide_false,Int.reduceEq,Int.reduceLE,Int.reduceToNat,Nat.mul_one, *]|skip);first|done|with_reducible rfl)):P:=h
theorem FS{P:Prop}(h:P:=by ((first|simp only[zdy,Nat.reduceBEq,zfB,ne_eq,not_false_eq_true,decide_true,decide_false,Int.reduceEq,Int.reduceLE,Int.reduceToNat,Nat.mul_one, *,-hK]|simp only[zdy,Nat.reduceBEq,zfB,ne_eq,not_false_eq_true,decide_true,decide_false,Int.reduceEq,Int.reduceLE,Int.reduceToNat,Nat.mul_one, *]|skip);first|done|with_reducible rfl)):P:=h
theorem Ba{P:Prop}(h:P:=by first|rfl|exact hplan _|(rw[hS.plan];rfl)):P:=h
theorem FT{P:Prop}(h:P:=by show zem l g (enc x)=_;rw[F];exact Bf j I):P:=h
theorem xy{P:Prop}(h:P:=by simpa using e):P:=h
def ot:=@List.cons_append
def uL:=@List.getElem?_cons_succ
def uM:=@List.drop_succ_cons
def jN:=@decide_eq_false_iff_not
def Bb:=@List.getElem?_nil
def Bc:=@Classical.choose_spec
def jO:=@Bool.or_false
def pm:=@List.flatMap_cons
def FU:=And.intro @ot.{0} @lX.{0}
def dS:=And.intro FU @bJ.{0}
end Go.Ab
namespace Go.Proofs.YtljebeflbbgibaaGreat
set_option maxRecDepth 20000
open Go Go.Ab
def zf7:=ad lC gX
def zf8:=ad @jI @jN
section
variable {P:Program} {cfg:Cfg} {f:FuncId} {l:List SOp} {E:ax} {H H':Hp} {Q:ax -> Hp -> Prop} {d:Nat} {v a b:AV} {x y:Operand} {t u:TypeId}
def bU(P:Program)(cfg:Cfg)(f:FuncId)(op:Op)(E:ax)(H:Hp)(v:AV)(H':Hp):Prop:=∃n,zez P cfg (ev P cfg n) f E H op=.val v H'
theorem bU.of{op:Op}(h:∀Q:ax->Hp->Prop,aE P cfg f [] (T.set E 0 (some v)) H' Q->aE P cfg f [⟨some 0,op,none⟩] E H Q):bU P cfg f op E H v H':=by
 have i:=h (fun Z g=>Z.at 0=v/\g=H') (aE.nil ⟨by rw[gU];rfl,rfl⟩);unfold aE at i;simp only[]at i;unfold fS at i;obtain⟨n,w,g,Y,o⟩:=i;unfold aE at o;obtain⟨U,rfl⟩:=o;have:(zdE E (some 0) w).at 0=w:=EU;rw[this]at U;exact⟨n,by rw[Y,U]⟩
def cI:=@bU.of
theorem xz{op:Op}(h:∀Q:ax->Hp->Prop,aE P cfg f [] E H' Q->aE P cfg f [⟨none,op,none⟩] E H Q):∃v,bU P cfg f op E H v H':=by
 have i:=h (fun Y g=>g=H') (aE.nil rfl);unfold aE at i;simp only[]at i;unfold fS at i;obtain⟨n,w,g,Z,o⟩:=i;unfold aE at o;subst o;exact⟨w,n,Z⟩
theorem bU.go{op:Op}(j:aE P cfg f l (T.set E d (some v)) H' Q)(h:bU P cfg f op E H v H'):aE P cfg f (⟨some d,op,none⟩::l) E H Q:=by
 obtain⟨n,h⟩:=h;unfold aE;show fS _ _ _ _ _ _ _;unfold fS;exact⟨n,v,H',h,j⟩
theorem FV{op:Op}(j:aE P cfg f l E H' Q)(h:∃v,bU P cfg f op E H v H'):aE P cfg f (⟨none,op,none⟩::l) E H Q:=by
 obtain⟨v,n,h⟩:=h;unfold aE;show fS _ _ _ _ _ _ _;unfold fS;exact⟨n,v,H',h,j⟩
attribute [irreducible] bU
theorem zdk{I K:ax->Hp->Prop}{R:Prop}(h:R)(hK:∀E H,I E H->K E H:=by assumption)(e:I E H=R:=by exact xw):aE P cfg f [] E H K:=aE.nil (hK _ _ (e▸h))
theorem zdK{R:Prop}(h:R)(e:Q E H=R:=by first|(dsimp only[];first|done|exact rfl)|exact rfl):aE P cfg f [] E H Q:=aE.nil (e▸h)
theorem zdM{M:List (Nat×Nat)}{F:List Rc}{I:ax->Hp->Prop}{K:List Rc->ax->Hp->Prop}{R:Prop}(h1:oq P cfg M F H)(h:R)(hK:∀F E' H',oq P cfg M F H'->I E' H'->K F E' H':=by assumption)(e:I E H=R:=by exact xw):dz P cfg f [] F E H K:=dz.nil (hK _ _ _ h1 (e▸h))
theorem Rx.k{g:FuncId}{C:List AV}{r:AV}{K:AV->Hp->Prop}{R:Prop}(c:zdw P cfg g C H fun v H'=>v=r/\H'=H)(h:R)(e:K r H=R:=by exact sB):zdw P cfg g C H K:=a9 (by rintro _ _ ⟨rfl,rfl⟩;exact e▸h) c
theorem Ox.mv(h:zdo E x=some v:=by exact dx):bU P cfg f (.move x) E H v H:=cI fun Q j=>aE.move h j
theorem Ox.as(h:zdo E x=some v:=by exact dx):bU P cfg f (.assign x) E H v H:=cI fun Q j=>aE.assign h j
theorem Ox.pk{z:Operand}{t:Bool}(h:zdo E x=some (.bool t):=by exact dx)(h1:zdo E y=some a:=by exact dx)(h2:zdo E z=some b:=by exact dx):bU P cfg f (.pick x y z) E H (iy t a b) H:=cI fun Q j=>aE.pick h h1 h2 j
theorem Ox.ld(h:zdo E x=some a:=by exact dx)(h1:zeX P H t a=some v:=by exact gY):bU P cfg f (.load t x) E H v H:=cI fun Q j=>aE.load h h1 j
theorem Ox.st(h:zdo E x=some a:=by exact dx)(h1:zdo E y=some b:=by exact dx)(h2:jA P H t a b=some H':=by exact gY):∃v,bU P cfg f (.store t x y) E H v H':=xz fun Q j=>mY h h1 h2 j
theorem Ox.nc{r o:Nat}(h:zdo E x=some (.ptr r o):=by exact dx):bU P cfg f (.nilCheck x) E H (.ptr r o) H:=cI fun Q j=>aE.nilCheck h j
theorem Ox.bn{op:BinOp}(h:zdo E x=some a:=by exact dx)(h1:zdo E y=some b:=by exact dx)(h2:zep P cfg.dec op t a b=some v:=by exact gY):bU P cfg f (.binOp op t x y u) E H v H:=cI fun Q j=>aE.bin h h1 h2 j
theorem Ox.un{op:UnOp}(h:zdo E x=some a:=by exact dx)(h2:nT op a=some v:=by exact gY):bU P cfg f (.unOp op t x) E H v H:=cI fun Q j=>aE.un h h2 j
theorem Ox.cv(h:zdo E x=some a:=by exact dx)(h2:zfA P H t u a=some v:=by exact gY):bU P cfg f (.convert t u x) E H v H:=cI fun Q j=>aE.convert h h2 j
theorem Ox.fa{i:Nat}(h:zdo E x=some a:=by exact dx)(h2:zdt P t a i=some v:=by exact gY):bU P cfg f (.fieldAddr t x i) E H v H:=cI fun Q j=>Eo h h2 j
theorem Ox.fi{i:Nat}(h:zdo E x=some a:=by exact dx)(h2:zdN P t a i=some v:=by exact gY):bU P cfg f (.field t x i) E H v H:=cI fun Q j=>aE.field h h2 j
theorem Ox.ia(h:zdo E x=some a:=by exact dx)(h1:zdo E y=some b:=by exact dx)(h2:zdV P t a b=some v:=by exact gY):bU P cfg f (.indexAddr t x y) E H v H:=cI fun Q j=>Ep h h1 h2 j
theorem Ox.ix(h:zdo E x=some a:=by exact dx)(h1:zdo E y=some b:=by exact dx)(h2:lW P t a b=some v:=by exact gY):bU P cfg f (.index t x y) E H v H:=cI fun Q j=>aE.index h h1 h2 j
theorem Ox.ex{i:Nat}(h:zdo E x=some a:=by exact dx)(h2:Ab.extract a i=some v:=by exact gY):bU P cfg f (.extract x i) E H v H:=cI fun Q j=>aE.extract h h2 j
theorem Ox.al{z:List AV}{n:Nat}(h:zdZ P t=some z:=by exact gY)(m:some H.next=some n:=by exact sC):bU P cfg f (.alloc t) E H (.ptr n 0) (H.alloc (.cells z 0 true)):=cI fun Q j=>aE.alloc h m j
theorem Ox.bx{cs:List AV}{n:Nat}(h:zdo E x=some a:=by exact dx)(O:some a.cells=some cs:=by exact gY)(m:some H.next=some n:=by exact sC):bU P cfg f (.box t x) E H (.ptr n 0) (H.alloc (.cells cs 0 true)):=cI fun Q j=>aE.box h O m j
theorem Ox.bd{O:Array (Nat×Operand)}{ps:List (Nat×AV)}(h:zfH E O.toList=some ps:=by exact FN)(h2:zeI P t ps=some v:=by exact gY):bU P cfg f (.build t O) E H v H:=cI fun Q j=>aE.build h h2 j
theorem Ox.bs{n:Nat}{O:Array (Nat×Operand)}{ps:List (Nat×AV)}(h:zfH E O.toList=some ps:=by exact FN)(h2:zeP P H t n ps=some (v,H'):=by exact gY):bU P cfg f (.buildSlice t n O) E H v H':=cI fun Q j=>Er h h2 j
theorem Ox.mm{n:Nat}(m:some H.next=some n:=by exact sC):bU P cfg f (.makeMap t none) E H (.map n) (H.alloc (.map [])):=cI fun Q j=>aE.makeMap m j
theorem Ox.ms(h:zdo E x=some a:=by exact dx)(h1:zdo E y=some b:=by exact dx)(h2:ze7 P H t a b=some (v,H'):=by exact gY):bU P cfg f (.makeSlice t x y) E H v H':=cI fun Q j=>Et h h1 h2 j
theorem Ox.lu{ok:Bool}(h:zdo E x=some a:=by exact dx)(h1:zdo E y=some b:=by exact dx)(h2:zfv P H t a b ok=some v:=by exact gY):bU P cfg f (.lookup t x y ok) E H v H:=cI fun Q j=>aE.lookup h h1 h2 j
theorem Ox.mu{z:Operand}{c:AV}(h:zdo E x=some a:=by exact dx)(h1:zdo E y=some b:=by exact dx)(h2:zdo E z=some c:=by exact dx)(o:zfS P H t a b c=some H':=by exact gY):∃v,bU P cfg f (.mapUpdate t x y z) E H v H':=xz fun Q j=>Es h h1 h2 o j
theorem Ox.mf{g:FuncId}{cap:Array Operand}{vs:List AV}(h:zfj E cap.toList=some vs:=by exact FO):bU P cfg f (.makeFunc (.func g) #[] cap) E H (.clo g vs) H:=cI fun Q j=>aE.makeFunc h j
theorem Ox.sl{lo A:Option Operand}{j L:Option AV}(h:zdo E x=some a:=by exact dx)(h1:zfB E lo=some j:=by exact FP)(h2:zfB E A=some L:=by exact FP)(o:k8 P H t a j L=some v:=by exact gY):bU P cfg f (.slice t x lo A none) E H v H:=cI fun Q Z=>aE.slice h h1 h2 o Z
theorem Ox.ln{c:AV}(h:zdo E x=some a:=by exact dx)(h1:zdY P H t a=some c:=by exact gY):bU P cfg f (.call ⟨.builtin .len,#[x],#[t]⟩) E H c H:=cI fun Q j=>aE.len h h1 j
theorem Ox.ap(h:zdo E x=some a:=by exact dx)(h1:zdo E y=some b:=by exact dx)(h2:zeV P (cfg.keep f) H t u a b=some (v,H'):=by exact gY):bU P cfg f (.call ⟨.builtin .append,#[x,y],#[t,u]⟩) E H v H':=cI fun Q j=>od h h1 h2 j
theorem Ox.mi{K:Array TypeId}{k J:IntKind}{i F:Int}(h:zdo E x=some (.int k i):=by exact dx)(h1:zdo E y=some (.int J F):=by exact dx):bU P cfg f (.call ⟨.builtin .min,#[x,y],K⟩) E H (.int k (min i F)) H:=cI fun Q j=>aE.min2 h h1 j
theorem Ox.ma{K:Array TypeId}{k J:IntKind}{i F:Int}(h:zdo E x=some (.int k i):=by exact dx)(h1:zdo E y=some (.int J F):=by exact dx):bU P cfg f (.call ⟨.builtin .max,#[x,y],K⟩) E H (.int k (max i F)) H:=cI fun Q j=>aE.max2 h h1 j
theorem Rx.o{op:Op}(j:aE P cfg f l (T.set E d (some v)) H' Q)(h:bU P cfg f op E H v H':=by first|apply(Ox.mv)|apply(Ox.as)|apply(Ox.pk)|apply(Ox.ld)|apply(Ox.nc)|apply(Ox.bn)|apply(Ox.un)|apply(Ox.cv)|apply(Ox.fa)|apply(Ox.fi)|apply(Ox.ia)|apply(Ox.ix)|apply(Ox.ex)|apply(Ox.al)|apply(Ox.bx)|apply(Ox.bd)|apply(Ox.bs)|apply(Ox.mm)|apply(Ox.ms)|apply(Ox.lu)|apply(Ox.mf)|apply(Ox.sl)|apply(Ox.ln)|apply(Ox.ap)|apply(Ox.mi)|apply(Ox.ma)):aE P cfg f (⟨some d,op,none⟩::l) E H Q:=bU.go j h
theorem Rx.on{op:Op}(j:aE P cfg f l E H' Q)(h:∃v,bU P cfg f op E H v H':=by first|apply(Ox.st)|apply(Ox.mu)):aE P cfg f (⟨none,op,none⟩::l) E H Q:=FV j h
def bp:=@Rx.on
theorem Rx.call{L:Option Nat}{c:Call}{g:Operand}{k:FuncId}{cap vs C:List AV}(j:zdw P cfg k C H fun v H'=>aE P cfg f l (zdE E L v) H' Q)(O:c.callee=.value g:=by rfl)(Z:zdo E g=some (.clo k cap):=by exact dx)(Y:zfj E c.args.toList=some vs:=by exact FO)(i:vs++cap=C:=by simp only[dS];first|done|exact rfl):aE P cfg f (⟨L,.call c,none⟩::l) E H Q:=bh O Z Y (i▸j)
def iO:=@Rx.call
theorem Rx.gu{L:Option Nat}{op:Op}{s:Nat}{t:Bool}{v:AV}{R:Prop}(j:R)(h:some (E.at s)=some v:=by exact dx)(Z:v=zev:=by with_reducible rfl)(e:aE P cfg f l (zdE E L zev) H Q=R:=by exact sB):aE P cfg f (⟨L,op,some (s,t)⟩::l) E H Q:=Ek h Z (e▸j)
def qC:=@Rx.gu
theorem Rx.gd{L:Option Nat}{op:Op}{s:Nat}{tb t:Bool}{Y Z o U R:Prop}(h1:Y->o->aE P cfg f (⟨L,op,none⟩::l) E H Q)(h2:Z->U->R)(h:E.at s=.bool t:=by exact dx)(V:(t=tb)=Y:=by(try simp only[zf7,reduceCtorEq]);first|done|exact rfl)(C:(t=!tb)=Z:=by(try simp only[zf7,reduceCtorEq]);first|done|exact rfl)(I:Y=o:=by(try simp only[zf8]);first|done|exact rfl)(O:Z=U:=by(try simp only[zf8]);first|done|exact rfl)(e:aE P cfg f l (zdE E L zev) H Q=R:=by exact sB):aE P cfg f (⟨L,op,some (s,tb)⟩::l) E H Q:=aE.guard h (fun k=>h1 (V▸k) (I▸V▸k)) (fun k=>e▸h2 (C▸k) (O▸C▸k))
def bZ:=@Rx.gd
theorem Rx.cd{N:Nat}{J K:SC}{Q:AX->ax->Hp->Prop}{t:Bool}{Y Z o U:Prop}(h1:Y->o->zdX P cfg f N J E H Q)(h2:Z->U->zdX P cfg f N K E H Q)(I:zdo E x=some (.bool t):=by exact dx)(V:(t=true)=Y:=by(try simp only[zf7,reduceCtorEq]);first|done|exact rfl)(C:(t=false)=Z:=by(try simp only[zf7,reduceCtorEq]);first|done|exact rfl)(O:Y=o:=by(try simp only[zf8]);first|done|exact rfl)(M:Z=U:=by(try simp only[zf8]);first|done|exact rfl):zdX P cfg f N (.cond x J K) E H Q:=zdX.cond I (fun k=>h1 (V▸k) (O▸V▸k)) (fun k=>h2 (C▸k) (M▸C▸k))
def aS:=@Rx.cd
theorem Oy.mv(h:zdo E x=some v:=by exact dm):bU P cfg f (.move x) E H v H:=cI fun Q j=>aE.move h j
theorem Oy.as(h:zdo E x=some v:=by exact dm):bU P cfg f (.assign x) E H v H:=cI fun Q j=>aE.assign h j
theorem Oy.pk{z:Operand}{t:Bool}(h:zdo E x=some (.bool t):=by exact dm)(h1:zdo E y=some a:=by exact dm)(h2:zdo E z=some b:=by exact dm):bU P cfg f (.pick x y z) E H (iy t a b) H:=cI fun Q j=>aE.pick h h1 h2 j
theorem Oy.ld(h:zdo E x=some a:=by exact dm)(h1:zeX P H t a=some v:=by exact gZ):bU P cfg f (.load t x) E H v H:=cI fun Q j=>aE.load h h1 j
theorem Oy.st(h:zdo E x=some a:=by exact dm)(h1:zdo E y=some b:=by exact dm)(h2:jA P H t a b=some H':=by exact gZ):∃v,bU P cfg f (.store t x y) E H v H':=xz fun Q j=>mY h h1 h2 j
theorem Oy.nc{r o:Nat}(h:zdo E x=some (.ptr r o):=by exact dm):bU P cfg f (.nilCheck x) E H (.ptr r o) H:=cI fun Q j=>aE.nilCheck h j
theorem Oy.bn{op:BinOp}(h:zdo E x=some a:=by exact dm)(h1:zdo E y=some b:=by exact dm)(h2:zep P cfg.dec op t a b=some v:=by exact gZ):bU P cfg f (.binOp op t x y u) E H v H:=cI fun Q j=>aE.bin h h1 h2 j
theorem Oy.un{op:UnOp}(h:zdo E x=some a:=by exact dm)(h2:nT op a=some v:=by exact gZ):bU P cfg f (.unOp op t x) E H v H:=cI fun Q j=>aE.un h h2 j
theorem Oy.cv(h:zdo E x=some a:=by exact dm)(h2:zfA P H t u a=some v:=by exact gZ):bU P cfg f (.convert t u x) E H v H:=cI fun Q j=>aE.convert h h2 j
theorem Oy.fa{i:Nat}(h:zdo E x=some a:=by exact dm)(h2:zdt P t a i=some v:=by exact gZ):bU P cfg f (.fieldAddr t x i) E H v H:=cI fun Q j=>Eo h h2 j
theorem Oy.fi{i:Nat}(h:zdo E x=some a:=by exact dm)(h2:zdN P t a i=some v:=by exact gZ):bU P cfg f (.field t x i) E H v H:=cI fun Q j=>aE.field h h2 j
theorem Oy.ia(h:zdo E x=some a:=by exact dm)(h1:zdo E y=some b:=by exact dm)(h2:zdV P t a b=some v:=by exact gZ):bU P cfg f (.indexAddr t x y) E H v H:=cI fun Q j=>Ep h h1 h2 j
theorem Oy.ix(h:zdo E x=some a:=by exact dm)(h1:zdo E y=some b:=by exact dm)(h2:lW P t a b=some v:=by exact gZ):bU P cfg f (.index t x y) E H v H:=cI fun Q j=>aE.index h h1 h2 j
theorem Oy.ex{i:Nat}(h:zdo E x=some a:=by exact dm)(h2:Ab.extract a i=some v:=by exact gZ):bU P cfg f (.extract x i) E H v H:=cI fun Q j=>aE.extract h h2 j
theorem Oy.al{z:List AV}{n:Nat}(h:zdZ P t=some z:=by exact gZ)(m:some H.next=some n:=by exact sC):bU P cfg f (.alloc t) E H (.ptr n 0) (H.alloc (.cells z 0 true)):=cI fun Q j=>aE.alloc h m j
theorem Oy.bx{cs:List AV}{n:Nat}(h:zdo E x=some a:=by exact dm)(O:some a.cells=some cs:=by exact gZ)(m:some H.next=some n:=by exact sC):bU P cfg f (.box t x) E H (.ptr n 0) (H.alloc (.cells cs 0 true)):=cI fun Q j=>aE.box h O m j
theorem Oy.bd{O:Array (Nat×Operand)}{ps:List (Nat×AV)}(h:zfH E O.toList=some ps:=by exact FQ)(h2:zeI P t ps=some v:=by exact gZ):bU P cfg f (.build t O) E H v H:=cI fun Q j=>aE.build h h2 j
theorem Oy.bs{n:Nat}{O:Array (Nat×Operand)}{ps:List (Nat×AV)}(h:zfH E O.toList=some ps:=by exact FQ)(h2:zeP P H t n ps=some (v,H'):=by exact gZ):bU P cfg f (.buildSlice t n O) E H v H':=cI fun Q j=>Er h h2 j
theorem Oy.mm{n:Nat}(m:some H.next=some n:=by exact sC):bU P cfg f (.makeMap t none) E H (.map n) (H.alloc (.map [])):=cI fun Q j=>aE.makeMap m j
theorem Oy.ms(h:zdo E x=some a:=by exact dm)(h1:zdo E y=some b:=by exact dm)(h2:ze7 P H t a b=some (v,H'):=by exact gZ):bU P cfg f (.makeSlice t x y) E H v H':=cI fun Q j=>Et h h1 h2 j
theorem Oy.lu{ok:Bool}(h:zdo E x=some a:=by exact dm)(h1:zdo E y=some b:=by exact dm)(h2:zfv P H t a b ok=some v:=by exact gZ):bU P cfg f (.lookup t x y ok) E H v H:=cI fun Q j=>aE.lookup h h1 h2 j
theorem Oy.mu{z:Operand}{c:AV}(h:zdo E x=some a:=by exact dm)(h1:zdo E y=some b:=by exact dm)(h2:zdo E z=some c:=by exact dm)(o:zfS P H t a b c=some H':=by exact gZ):∃v,bU P cfg f (.mapUpdate t x y z) E H v H':=xz fun Q j=>Es h h1 h2 o j
theorem Oy.mf{g:FuncId}{cap:Array Operand}{vs:List AV}(h:zfj E cap.toList=some vs:=by exact FR):bU P cfg f (.makeFunc (.func g) #[] cap) E H (.clo g vs) H:=cI fun Q j=>aE.makeFunc h j
theorem Oy.sl{lo A:Option Operand}{j L:Option AV}(h:zdo E x=some a:=by exact dm)(h1:zfB E lo=some j:=by exact FS)(h2:zfB E A=some L:=by exact FS)(o:k8 P H t a j L=some v:=by exact gZ):bU P cfg f (.slice t x lo A none) E H v H:=cI fun Q Z=>aE.slice h h1 h2 o Z
theorem Oy.ln{c:AV}(h:zdo E x=some a:=by exact dm)(h1:zdY P H t a=some c:=by exact gZ):bU P cfg f (.call ⟨.builtin .len,#[x],#[t]⟩) E H c H:=cI fun Q j=>aE.len h h1 j
theorem Oy.ap(h:zdo E x=some a:=by exact dm)(h1:zdo E y=some b:=by exact dm)(h2:zeV P (cfg.keep f) H t u a b=some (v,H'):=by exact gZ):bU P cfg f (.call ⟨.builtin .append,#[x,y],#[t,u]⟩) E H v H':=cI fun Q j=>od h h1 h2 j
theorem Oy.mi{K:Array TypeId}{k J:IntKind}{i F:Int}(h:zdo E x=some (.int k i):=by exact dm)(h1:zdo E y=some (.int J F):=by exact dm):bU P cfg f (.call ⟨.builtin .min,#[x,y],K⟩) E H (.int k (min i F)) H:=cI fun Q j=>aE.min2 h h1 j
theorem Oy.ma{K:Array TypeId}{k J:IntKind}{i F:Int}(h:zdo E x=some (.int k i):=by exact dm)(h1:zdo E y=some (.int J F):=by exact dm):bU P cfg f (.call ⟨.builtin .max,#[x,y],K⟩) E H (.int k (max i F)) H:=cI fun Q j=>aE.max2 h h1 j
theorem Ry.o{op:Op}(j:aE P cfg f l (T.set E d (some v)) H' Q)(h:bU P cfg f op E H v H':=by first|apply(Oy.mv)|apply(Oy.as)|apply(Oy.pk)|apply(Oy.ld)|apply(Oy.nc)|apply(Oy.bn)|apply(Oy.un)|apply(Oy.cv)|apply(Oy.fa)|apply(Oy.fi)|apply(Oy.ia)|apply(Oy.ix)|apply(Oy.ex)|apply(Oy.al)|apply(Oy.bx)|apply(Oy.bd)|apply(Oy.bs)|apply(Oy.mm)|apply(Oy.ms)|apply(Oy.lu)|apply(Oy.mf)|apply(Oy.sl)|apply(Oy.ln)|apply(Oy.ap)|apply(Oy.mi)|apply(Oy.ma)):aE P cfg f (⟨some d,op,none⟩::l) E H Q:=bU.go j h
theorem Ry.on{op:Op}(j:aE P cfg f l E H' Q)(h:∃v,bU P cfg f op E H v H':=by first|apply(Oy.st)|apply(Oy.mu)):aE P cfg f (⟨none,op,none⟩::l) E H Q:=FV j h
def b4:=@Ry.on
theorem Ry.call{L:Option Nat}{c:Call}{g:Operand}{k:FuncId}{cap vs C:List AV}(j:zdw P cfg k C H fun v H'=>aE P cfg f l (zdE E L v) H' Q)(O:c.callee=.value g:=by rfl)(Z:zdo E g=some (.clo k cap):=by exact dm)(Y:zfj E c.args.toList=some vs:=by exact FR)(i:vs++cap=C:=by simp only[dS];first|done|exact rfl):aE P cfg f (⟨L,.call c,none⟩::l) E H Q:=bh O Z Y (i▸j)
def bL:=@Ry.call
theorem Ry.gu{L:Option Nat}{op:Op}{s:Nat}{t:Bool}{v:AV}{R:Prop}(j:R)(h:some (E.at s)=some v:=by exact dm)(Z:v=zev:=by with_reducible rfl)(e:aE P cfg f l (zdE E L zev) H Q=R:=by exact sB):aE P cfg f (⟨L,op,some (s,t)⟩::l) E H Q:=Ek h Z (e▸j)
theorem Ry.gd{L:Option Nat}{op:Op}{s:Nat}{tb t:Bool}{Y Z o U R:Prop}(h1:Y->o->aE P cfg f (⟨L,op,none⟩::l) E H Q)(h2:Z->U->R)(h:E.at s=.bool t:=by exact dm)(V:(t=tb)=Y:=by(try simp only[zf7,reduceCtorEq]);first|done|exact rfl)(C:(t=!tb)=Z:=by(try simp only[zf7,reduceCtorEq]);first|done|exact rfl)(I:Y=o:=by(try simp only[zf8]);first|done|exact rfl)(O:Z=U:=by(try simp only[zf8]);first|done|exact rfl)(e:aE P cfg f l (zdE E L zev) H Q=R:=by exact sB):aE P cfg f (⟨L,op,some (s,tb)⟩::l) E H Q:=aE.guard h (fun k=>h1 (V▸k) (I▸V▸k)) (fun k=>e▸h2 (C▸k) (O▸C▸k))
def a2:=@Ry.gd
theorem nk{L:Option Nat}{op:Op}{s:Nat}{tb t:Bool}{F:List Rc}{Q:List Rc->ax->Hp->Prop}{Y Z o U R:Prop}(h1:Y->o->dz P cfg f (⟨L,op,none⟩::l) F E H Q)(h2:Z->U->R)(h:E.at s=.bool t:=by exact dm)(V:(t=tb)=Y:=by(try simp only[zf7,reduceCtorEq]);first|done|exact rfl)(C:(t=!tb)=Z:=by(try simp only[zf7,reduceCtorEq]);first|done|exact rfl)(I:Y=o:=by(try simp only[zf8]);first|done|exact rfl)(O:Z=U:=by(try simp only[zf8]);first|done|exact rfl)(e:dz P cfg f l (F++[⟨op,false,E,H,zev,H⟩]) (zdE E L zev) H Q=R:=by exact sB):dz P cfg f (⟨L,op,some (s,tb)⟩::l) F E H Q:=dz.guard h (fun k=>h1 (V▸k) (I▸V▸k)) (fun k=>e▸h2 (C▸k) (O▸C▸k))
theorem Ry.cd{N:Nat}{J K:SC}{Q:AX->ax->Hp->Prop}{t:Bool}{Y Z o U:Prop}(h1:Y->o->zdX P cfg f N J E H Q)(h2:Z->U->zdX P cfg f N K E H Q)(I:zdo E x=some (.bool t):=by exact dm)(V:(t=true)=Y:=by(try simp only[zf7,reduceCtorEq]);first|done|exact rfl)(C:(t=false)=Z:=by(try simp only[zf7,reduceCtorEq]);first|done|exact rfl)(O:Y=o:=by(try simp only[zf8]);first|done|exact rfl)(M:Z=U:=by(try simp only[zf8]);first|done|exact rfl):zdX P cfg f N (.cond x J K) E H Q:=zdX.cond I (fun k=>h1 (V▸k) (O▸V▸k)) (fun k=>h2 (C▸k) (M▸C▸k))
def aD:=@Ry.cd
theorem eE{p:Prop}(h:p:=by first|(simp only[zdy,Nat.reduceBEq, *];done)|rfl):p:=h
theorem zgk{p:Prop}(h:p:=by first|(simp only[zdy,zdJ,tyF,Nat.reduceBEq,Nat.reduceAdd,Nat.reduceLeDiff, *];done)|rfl):p:=h
theorem zeM{p:Prop}(h:p:=by((try simp only[zdy,Nat.reduceBEq, *]);first|done|with_reducible rfl)):p:=h
theorem zgd{p:Prop}(h:p:=by((try simp only[zdy,zdJ,tyF,Nat.reduceBEq,Nat.reduceAdd,Nat.reduceLeDiff, *]);first|done|with_reducible rfl)):p:=h
theorem eR{p:Prop}(h:p:=by((try simp only[zdy,Nat.reduceBEq,ze0,zfa, *]);first|done|with_reducible rfl)):p:=h
theorem dG{p:Prop}(h:p:=by((try simp only[zdy,zdJ,tyF,Nat.reduceBEq,Nat.reduceAdd,Nat.reduceLeDiff,ze0,zfa, *]);first|done|with_reducible rfl)):p:=h
theorem bm{p:Prop}(h:p:=by((try simp only[zdy,Nat.reduceBEq, *,-hK]);first|done|with_reducible rfl)):p:=h
theorem bo{p:Prop}(h:p:=by((try simp only[zdy,Nat.reduceBEq,zfj,FU, *,-hK]);first|done|with_reducible rfl)):p:=h
theorem eI{p:Prop}(h:p:=by first|exact .inl rfl|exact .inr rfl|exact .inl trivial|exact .inr trivial):p:=h
theorem zdz{p:Prop}(h:p:=by simp only[zdO,zdF,aX,zdy,zdJ,tyF,Nat.reduceBEq,Nat.reduceAdd,Nat.reduceLeDiff, *]):p:=h
theorem eN{p:Prop}(h:p:=by(try simp only[zdA,zdQ,zec,bC,Nat.reduceAdd]);omega):p:=h
theorem zdm{N:Nat}{Q:AX->ax->Hp->Prop}{R:Prop}(h:R)(e:Q .normal E H=R:=by exact xw):zdX P cfg f N .skip E H Q:=zdX.skip (e▸h)
theorem Rx.rt{N:Nat}{Q:AX->ax->Hp->Prop}{R:Prop}(h:R)(e:Q .ret E H=R:=by exact xw):zdX P cfg f N .ret E H Q:=zdX.ret (e▸h)
def am:=@Rx.rt
theorem zdr{N id:Nat}{Q:AX->ax->Hp->Prop}{R:Prop}(h:R)(e:Q (.exit id) E H=R:=by first|(simp only[jt,qi,reduceIte];first|done|exact rfl)|(dsimp only[];first|done|exact rfl)|exact rfl):zdX P cfg f N (.exit id) E H Q:=zdX.exit (e▸h)
theorem zdR{p:Prop}(h:p:=by(refine⟨?_,?_⟩<;>simp only[lX,ot,gB,uL,ke,Bb,List.forall_mem_cons,zdA,zdQ,aM,fR,aX]<;>(repeat' apply ad)<;>first
 |(intro r hr;cases hr;done)
 |(refine Ou (by simp only[lX,ot,gB,uL,ke,Bb];rfl) (fun hd=>?_)
   simp only[uC,lX,ot,gB,uL,ke,Bb]at hd⊢;first
   |(cases hd;done)
   |exact Ol zeM zgd
   |exact Om zeM zeM zgd
   |exact On zeM zgd
   |exact Oo zeM zgd
   |exact Oq zeM (by simp only[zfB];first|rfl|simp only[zdy,Nat.reduceBEq, *]) (by simp only[zfB];first|rfl|simp only[zdy,Nat.reduceBEq, *]) zgd
   |exact Ot rfl zgd zgd)
 |exact aM _
 |assumption
 |omega)):p:=h
variable {N:Nat} {ops:List Oper} {Q2:AX -> ax -> Hp -> Prop}
theorem zdL(id:Nat)(M:List (Nat×Nat))(h:∀K:List Rc->ax->Hp->Prop,(∀Z E' H',oq P cfg M Z H'->Q2 .normal E' H'->K Z E' H')->dz P cfg f l [] E H K)(F:cfg.plan f id=.text:=by exact Ba)(Y:mO ops=true:=by kernel_rfl)(V:zdD N ops ops=some l:=by simp only[zdD,zdH,zdI,Nat.blt,Nat.ble];rfl)(m:lh ops=M:=by kernel_rfl):zdX P cfg f N (.draw id ops) E H Q2:=Oi F Y V m h
theorem Rx.dP(id:Nat)(J:List Nat)(M:List (Nat×Nat))(h:∀K:List Rc->ax->Hp->Prop,(∀Z E' H',oq P cfg M Z H'->Q2 .normal E' H'->K Z E' H')->dz P cfg f l [] E H K)(F:cfg.plan f id=.perm J:=by exact Ba)(z:tN J ops=true:=by kernel_rfl)(Y:mO (fF J ops)=true:=by kernel_rfl)(V:zdD N (fF J ops) (fF J ops)=some l:=by simp only[fF,oX,List.filterMap_cons,List.filterMap_nil,uL,ke,zdD,zdH,zdI,Nat.blt,Nat.ble];rfl)(m:lh (fF J ops)=M:=by kernel_rfl):zdX P cfg f N (.draw id ops) E H Q2:=Oj F z Y V m h
theorem ou(id:Nat)(h:∀K:ax->Hp->Prop,(∀E' H',Q2 .normal E' H'->K E' H')->aE P cfg f l E H K)(F:cfg.plan f id=.text:=by exact Ba)(Y:xb ops=true:=by kernel_rfl)(Z:zdD N ops ops=some l:=by simp only[zdD,zdH,zdI,Nat.blt,Nat.ble];rfl):zdX P cfg f N (.draw id ops) E H Q2:=zdX.draw F Y Z h
end
end Go.Proofs.YtljebeflbbgibaaGreat
namespace Go.Ab
set_option maxRecDepth 20000
open Go
def ee(v:AV):Prop:=∃k,∀m,k<=m->∀H,iceV H m v=some v
def eW(l:List AV):Prop:=∀v∈l,ee v
theorem eW.nil:eW []:=fun _ h=>jp
theorem eW.cons{v:AV}{l:List AV}(h:ee v)(F:eW l):eW (v::l):=fun w J=>by
 rcases ff.1 J with rfl|J
 .exact h
 .exact F _ J
theorem eW.bound:∀{l:List AV},eW l->∃k,∀m,k<=m->∀H,iceL (iceV H m) l=some l
 |[],_=>⟨0,fun _ _ _=>rfl⟩
 |v::l,h=>by
  obtain⟨zeb,i⟩:=h v fh;obtain⟨k2,g⟩:=eW.bound (l:=l) fun w J=>h w (fp _ J)
  exact⟨max zeb k2,fun m M H=>by simp only[iceL,i m ac H,g m ac H]⟩
theorem FW:∀{l:List (List AV)},(∀z∈l,eW z)->∃k,∀m,k<=m->∀H,oY (iceV H m) l=some l
 |[],_=>⟨0,fun _ _ _=>rfl⟩
 |v::l,h=>by
  obtain⟨zeb,i⟩:=(h v fh).bound;obtain⟨k2,g⟩:=FW (l:=l) fun w J=>h w (fp _ J)
  exact⟨max zeb k2,fun m M H=>by simp only[oY,i m ac H,g m ac H]⟩
theorem ee.one{v:AV}(h:∀m H,iceV H (m+1) v=some v):ee v:=⟨1,fun m M H=>by
 obtain⟨m,rfl⟩:∃k,m=k+1:=⟨m-1,ac⟩;exact h m H⟩
theorem ee.int(k:IntKind)(n:Int):ee (.int k n):=.one fun _ _=>rfl
theorem ee.bool(b:Bool):ee (.bool b):=.one fun _ _=>rfl
theorem ee.str(s:List UInt8):ee (.str s):=.one fun _ _=>rfl
theorem ee.nilS:ee .nilS:=.one fun _ _=>rfl
theorem ee.lst{l:List (List AV)}(h:∀z∈l,eW z):ee (.lst l):=by
 obtain⟨k,j⟩:=FW h;refine⟨k+1,fun m M H=>?_⟩;obtain⟨m,rfl⟩:∃k,m=k+1:=⟨m-1,ac⟩;simp only[iceV,j m ac H]
theorem ee.agg{l:List AV}(h:eW l):ee (.agg l):=by
 obtain⟨k,j⟩:=h.bound;refine⟨k+1,fun m M H=>?_⟩;obtain⟨m,rfl⟩:∃k,m=k+1:=⟨m-1,ac⟩;simp only[iceV,j m ac H]
theorem ee.tup{l:List AV}(h:eW l):ee (.tup l):=by
 obtain⟨k,j⟩:=h.bound;refine⟨k+1,fun m M H=>?_⟩;obtain⟨m,rfl⟩:∃k,m=k+1:=⟨m-1,ac⟩;simp only[iceV,j m ac H]
theorem ee.map{U:Type}{l:List U}{f:U->List AV}(h:∀x∈l,eW (f x)):ee (.lst (l.map f)):=.lst fun z hr=>by
 obtain⟨x,I,rfl⟩:=l8.1 hr;exact h x I
theorem FX{args:List AV}(h:eW args):∃k,nU k args=true:=by
 obtain⟨k,j⟩:=h.bound;exact⟨k,by unfold nU;rw[j k (aM _) zd3];exact zga args⟩
theorem Xa{P:Program}{cfg:Cfg}(fit:Fit P){ρ:Nat->Int}(i:kJ cfg.dec ρ)(O:∀f args r,cfg.call f args=some r->bc P ρ f args r){g:FuncId}{args:List AV}{r:AV}
 (Y:eW args) (hr:ee r) (h:zdw P cfg g args zd3 fun v _=>v=r):bc P ρ g args r:=by
 obtain⟨k,j⟩:=FX Y;obtain⟨m,M⟩:=hr;exact Em (m:=m) fit i O j (a9 (fun v H' e=>by rw[e];exact M m (aM _) H') h)
theorem zgb{P:Program}{cfg:Cfg}(fit:Fit P){ρ:Nat->Int}(i:kJ cfg.dec ρ)(O:∀f args r,cfg.call f args=some r->bc P ρ f args r){g:FuncId}{args:List AV}{r:AV}{m:Nat}
 (Y:eW args) (h:zdw P cfg g args zd3 fun v H'=>iceV H' m v=some r):bc P ρ g args r:=by
 obtain⟨k,j⟩:=FX Y;exact Em (m:=m) fit i O j h
structure En where
 f:FuncId
 ice:Bool
 sp:List AV->Option AV
def zem:List En->FuncId->List AV->Option AV
 |[],_,_=>none
 |e::l,f,args=>match Nat.beq e.f f with
  |true=>e.sp args
  |false=>zem l f args
def ir:List En->FuncId->Bool
 |[],_=>false
 |e::l,f=>match Nat.beq e.f f with
  |true=>e.ice
  |false=>ir l f
noncomputable def zdp(pls:List (Nat×Nat×Plan))(l:List En):Cfg:={keep:=fun _=>false,call:=zem l,ice:=ir l,plan:=uk pls}
def yO(P:Program)(ρ:Nat->Int)(e:En):Prop:=∀args r,e.sp args=some r->bc P ρ e.f args r
def fk(P:Program)(ρ:Nat->Int):List En->Prop
 |[]=>True
 |e::l=>yO P ρ e/\fk P ρ l
theorem fk.look{P:Program}{ρ:Nat->Int}:∀{l:List En},fk P ρ l->∀f args r,zem l f args=some r->bc P ρ f args r
 |[],_,_,_,_,h=>by simp[zem]at h
 |e::l,hl,f,args,r,h=>by
  simp only[zem]at h;split at h
  .rename_i m;rw[<-gP m];exact hl.1 args r h
  .exact fk.look hl.2 f args r h
noncomputable def b7{U:Type}(ok:U->Prop)(enc:U->List AV)(out:U->AV)(args:List AV):Option AV:=open Classical in
 if h:∃x,ok x/\enc x=args then some (out (Classical.choose h))else none
theorem Bf{U:Type}{ok:U->Prop}{enc:U->List AV}{out:U->AV}(j:∀x y,enc x=enc y->x=y){x:U}(I:ok x):b7 ok enc out (enc x)=some (out x):=by
 unfold b7;have h:∃y,ok y/\enc y=enc x:=⟨x,I,rfl⟩;rw[dif_pos h];rw[j _ _ (Bc h).2]
theorem FY{U:Type}{ok:U->Prop}{enc:U->List AV}{out:U->AV}{args:List AV}(h:∀x,ok x->enc x≠args):b7 ok enc out args=none:=by
 unfold b7;rw[dif_neg];rintro⟨x,I,e⟩;exact h x I e
theorem zei{P:Program}{ρ:Nat->Int}{U:Type}{ok:U->Prop}{f:FuncId}{ice:Bool}{enc:U->List AV}{out:U->AV}(h:∀x,ok x->bc P ρ f (enc x) (out x)):yO P ρ ⟨f,ice,b7 ok enc out⟩:=fun args r hr=>by
 change b7 ok enc out args=some r at hr;unfold b7 at hr;split at hr
 .rename_i I;simp only[aA]at hr;subst hr;have:=h (Classical.choose I) (Bc I).1;rw[(Bc I).2]at this;exact this
 .simp at hr
attribute [irreducible] b7
theorem Bg{P:Program}{cfg:Cfg}{g:FuncId}{args:List AV}{r:AV}{H:Hp}(h:cfg.call g args=some r):zdw P cfg g args H fun v H'=>v=r/\H'=H:=zdw.known h ⟨rfl,rfl⟩
theorem zeq{P:Program}{pls:List (Nat×Nat×Plan)}{l:List En}{U:Type}{ok:U->Prop}{enc:U->List AV}{out:U->AV}(j:∀x y,enc x=enc y->x=y){g:FuncId}{x:U}(F:zem l g (enc x)=b7 ok enc out (enc x))(I:ok x){H:Hp}:
 zdw P (zdp pls l) g (enc x) H fun v H'=>v=out x/\H'=H:=Bg FT
theorem Xb{P:Program}{pls:List (Nat×Nat×Plan)}{l:List En}{U:Type}{ok:U->Prop}{enc:U->List AV}{out:U->AV}(j:∀x y,enc x=enc y->x=y){g:FuncId}{x:U}(F:∀L,zem l g L=b7 ok enc out L)(A:ir l g=true)(I:ok x){args:List AV}{H H':Hp}
 (m:∀y,ok y->enc y≠args) (J:iC (fG 100) args H=some (enc x,H')) :
 zdw P (zdp pls l) g args H fun v Z=>v=out x/\Z=H':=El (by show zem l g args=none;rw[F];exact FY m) A rfl J FT ⟨rfl,rfl⟩
theorem zer{P:Program}{ρ:Nat->Int}(fit:Fit P){pls:List (Nat×Nat×Plan)}{l:List En}(F:fk P ρ l){f:FuncId}{args:List AV}{r:AV}(Y:eW args)(hr:ee r)(h:zdw P (zdp pls l) f args zd3 fun v _=>v=r):bc P ρ f args r:=
 Xa fit (lE ρ) (fun g L r C=>fk.look F g L r C) Y hr h
theorem Ex.pure(x:Ex):eW x.cells:=by
 have I:∀n (x:Ex),x.sz<n->eW x.cells:=by
  intro n;induction n with
  |zero=>intro x h;omega
  |succ n ih=>
   intro x h;rw[qm];refine .cons (.int _ _) (.cons (.int _ _) (.cons (.str _) (.cons (.int _ _) (.cons (.map fun y O=>ih y ?_) .nil))));have:=sf O;have:=x.sz_eq;omega
 exact I _ x (cP _)
theorem xA(l:List Ex):ee (.lst (l.map Ex.cells)):=.map fun x _=>x.pure
theorem St.pure(x:St):eW x.cells:=by
 have I:∀n (x:St),x.sz<n->eW x.cells:=by
  intro n;induction n with
  |zero=>intro x h;omega
  |succ n ih=>
   intro x h;rw[sa];have:=x.sz_eq;refine .cons (.int _ _) (.cons (.str _) (.cons (.str _) (.cons (.int _ _) (.cons (.int _ _) (.cons (.int _ _) (.cons (.str _) (.cons (.int _ _) (.cons (xA _) (.cons (.int _ _) (.cons (.int _ _) (.cons (.str _) (.cons (.int _ _) (.cons (xA _) (.cons (xA _) (.cons (.map fun y O=>ih y ?_) (.cons (.map fun y O=>ih y ?_) .nil))))))))))))))))
   .have:=sg O;omega
   .have:=sg O;omega
 exact I _ x (cP _)
theorem Xc(l:List St):ee (.lst (l.map St.cells)):=.map fun x _=>x.pure
theorem uN(l:List (List UInt8)):ee (zeE l):=.map fun x _=>.cons (.str _) .nil
theorem Fu.pure(x:Fu):eW x.cells:=by
 rw[uu];exact .cons (.str _) (.cons (uN _) (.cons (uN _) (.cons (Xc _) (.cons (.int _ _) (.cons (.int _ _) (.cons (.str _) (.cons (.int _ _) (.cons (xA _) .nil))))))))
theorem Ar.pure(x:Ar):eW x.cells:=.cons (.str _) (.cons (.int _ _) .nil)
theorem Pr.pure(x:Pr):eW x.cells:=.cons (.map fun x _=>x.pure) (.cons (.map fun x _=>x.pure) .nil)
theorem zfO{U β:Type}{f:U->β}:∀{a b:List U},(∀x∈a,∀y,f x=f y->x=y)->a.map f=b.map f->a=b
 |[],[],_,_=>rfl
 |[],_::_,_,h=>by simp at h
 |_::_,[],_,h=>by simp at h
 |x::a,y::b,hf,h=>by
  simp only[dL,cR]at h;rw[hf x fh y h.1,zfO (fun z Z=>hf z (fp _ Z)) h.2]
theorem Ex.ext'{x y:Ex}(A:x.kind=y.kind)(h1:x.n=y.n)(h2:x.name=y.name)(o:x.op=y.op)(U:x.kids=y.kids):x=y:=by
 cases x;cases y;simp only[Ex.kind,Ex.n,Ex.name,Ex.op,Ex.kids]at *;simp[*]
theorem Ex.inj{x y:Ex}(h:x.cells=y.cells):x=y:=by
 have I:∀n (x:Ex),x.sz<n->∀y,x.cells=y.cells->x=y:=by
  intro n;induction n with
  |zero=>intro x h;omega
  |succ n ih=>
   intro x h y e;rw[qm,qm]at e;simp only[cR,AV.int.injEq,AV.str.injEq,AV.lst.injEq,fR,aX]at e;obtain⟨O,Y,C,V,U⟩:=e;refine Ex.ext' O Y C V (zfO (fun z Z=>ih z ?_) U);have:=sf Z;have:=x.sz_eq;omega
 exact I _ x (cP _) y h
theorem xB{a b:List Ex}(h:a.map Ex.cells=b.map Ex.cells):a=b:=zfO (fun _ _ _=>Ex.inj) h
theorem St.ext'{x y:St}(A:x.kind=y.kind)(h1:x.name=y.name)(h2:x.to=y.to)(o:x.n=y.n)(U:x.at_=y.at_)(i:x.value=y.value)(F:x.args=y.args)(Z:x.thn=y.thn)(m:x.els=y.els):x=y:=by
 cases x;cases y;simp only[St.kind,St.name,St.to,St.n,St.at_,St.value,St.args,St.thn,St.els]at *;simp[*]
theorem St.inj{x y:St}(h:x.cells=y.cells):x=y:=by
 have I:∀n (x:St),x.sz<n->∀y,x.cells=y.cells->x=y:=by
  intro n;induction n with
  |zero=>intro x h;omega
  |succ n ih=>
   intro x h y e;have J:=x.sz_eq;rw[sa,sa]at e;simp only[cR,AV.int.injEq,AV.str.injEq,AV.lst.injEq,fR,aX]at e;obtain⟨O,Y,C,V,a0,a1,zeU,a3,a4,U,M,L,g,A,m,F,K⟩:=e;refine St.ext' O Y C V (Ex.ext' a0 a1 zeU a3 (xB a4)) (Ex.ext' U M L g (xB A)) (xB m) (zfO (fun z Z=>ih z ?_) F) (zfO (fun z Z=>ih z ?_) K)
   .have:=sg Z;omega
   .have:=sg Z;omega
 exact I _ x (cP _) y h
theorem Xd{a b:List St}(h:a.map St.cells=b.map St.cells):a=b:=zfO (fun _ _ _=>St.inj) h
theorem xC{a b:List (List UInt8)}(h:(a.map fun s=>[AV.str s])=b.map fun s=>[AV.str s]):a=b:=zfO (fun x _ y e=>xy) h
theorem Fu.inj{x y:Fu}(h:x.cells=y.cells):x=y:=by
 obtain⟨n,p,l,b,v⟩:=x;obtain⟨o,U,K,m,F⟩:=y;rw[uu,uu]at h;simp only[cR,AV.int.injEq,AV.str.injEq,AV.lst.injEq,fR,aX]at h;obtain⟨O,Z,C,I,Y,M,V,g,A⟩:=h;rw[O,xC Z,xC C,Xd I,Ex.ext' Y M V g (xB A)]
theorem Ar.inj{x y:Ar}(h:x.cells=y.cells):x=y:=by
 obtain⟨n,p⟩:=x;obtain⟨o,C⟩:=y;simp only[Ar.cells,cR,AV.int.injEq,AV.str.injEq,fR,aX]at h;rw[h.1,h.2]
theorem Pr.inj{x y:Pr}(h:x.cells=y.cells):x=y:=by
 obtain⟨n,p⟩:=x;obtain⟨o,C⟩:=y;simp only[Pr.cells,cR,AV.lst.injEq,fR,aX]at h;rw[zfO (fun _ _ _=>Ar.inj) h.1,zfO (fun _ _ _=>Fu.inj) h.2]
theorem pn(l:List Int):ee (zel l):=.map fun x _=>.cons (.int _ _) .nil
theorem Nd.pure(x:Nd):eW x.cells:=.cons (.int _ _) (.cons (.int _ _) (.cons (pn _) .nil))
def qE:=@Nd.pure
theorem Gr.pure(x:Gr):eW x.cells:=.cons (.str _) (.cons (.int _ _) (.cons (.map fun y _=>y.pure) (.cons (.int _ _) (.cons (.int _ _) .nil))))
theorem Un.pure(x:Un):eW x.cells:=.cons (.map fun y _=>y.pure) (.cons (.map fun y _=>y.pure) .nil)
def sD:=@Un.pure
theorem FZ{a b:List Int}(h:(a.map fun n=>[AV.int .i64 n])=b.map fun n=>[AV.int .i64 n]):a=b:=zfO (fun x _ y e=>xy) h
theorem Nd.inj{x y:Nd}(h:x.cells=y.cells):x=y:=by
 obtain⟨n,p,k⟩:=x;obtain⟨o,C,k'⟩:=y;simp only[Nd.cells,cR,AV.int.injEq,AV.lst.injEq,fR,aX]at h;rw[h.1,h.2.1,FZ h.2.2]
def nl:=@Nd.inj
theorem Gr.inj{x y:Gr}(h:x.cells=y.cells):x=y:=by
 obtain⟨n,p,l,v,s⟩:=x;obtain⟨Y,C,K,F,J⟩:=y;simp only[Gr.cells,cR,AV.int.injEq,AV.str.injEq,AV.lst.injEq,fR,aX]at h;obtain⟨i,g,o,U,Z⟩:=h;rw[i,g,zfO (fun _ _ _=>nl) o,U,Z]
theorem Un.inj{x y:Un}(h:x.cells=y.cells):x=y:=by
 obtain⟨n,p⟩:=x;obtain⟨o,C⟩:=y;simp only[Un.cells,cR,AV.lst.injEq,fR,aX]at h;rw[zfO (fun _ _ _=>Ar.inj) h.1,zfO (fun _ _ _=>Gr.inj) h.2]
def lK(n:Int):Bool:=(decide (97<=n)&&decide (n<=122))||(decide (65<=n)&&decide (n<=90))||decide (n=95)
def kq(n:Int):Bool:=decide (48<=n)&&decide (n<=57)
def iP(b:UInt8):Bool:=lK b.toNat||kq b.toNat
def zeR:List UInt8->Nat
 |[]=>0
 |b::s=>if iP b then zeR s+1 else 0
theorem F0:∀s:List UInt8,zeR s<=s.length
 |[]=>aM _
 |b::s=>by have:=F0 s;simp only[zeR,dq];split<;>omega
def hB:List UInt8->Nat
 |[]=>0
 |b::s=>if b.toNat=10 then 0 else hB s+1
theorem F2:∀s:List UInt8,hB s<=s.length
 |[]=>aM _
 |b::s=>by have:=F2 s;simp only[hB,dq];split<;>omega
def j3(b:UInt8):Bool:=decide (b.toNat=32)||decide (b.toNat=9)||decide (b.toNat=10)||decide (b.toNat=13)
def zeS:Bool->List UInt8->Nat
 |_,[]=>0
 |true,b::s=>if b.toNat=10 then (if j3 b then zeS false s+1 else 0)else zeS true s+1
 |false,b::s=>if j3 b then zeS false s+1 else if b.toNat=35 then zeS true s+1 else 0
theorem F8:∀s:List UInt8,zeS true s=hB s+zeS false (s.drop (hB s))
 |[]=>rfl
 |b::s=>by
  simp only[zeS,hB];by_cases h:b.toNat=10
  .have z:j3 b=true:=by unfold j3;simp[h]
   simp[h,z,zeS]
  .simp only[h,cn,uM,F8 s];omega
theorem sE:∀(c:Bool) (s:List UInt8),zeS c s<=s.length
 |c,[]=>by cases c<;>exact aM _
 |true,b::s=>by have i:=sE true s;have g:=sE false s;simp only[zeS,dq];split<;>(try split)<;>omega
 |false,b::s=>by have i:=sE true s;have g:=sE false s;simp only[zeS,dq];split<;>(try split)<;>omega
def F9(s:List UInt8)(k:Tk)(e:Int):Prop:=
 k.at_=0/\(e=0->∃n,1<=n/\n<=s.length/\k.text=s.take n/\(k.kind=1->n=zeR s/\n<=16/\∀b,s[0]?=some b->kq b.toNat=false)) /\
 (1<=zeR s->zeR s<=16->(∀b,s[0]?=some b->kq b.toNat=false)->e=0/\k=⟨1,s.take (zeR s),0⟩)
def po(s:List UInt8):Prop:=1<=zeR s/\zeR s=s.length/\s.length<=16/\∀b,s[0]?=some b->kq b.toNat=false
def xD(s:List UInt8)(K:List Tk):Prop:=∀k J,K=k::J->∃zex,F9 (s.drop (zeS false s)) zex 0/\k.kind=zex.kind/\k.text=zex.text
def sF(lo:Nat)(H:Hp)(j:AV)(K:List Tk):Prop:=(K=[]/\j=.nilS)\/∃r,j=.sl r 0 K.length 3/\H.get r=some (.cells (K.flatMap Tk.cells) 0 true)/\lo<r/\r<H.next/\K≠[]
theorem Xe{s:List UInt8}(h:po s):zeS false s=0:=by
 obtain⟨i,g,o,U⟩:=h;cases s with
 |nil=>rfl
 |cons b s=>
  have hd:=U b rfl;simp only[zeR]at i;have J:iP b=true:=by
   cases z:iP b with
   |true=>rfl
   |false=>rw[z]at i;simp at i
  simp only[iP,hd,jO]at J;have C:j3 b=false:=by
   unfold j3;simp only[lK,oc,j4]at J;simp;omega
  have L:¬b.toNat=35:=by
   simp only[lK,oc,j4]at J;omega
  simp only[zeS,C,cC,cn,L]
theorem Ga:∀ts:List Tk,(ts.flatMap Tk.cells).length=ts.length*3
 |[]=>rfl
 |t::ts=>by rw[pm,ep,Ga ts,Tk.clen,dq];omega
theorem FrB.kill{base r:Nat}{a b:Hp}(h:FrB base a b)(hr:a.next<=r):FrB base a (b.kill r):=⟨h.next,fun k i g=>by
 rw[zff,ai ac];exact h.get k i g⟩
def je(s:List UInt8):Bool:=decide (1<=zeR s)&&decide (zeR s=s.length)&&decide (s.length<=16)&&(match s with|b::_=>!kq b.toNat|[]=>true)
theorem xE(s:List UInt8):je s=true↔po s:=by
 unfold je po;cases s with
 |nil=>simp[zeR]
 |cons b s=>simp[and_assoc]
def pp(s:List UInt8):Bool:=decide (s=[97,114,114,97,121])||decide (s=[102,117,110,99])||decide (s=[118,97,114])||decide (s=[114,101,116,117,114,110])||decide (s=[105,102])||decide (s=[101,108,115,101])||decide (s=[119,104,105,108,101])||decide (s=[111,117,116])||decide (s=[116,114,97,112])
def zd8(s:List UInt8):Bool:=je s && !pp s
theorem Xf{s:List UInt8}{k:Tk}{J:List Tk}(h:xD s (k::J))(j:k.kind=1)(V:k.text=s):po s:=by
 obtain⟨zex,i,g,o⟩:=h k J rfl;obtain⟨n,n1,K,I,m⟩:=i.2.1 rfl;obtain⟨U,O,Y⟩:=m (by rw[<-g];exact j);rw[<-o,V]at I;have F:=kL List.length I;rw[iX,iD]at F;rw[iD]at K;have Z:zeS false s=0:=ac;rw[Z,dY]at U Y;have M:n=s.length:=ac;exact⟨ac,ac,ac,Y⟩
end Go.Ab
