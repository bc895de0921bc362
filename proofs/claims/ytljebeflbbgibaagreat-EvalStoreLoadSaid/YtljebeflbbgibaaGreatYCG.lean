/- Parts: Rules, Lex. -/
import Derived.Test.YtljebeflbbgibaaGreatYCF
set_option linter.unusedSimpArgs false
set_option linter.unusedVariables false
set_option linter.unusedSectionVars false
set_option linter.defProp false
set_option maxHeartbeats 32000000
namespace Go.Ab
set_option maxRecDepth 20000
open Go
theorem xw{P:Prop}(h:P:=by first|(dsimp only[kG,qm];first|done|exact rfl)|(dsimp only[];first|done|exact rfl)|exact rfl):P:=h
theorem sF{P:Prop}(h:P:=by first|(dsimp only[zc5];first|done|exact rfl)|exact rfl):P:=h
theorem dr{P:Prop}(h:P:=by ((first|simp only[zc3,Nat.reduceBEq,ne_eq,not_false_eq_true, *,-hK]|simp only[zc3,Nat.reduceBEq,ne_eq,not_false_eq_true, *]|skip);first|done|with_reducible rfl)):P:=h
theorem gT{P:Prop}(h:P:=by ((first|simp only[zc3,zde,tyF,Nat.reduceBEq,Nat.reduceAdd,Nat.reduceLeDiff,ne_eq,not_false_eq_true, *,-hK]|simp only[zc3,zde,tyF,Nat.reduceBEq,Nat.reduceAdd,Nat.reduceLeDiff,ne_eq,not_false_eq_true, *]|skip);first|done|with_reducible rfl)):P:=h
theorem sG{P:Prop}(h:P:=by ((try simp only[zc6,zdm,zdK,Nat.add_assoc,Nat.reduceAdd,Nat.zero_add]);with_reducible rfl)):P:=h
theorem FL{P:Prop}(h:P:=by ((first|simp only[zc3,Nat.reduceBEq,zfa,ne_eq,not_false_eq_true, *,-hK]|simp only[zc3,Nat.reduceBEq,zfa,ne_eq,not_false_eq_true, *]|skip);first|done|with_reducible rfl)):P:=h
theorem FM{P:Prop}(h:P:=by ((first|simp only[zc3,Nat.reduceBEq,zeM,List.cons_append,List.nil_append,ne_eq,not_false_eq_true, *,-hK]|simp only[zc3,Nat.reduceBEq,zeM,List.cons_append,List.nil_append,ne_eq,not_false_eq_true, *]|skip);first|done|with_reducible rfl)):P:=h
theorem FN{P:Prop}(h:P:=by ((first|simp only[zc3,Nat.reduceBEq,ze4,ne_eq,not_false_eq_true, *,-hK]|simp only[zc3,Nat.reduceBEq,ze4,ne_eq,not_false_eq_true, *]|skip);first|done|with_reducible rfl)):P:=h
theorem dj{P:Prop}(h:P:=by ((first|simp only[zc3,Nat.reduceBEq,ne_eq,not_false_eq_true,decide_true,decide_false,Int.reduceEq,Int.reduceLE,Int.reduceToNat,Nat.mul_one, *,-hK]|simp only[zc3,Nat.reduceBEq,ne_eq,not_false_eq_true,decide_true,decide_false,Int.reduceEq,Int.reduceLE,Int.reduceToNat,Nat.mul_one, *]|skip);first|done|with_reducible rfl)):P:=h
theorem gU{P:Prop}(h:P:=by ((first|simp only[zc3,zde,tyF,Nat.reduceBEq,Nat.reduceAdd,Nat.reduceLeDiff,ne_eq,not_false_eq_true,decide_true,decide_false,Int.reduceEq,Int.reduceLE,Int.reduceToNat,Nat.mul_one, *,-hK]|simp only[zc3,zde,tyF,Nat.reduceBEq,Nat.reduceAdd,Nat.reduceLeDiff,ne_eq,not_false_eq_true,decide_true,decide_false,Int.reduceEq,Int.reduceLE,Int.reduceToNat,Nat.mul_one, *]|skip);first|done|with_reducible rfl)):P:=h
theorem FO{P:Prop}(h:P:=by ((first|simp only[zc3,Nat.reduceBEq,zfa,ne_eq,not_false_eq_true,decide_true,decide_false,Int.reduceEq,Int.reduceLE,Int.reduceToNat,Nat.mul_one, *,-hK]|simp only[zc3,Nat.reduceBEq,zfa,ne_eq,not_false_eq_true,decide_true,decide_false,Int.reduceEq,Int.reduceLE,Int.reduceToNat,Nat.mul_one, *]|skip);first|done|with_reducible rfl)):P:=h
theorem FP{P:Prop}(h:P:=by ((first|simp only[zc3,Nat.reduceBEq,zeM,List.cons_append,List.nil_append,ne_eq,not_false_eq_true,decide_true,decide_false,Int.reduceEq,Int.reduceLE,Int.reduceToNat,Nat.mul_one, *,-hK]|simp only[zc3,Nat.reduceBEq,zeM,List.cons_append,List.nil_append,ne_eq,not_false_eq_true,decide_true,decide_false,Int.reduceEq,Int.reduceLE,Int.reduceToNat,Nat.mul_one, *]|skip);first|done|with_reducible rfl)):P:=h
theorem FQ{P:Prop}(h:P:=by ((first|simp only[zc3,Nat.reduceBEq,ze4,ne_eq,not_false_eq_true,decide_true,decide_false,Int.reduceEq,Int.reduceLE,Int.reduceToNat,Nat.mul_one, *,-hK]|simp only[zc3,Nat.reduceBEq,ze4,ne_eq,not_false_eq_true,decide_true,decide_false,Int.reduceEq,Int.reduceLE,Int.reduceToNat,Nat.mul_one, *]|skip);first|done|with_reducible rfl)):P:=h
theorem Bh{P:Prop}(h:P:=by first|rfl|exact hplan _|(rw[hS.plan];rfl)):P:=h
def nY:=@List.cons_append
def uN:=@List.getElem?_cons_succ
def uO:=@List.drop_succ_cons
def jG:=@decide_eq_false_iff_not
def Bi:=@List.getElem?_nil
def jH:=@Bool.or_false
def oT:=@List.flatMap_cons
def FR:=And.intro @nY.{0} @lN.{0}
def cG:=And.intro FR @bB.{0}
end Go.Ab
namespace Go.Proofs.YtljebeflbbgibaaGreat
set_option maxRecDepth 20000
open Go Go.Ab
def zfB:=ad lj gR
def zfC:=ad @jz @jG
section
variable {P:Program} {cfg:Cfg} {f:FuncId} {l:List SOp} {E:aw} {H H':Hp} {Q:aw -> Hp -> Prop} {d:Nat} {v a b:AV} {x y:Operand} {t u:TypeId}
def bO(P:Program)(cfg:Cfg)(f:FuncId)(op:Op)(E:aw)(H:Hp)(v:AV)(H':Hp):Prop:=∃n,zd4 P cfg (ev P cfg n) f E H op=.val v H'
theorem bO.of{op:Op}(h:∀Q:aw->Hp->Prop,aC P cfg f [] (T.set E 0 (some v)) H' Q->aC P cfg f [⟨some 0,op,none⟩] E H Q):bO P cfg f op E H v H':=by
 have i:=h (fun M Z=>M.at 0=v/\Z=H') (aC.nil ⟨by rw[gN];rfl,rfl⟩);unfold aC at i;simp only[]at i;unfold fN at i;obtain⟨n,w,Z,g,m⟩:=i;unfold aC at m;obtain⟨U,rfl⟩:=m;have:(zc5 E (some 0) w).at 0=w:=Eb;rw[this]at U;exact⟨n,by rw[g,U]⟩
def cB:=@bO.of
theorem xy{op:Op}(h:∀Q:aw->Hp->Prop,aC P cfg f [] E H' Q->aC P cfg f [⟨none,op,none⟩] E H Q):∃v,bO P cfg f op E H v H':=by
 have i:=h (fun M Z=>Z=H') (aC.nil rfl);unfold aC at i;simp only[]at i;unfold fN at i;obtain⟨n,w,Z,g,m⟩:=i;unfold aC at m;subst m;exact⟨w,n,g⟩
theorem bO.go{op:Op}(j:aC P cfg f l (T.set E d (some v)) H' Q)(h:bO P cfg f op E H v H'):aC P cfg f (⟨some d,op,none⟩::l) E H Q:=by
 obtain⟨n,h⟩:=h;unfold aC;show fN _ _ _ _ _ _ _;unfold fN;exact⟨n,v,H',h,j⟩
theorem FS{op:Op}(j:aC P cfg f l E H' Q)(h:∃v,bO P cfg f op E H v H'):aC P cfg f (⟨none,op,none⟩::l) E H Q:=by
 obtain⟨v,n,h⟩:=h;unfold aC;show fN _ _ _ _ _ _ _;unfold fN;exact⟨n,v,H',h,j⟩
attribute [irreducible] bO
theorem zcP{A K:aw->Hp->Prop}{R:Prop}(h:R)(hK:∀E H,A E H->K E H:=by assumption)(e:A E H=R:=by exact xw):aC P cfg f [] E H K:=aC.nil (hK _ _ (e▸h))
theorem zdB{R:Prop}(h:R)(e:Q E H=R:=by first|(dsimp only[];first|done|exact rfl)|exact rfl):aC P cfg f [] E H Q:=aC.nil (e▸h)
theorem zdJ{V:List (Nat×Nat)}{j:List Rc}{A:aw->Hp->Prop}{K:List Rc->aw->Hp->Prop}{R:Prop}(h1:nV P cfg V j H)(h:R)(hK:∀j E' H',nV P cfg V j H'->A E' H'->K j E' H':=by assumption)(e:A E H=R:=by exact xw):dy P cfg f [] j E H K:=dy.nil (hK _ _ _ h1 (e▸h))
theorem Rx.k{g:FuncId}{z:List AV}{r:AV}{K:AV->Hp->Prop}{R:Prop}(c:zc2 P cfg g z H fun v H'=>v=r/\H'=H)(h:R)(e:K r H=R:=by exact sF):zc2 P cfg g z H K:=aZ (by rintro _ _ ⟨rfl,rfl⟩;exact e▸h) c
theorem Ox.mv(h:zcV E x=some v:=by exact dr):bO P cfg f (.move x) E H v H:=cB fun Q j=>aC.move h j
theorem Ox.as(h:zcV E x=some v:=by exact dr):bO P cfg f (.assign x) E H v H:=cB fun Q j=>aC.assign h j
theorem Ox.pk{z:Operand}{t:Bool}(h:zcV E x=some (.bool t):=by exact dr)(h1:zcV E y=some a:=by exact dr)(h2:zcV E z=some b:=by exact dr):bO P cfg f (.pick x y z) E H (il t a b) H:=cB fun Q j=>aC.pick h h1 h2 j
theorem Ox.ld(h:zcV E x=some a:=by exact dr)(h1:zep P H t a=some v:=by exact gT):bO P cfg f (.load t x) E H v H:=cB fun Q j=>aC.load h h1 j
theorem Ox.st(h:zcV E x=some a:=by exact dr)(h1:zcV E y=some b:=by exact dr)(h2:zeP P H t a b=some H':=by exact gT):∃v,bO P cfg f (.store t x y) E H v H':=xy fun Q j=>mI h h1 h2 j
theorem Ox.nc{r o:Nat}(h:zcV E x=some (.ptr r o):=by exact dr):bO P cfg f (.nilCheck x) E H (.ptr r o) H:=cB fun Q j=>aC.nilCheck h j
theorem Ox.bn{op:BinOp}(h:zcV E x=some a:=by exact dr)(h1:zcV E y=some b:=by exact dr)(h2:zdU P cfg.dec op t a b=some v:=by exact gT):bO P cfg f (.binOp op t x y u) E H v H:=cB fun Q j=>aC.bin h h1 h2 j
theorem Ox.un{op:UnOp}(h:zcV E x=some a:=by exact dr)(h2:nF op a=some v:=by exact gT):bO P cfg f (.unOp op t x) E H v H:=cB fun Q j=>aC.un h h2 j
theorem Ox.cv(h:zcV E x=some a:=by exact dr)(h2:ze3 P H t u a=some v:=by exact gT):bO P cfg f (.convert t u x) E H v H:=cB fun Q j=>aC.convert h h2 j
theorem Ox.fa{i:Nat}(h:zcV E x=some a:=by exact dr)(h2:zcZ P t a i=some v:=by exact gT):bO P cfg f (.fieldAddr t x i) E H v H:=cB fun Q j=>Es h h2 j
theorem Ox.fi{i:Nat}(h:zcV E x=some a:=by exact dr)(h2:zdf P t a i=some v:=by exact gT):bO P cfg f (.field t x i) E H v H:=cB fun Q j=>aC.field h h2 j
theorem Ox.ia(h:zcV E x=some a:=by exact dr)(h1:zcV E y=some b:=by exact dr)(h2:zdn P t a b=some v:=by exact gT):bO P cfg f (.indexAddr t x y) E H v H:=cB fun Q j=>Et h h1 h2 j
theorem Ox.ix(h:zcV E x=some a:=by exact dr)(h1:zcV E y=some b:=by exact dr)(h2:lM P t a b=some v:=by exact gT):bO P cfg f (.index t x y) E H v H:=cB fun Q j=>aC.index h h1 h2 j
theorem Ox.ex{i:Nat}(h:zcV E x=some a:=by exact dr)(h2:Ab.extract a i=some v:=by exact gT):bO P cfg f (.extract x i) E H v H:=cB fun Q j=>aC.extract h h2 j
theorem Ox.al{z:List AV}{n:Nat}(h:zdq P t=some z:=by exact gT)(o:some H.next=some n:=by exact sG):bO P cfg f (.alloc t) E H (.ptr n 0) (H.alloc (.cells z 0 true)):=cB fun Q j=>aC.alloc h o j
theorem Ox.bx{cs:List AV}{n:Nat}(h:zcV E x=some a:=by exact dr)(O:some a.cells=some cs:=by exact gT)(o:some H.next=some n:=by exact sG):bO P cfg f (.box t x) E H (.ptr n 0) (H.alloc (.cells cs 0 true)):=cB fun Q j=>aC.box h O o j
theorem Ox.bd{i:Array (Nat×Operand)}{ps:List (Nat×AV)}(h:zfa E i.toList=some ps:=by exact FL)(h2:zeb P t ps=some v:=by exact gT):bO P cfg f (.build t i) E H v H:=cB fun Q j=>aC.build h h2 j
theorem Ox.bs{n:Nat}{i:Array (Nat×Operand)}{ps:List (Nat×AV)}(h:zfa E i.toList=some ps:=by exact FL)(h2:zej P H t n ps=some (v,H'):=by exact gT):bO P cfg f (.buildSlice t n i) E H v H':=cB fun Q j=>Eu h h2 j
theorem Ox.mm{n:Nat}(o:some H.next=some n:=by exact sG):bO P cfg f (.makeMap t none) E H (.map n) (H.alloc (.map [])):=cB fun Q j=>aC.makeMap o j
theorem Ox.ms(h:zcV E x=some a:=by exact dr)(h1:zcV E y=some b:=by exact dr)(h2:zeA P H t a b=some (v,H'):=by exact gT):bO P cfg f (.makeSlice t x y) E H v H':=cB fun Q j=>Ew h h1 h2 j
theorem Ox.lu{ok:Bool}(h:zcV E x=some a:=by exact dr)(h1:zcV E y=some b:=by exact dr)(h2:zeY P H t a b ok=some v:=by exact gT):bO P cfg f (.lookup t x y ok) E H v H:=cB fun Q j=>aC.lookup h h1 h2 j
theorem Ox.mu{z:Operand}{c:AV}(h:zcV E x=some a:=by exact dr)(h1:zcV E y=some b:=by exact dr)(h2:zcV E z=some c:=by exact dr)(m:zfl P H t a b c=some H':=by exact gT):∃v,bO P cfg f (.mapUpdate t x y z) E H v H':=xy fun Q j=>Ev h h1 h2 m j
theorem Ox.mf{g:FuncId}{cap:Array Operand}{vs:List AV}(h:zeM E cap.toList=some vs:=by exact FM):bO P cfg f (.makeFunc (.func g) #[] cap) E H (.clo g vs) H:=cB fun Q j=>aC.makeFunc h j
theorem Ox.sl{lo C:Option Operand}{O L:Option AV}(h:zcV E x=some a:=by exact dr)(h1:ze4 E lo=some O:=by exact FN)(h2:ze4 E C=some L:=by exact FN)(m:kY P H t a O L=some v:=by exact gT):bO P cfg f (.slice t x lo C none) E H v H:=cB fun Q j=>aC.slice h h1 h2 m j
theorem Ox.ln{c:AV}(h:zcV E x=some a:=by exact dr)(h1:zdu P H t a=some c:=by exact gT):bO P cfg f (.call ⟨.builtin .len,#[x],#[t]⟩) E H c H:=cB fun Q j=>aC.len h h1 j
theorem Ox.ap(h:zcV E x=some a:=by exact dr)(h1:zcV E y=some b:=by exact dr)(h2:zen P (cfg.keep f) H t u a b=some (v,H'):=by exact gT):bO P cfg f (.call ⟨.builtin .append,#[x,y],#[t,u]⟩) E H v H':=cB fun Q j=>nQ h h1 h2 j
theorem Ox.mi{O:Array TypeId}{k Z:IntKind}{M z:Int}(h:zcV E x=some (.int k M):=by exact dr)(h1:zcV E y=some (.int Z z):=by exact dr):bO P cfg f (.call ⟨.builtin .min,#[x,y],O⟩) E H (.int k (min M z)) H:=cB fun Q j=>aC.min2 h h1 j
theorem Ox.ma{O:Array TypeId}{k Z:IntKind}{M z:Int}(h:zcV E x=some (.int k M):=by exact dr)(h1:zcV E y=some (.int Z z):=by exact dr):bO P cfg f (.call ⟨.builtin .max,#[x,y],O⟩) E H (.int k (max M z)) H:=cB fun Q j=>aC.max2 h h1 j
theorem Rx.o{op:Op}(j:aC P cfg f l (T.set E d (some v)) H' Q)(h:bO P cfg f op E H v H':=by first|apply(Ox.mv)|apply(Ox.as)|apply(Ox.pk)|apply(Ox.ld)|apply(Ox.nc)|apply(Ox.bn)|apply(Ox.un)|apply(Ox.cv)|apply(Ox.fa)|apply(Ox.fi)|apply(Ox.ia)|apply(Ox.ix)|apply(Ox.ex)|apply(Ox.al)|apply(Ox.bx)|apply(Ox.bd)|apply(Ox.bs)|apply(Ox.mm)|apply(Ox.ms)|apply(Ox.lu)|apply(Ox.mf)|apply(Ox.sl)|apply(Ox.ln)|apply(Ox.ap)|apply(Ox.mi)|apply(Ox.ma)):aC P cfg f (⟨some d,op,none⟩::l) E H Q:=bO.go j h
theorem Rx.on{op:Op}(j:aC P cfg f l E H' Q)(h:∃v,bO P cfg f op E H v H':=by first|apply(Ox.st)|apply(Ox.mu)):aC P cfg f (⟨none,op,none⟩::l) E H Q:=FS j h
def bE:=@Rx.on
theorem Rx.call{U:Option Nat}{c:Call}{g:Operand}{k:FuncId}{cap vs z:List AV}(j:zc2 P cfg k z H fun v H'=>aC P cfg f l (zc5 E U v) H' Q)(O:c.callee=.value g:=by rfl)(A:zcV E g=some (.clo k cap):=by exact dr)(L:zeM E c.args.toList=some vs:=by exact FM)(Z:vs++cap=z:=by simp only[cG];first|done|exact rfl):aC P cfg f (⟨U,.call c,none⟩::l) E H Q:=a4 O A L (Z▸j)
def i5:=@Rx.call
theorem Rx.gu{U:Option Nat}{op:Op}{s:Nat}{t:Bool}{v:AV}{R:Prop}(j:R)(h:some (E.at s)=some v:=by exact dr)(L:v=zd1:=by with_reducible rfl)(e:aC P cfg f l (zc5 E U zd1) H Q=R:=by exact sF):aC P cfg f (⟨U,op,some (s,t)⟩::l) E H Q:=Eo h L (e▸j)
def qG:=@Rx.gu
theorem Rx.gd{U:Option Nat}{op:Op}{s:Nat}{tb t:Bool}{Y Z z L R:Prop}(h1:Y->z->aC P cfg f (⟨U,op,none⟩::l) E H Q)(h2:Z->L->R)(h:E.at s=.bool t:=by exact dr)(W:(t=tb)=Y:=by(try simp only[zfB,reduceCtorEq]);first|done|exact rfl)(A:(t=!tb)=Z:=by(try simp only[zfB,reduceCtorEq]);first|done|exact rfl)(V:Y=z:=by(try simp only[zfC]);first|done|exact rfl)(o:Z=L:=by(try simp only[zfC]);first|done|exact rfl)(e:aC P cfg f l (zc5 E U zd1) H Q=R:=by exact sF):aC P cfg f (⟨U,op,some (s,tb)⟩::l) E H Q:=aC.guard h (fun k=>h1 (W▸k) (V▸W▸k)) (fun k=>e▸h2 (A▸k) (o▸A▸k))
def bW:=@Rx.gd
theorem Rx.cd{N:Nat}{C F:SC}{Q:AX->aw->Hp->Prop}{t:Bool}{Y Z z L:Prop}(h1:Y->z->zdr P cfg f N C E H Q)(h2:Z->L->zdr P cfg f N F E H Q)(V:zcV E x=some (.bool t):=by exact dr)(W:(t=true)=Y:=by(try simp only[zfB,reduceCtorEq]);first|done|exact rfl)(A:(t=false)=Z:=by(try simp only[zfB,reduceCtorEq]);first|done|exact rfl)(U:Y=z:=by(try simp only[zfC]);first|done|exact rfl)(o:Z=L:=by(try simp only[zfC]);first|done|exact rfl):zdr P cfg f N (.cond x C F) E H Q:=zdr.cond V (fun k=>h1 (W▸k) (U▸W▸k)) (fun k=>h2 (A▸k) (o▸A▸k))
def aU:=@Rx.cd
theorem Oy.mv(h:zcV E x=some v:=by exact dj):bO P cfg f (.move x) E H v H:=cB fun Q j=>aC.move h j
theorem Oy.as(h:zcV E x=some v:=by exact dj):bO P cfg f (.assign x) E H v H:=cB fun Q j=>aC.assign h j
theorem Oy.pk{z:Operand}{t:Bool}(h:zcV E x=some (.bool t):=by exact dj)(h1:zcV E y=some a:=by exact dj)(h2:zcV E z=some b:=by exact dj):bO P cfg f (.pick x y z) E H (il t a b) H:=cB fun Q j=>aC.pick h h1 h2 j
theorem Oy.ld(h:zcV E x=some a:=by exact dj)(h1:zep P H t a=some v:=by exact gU):bO P cfg f (.load t x) E H v H:=cB fun Q j=>aC.load h h1 j
theorem Oy.st(h:zcV E x=some a:=by exact dj)(h1:zcV E y=some b:=by exact dj)(h2:zeP P H t a b=some H':=by exact gU):∃v,bO P cfg f (.store t x y) E H v H':=xy fun Q j=>mI h h1 h2 j
theorem Oy.nc{r o:Nat}(h:zcV E x=some (.ptr r o):=by exact dj):bO P cfg f (.nilCheck x) E H (.ptr r o) H:=cB fun Q j=>aC.nilCheck h j
theorem Oy.bn{op:BinOp}(h:zcV E x=some a:=by exact dj)(h1:zcV E y=some b:=by exact dj)(h2:zdU P cfg.dec op t a b=some v:=by exact gU):bO P cfg f (.binOp op t x y u) E H v H:=cB fun Q j=>aC.bin h h1 h2 j
theorem Oy.un{op:UnOp}(h:zcV E x=some a:=by exact dj)(h2:nF op a=some v:=by exact gU):bO P cfg f (.unOp op t x) E H v H:=cB fun Q j=>aC.un h h2 j
theorem Oy.cv(h:zcV E x=some a:=by exact dj)(h2:ze3 P H t u a=some v:=by exact gU):bO P cfg f (.convert t u x) E H v H:=cB fun Q j=>aC.convert h h2 j
theorem Oy.fa{i:Nat}(h:zcV E x=some a:=by exact dj)(h2:zcZ P t a i=some v:=by exact gU):bO P cfg f (.fieldAddr t x i) E H v H:=cB fun Q j=>Es h h2 j
theorem Oy.fi{i:Nat}(h:zcV E x=some a:=by exact dj)(h2:zdf P t a i=some v:=by exact gU):bO P cfg f (.field t x i) E H v H:=cB fun Q j=>aC.field h h2 j
theorem Oy.ia(h:zcV E x=some a:=by exact dj)(h1:zcV E y=some b:=by exact dj)(h2:zdn P t a b=some v:=by exact gU):bO P cfg f (.indexAddr t x y) E H v H:=cB fun Q j=>Et h h1 h2 j
theorem Oy.ix(h:zcV E x=some a:=by exact dj)(h1:zcV E y=some b:=by exact dj)(h2:lM P t a b=some v:=by exact gU):bO P cfg f (.index t x y) E H v H:=cB fun Q j=>aC.index h h1 h2 j
theorem Oy.ex{i:Nat}(h:zcV E x=some a:=by exact dj)(h2:Ab.extract a i=some v:=by exact gU):bO P cfg f (.extract x i) E H v H:=cB fun Q j=>aC.extract h h2 j
theorem Oy.al{z:List AV}{n:Nat}(h:zdq P t=some z:=by exact gU)(o:some H.next=some n:=by exact sG):bO P cfg f (.alloc t) E H (.ptr n 0) (H.alloc (.cells z 0 true)):=cB fun Q j=>aC.alloc h o j
theorem Oy.bx{cs:List AV}{n:Nat}(h:zcV E x=some a:=by exact dj)(O:some a.cells=some cs:=by exact gU)(o:some H.next=some n:=by exact sG):bO P cfg f (.box t x) E H (.ptr n 0) (H.alloc (.cells cs 0 true)):=cB fun Q j=>aC.box h O o j
theorem Oy.bd{i:Array (Nat×Operand)}{ps:List (Nat×AV)}(h:zfa E i.toList=some ps:=by exact FO)(h2:zeb P t ps=some v:=by exact gU):bO P cfg f (.build t i) E H v H:=cB fun Q j=>aC.build h h2 j
theorem Oy.bs{n:Nat}{i:Array (Nat×Operand)}{ps:List (Nat×AV)}(h:zfa E i.toList=some ps:=by exact FO)(h2:zej P H t n ps=some (v,H'):=by exact gU):bO P cfg f (.buildSlice t n i) E H v H':=cB fun Q j=>Eu h h2 j
theorem Oy.mm{n:Nat}(o:some H.next=some n:=by exact sG):bO P cfg f (.makeMap t none) E H (.map n) (H.alloc (.map [])):=cB fun Q j=>aC.makeMap o j
theorem Oy.ms(h:zcV E x=some a:=by exact dj)(h1:zcV E y=some b:=by exact dj)(h2:zeA P H t a b=some (v,H'):=by exact gU):bO P cfg f (.makeSlice t x y) E H v H':=cB fun Q j=>Ew h h1 h2 j
theorem Oy.lu{ok:Bool}(h:zcV E x=some a:=by exact dj)(h1:zcV E y=some b:=by exact dj)(h2:zeY P H t a b ok=some v:=by exact gU):bO P cfg f (.lookup t x y ok) E H v H:=cB fun Q j=>aC.lookup h h1 h2 j
theorem Oy.mu{z:Operand}{c:AV}(h:zcV E x=some a:=by exact dj)(h1:zcV E y=some b:=by exact dj)(h2:zcV E z=some c:=by exact dj)(m:zfl P H t a b c=some H':=by exact gU):∃v,bO P cfg f (.mapUpdate t x y z) E H v H':=xy fun Q j=>Ev h h1 h2 m j
theorem Oy.mf{g:FuncId}{cap:Array Operand}{vs:List AV}(h:zeM E cap.toList=some vs:=by exact FP):bO P cfg f (.makeFunc (.func g) #[] cap) E H (.clo g vs) H:=cB fun Q j=>aC.makeFunc h j
theorem Oy.sl{lo C:Option Operand}{O L:Option AV}(h:zcV E x=some a:=by exact dj)(h1:ze4 E lo=some O:=by exact FQ)(h2:ze4 E C=some L:=by exact FQ)(m:kY P H t a O L=some v:=by exact gU):bO P cfg f (.slice t x lo C none) E H v H:=cB fun Q j=>aC.slice h h1 h2 m j
theorem Oy.ln{c:AV}(h:zcV E x=some a:=by exact dj)(h1:zdu P H t a=some c:=by exact gU):bO P cfg f (.call ⟨.builtin .len,#[x],#[t]⟩) E H c H:=cB fun Q j=>aC.len h h1 j
theorem Oy.ap(h:zcV E x=some a:=by exact dj)(h1:zcV E y=some b:=by exact dj)(h2:zen P (cfg.keep f) H t u a b=some (v,H'):=by exact gU):bO P cfg f (.call ⟨.builtin .append,#[x,y],#[t,u]⟩) E H v H':=cB fun Q j=>nQ h h1 h2 j
theorem Oy.mi{O:Array TypeId}{k Z:IntKind}{M z:Int}(h:zcV E x=some (.int k M):=by exact dj)(h1:zcV E y=some (.int Z z):=by exact dj):bO P cfg f (.call ⟨.builtin .min,#[x,y],O⟩) E H (.int k (min M z)) H:=cB fun Q j=>aC.min2 h h1 j
theorem Oy.ma{O:Array TypeId}{k Z:IntKind}{M z:Int}(h:zcV E x=some (.int k M):=by exact dj)(h1:zcV E y=some (.int Z z):=by exact dj):bO P cfg f (.call ⟨.builtin .max,#[x,y],O⟩) E H (.int k (max M z)) H:=cB fun Q j=>aC.max2 h h1 j
theorem Ry.o{op:Op}(j:aC P cfg f l (T.set E d (some v)) H' Q)(h:bO P cfg f op E H v H':=by first|apply(Oy.mv)|apply(Oy.as)|apply(Oy.pk)|apply(Oy.ld)|apply(Oy.nc)|apply(Oy.bn)|apply(Oy.un)|apply(Oy.cv)|apply(Oy.fa)|apply(Oy.fi)|apply(Oy.ia)|apply(Oy.ix)|apply(Oy.ex)|apply(Oy.al)|apply(Oy.bx)|apply(Oy.bd)|apply(Oy.bs)|apply(Oy.mm)|apply(Oy.ms)|apply(Oy.lu)|apply(Oy.mf)|apply(Oy.sl)|apply(Oy.ln)|apply(Oy.ap)|apply(Oy.mi)|apply(Oy.ma)):aC P cfg f (⟨some d,op,none⟩::l) E H Q:=bO.go j h
theorem Ry.on{op:Op}(j:aC P cfg f l E H' Q)(h:∃v,bO P cfg f op E H v H':=by first|apply(Oy.st)|apply(Oy.mu)):aC P cfg f (⟨none,op,none⟩::l) E H Q:=FS j h
def bl:=@Ry.on
theorem Ry.call{U:Option Nat}{c:Call}{g:Operand}{k:FuncId}{cap vs z:List AV}(j:zc2 P cfg k z H fun v H'=>aC P cfg f l (zc5 E U v) H' Q)(O:c.callee=.value g:=by rfl)(A:zcV E g=some (.clo k cap):=by exact dj)(L:zeM E c.args.toList=some vs:=by exact FP)(Z:vs++cap=z:=by simp only[cG];first|done|exact rfl):aC P cfg f (⟨U,.call c,none⟩::l) E H Q:=a4 O A L (Z▸j)
def bq:=@Ry.call
theorem Ry.gu{U:Option Nat}{op:Op}{s:Nat}{t:Bool}{v:AV}{R:Prop}(j:R)(h:some (E.at s)=some v:=by exact dj)(L:v=zd1:=by with_reducible rfl)(e:aC P cfg f l (zc5 E U zd1) H Q=R:=by exact sF):aC P cfg f (⟨U,op,some (s,t)⟩::l) E H Q:=Eo h L (e▸j)
theorem Ry.gd{U:Option Nat}{op:Op}{s:Nat}{tb t:Bool}{Y Z z L R:Prop}(h1:Y->z->aC P cfg f (⟨U,op,none⟩::l) E H Q)(h2:Z->L->R)(h:E.at s=.bool t:=by exact dj)(W:(t=tb)=Y:=by(try simp only[zfB,reduceCtorEq]);first|done|exact rfl)(A:(t=!tb)=Z:=by(try simp only[zfB,reduceCtorEq]);first|done|exact rfl)(V:Y=z:=by(try simp only[zfC]);first|done|exact rfl)(o:Z=L:=by(try simp only[zfC]);first|done|exact rfl)(e:aC P cfg f l (zc5 E U zd1) H Q=R:=by exact sF):aC P cfg f (⟨U,op,some (s,tb)⟩::l) E H Q:=aC.guard h (fun k=>h1 (W▸k) (V▸W▸k)) (fun k=>e▸h2 (A▸k) (o▸A▸k))
def aT:=@Ry.gd
theorem mT{U:Option Nat}{op:Op}{s:Nat}{tb t:Bool}{j:List Rc}{Q:List Rc->aw->Hp->Prop}{Y Z z L R:Prop}(h1:Y->z->dy P cfg f (⟨U,op,none⟩::l) j E H Q)(h2:Z->L->R)(h:E.at s=.bool t:=by exact dj)(W:(t=tb)=Y:=by(try simp only[zfB,reduceCtorEq]);first|done|exact rfl)(A:(t=!tb)=Z:=by(try simp only[zfB,reduceCtorEq]);first|done|exact rfl)(V:Y=z:=by(try simp only[zfC]);first|done|exact rfl)(o:Z=L:=by(try simp only[zfC]);first|done|exact rfl)(e:dy P cfg f l (j++[⟨op,false,E,H,zd1,H⟩]) (zc5 E U zd1) H Q=R:=by exact sF):dy P cfg f (⟨U,op,some (s,tb)⟩::l) j E H Q:=dy.guard h (fun k=>h1 (W▸k) (V▸W▸k)) (fun k=>e▸h2 (A▸k) (o▸A▸k))
theorem Ry.cd{N:Nat}{C F:SC}{Q:AX->aw->Hp->Prop}{t:Bool}{Y Z z L:Prop}(h1:Y->z->zdr P cfg f N C E H Q)(h2:Z->L->zdr P cfg f N F E H Q)(V:zcV E x=some (.bool t):=by exact dj)(W:(t=true)=Y:=by(try simp only[zfB,reduceCtorEq]);first|done|exact rfl)(A:(t=false)=Z:=by(try simp only[zfB,reduceCtorEq]);first|done|exact rfl)(U:Y=z:=by(try simp only[zfC]);first|done|exact rfl)(o:Z=L:=by(try simp only[zfC]);first|done|exact rfl):zdr P cfg f N (.cond x C F) E H Q:=zdr.cond V (fun k=>h1 (W▸k) (U▸W▸k)) (fun k=>h2 (A▸k) (o▸A▸k))
def az:=@Ry.cd
theorem eE{p:Prop}(h:p:=by first|(simp only[zc3,Nat.reduceBEq, *];done)|rfl):p:=h
theorem zfO{p:Prop}(h:p:=by first|(simp only[zc3,zde,tyF,Nat.reduceBEq,Nat.reduceAdd,Nat.reduceLeDiff, *];done)|rfl):p:=h
theorem eV{p:Prop}(h:p:=by((try simp only[zc3,Nat.reduceBEq, *]);first|done|with_reducible rfl)):p:=h
theorem eW{p:Prop}(h:p:=by((try simp only[zc3,zde,tyF,Nat.reduceBEq,Nat.reduceAdd,Nat.reduceLeDiff, *]);first|done|with_reducible rfl)):p:=h
theorem zcU{p:Prop}(h:p:=by((try simp only[zc3,Nat.reduceBEq,zet,zeC, *]);first|done|with_reducible rfl)):p:=h
theorem dG{p:Prop}(h:p:=by((try simp only[zc3,zde,tyF,Nat.reduceBEq,Nat.reduceAdd,Nat.reduceLeDiff,zet,zeC, *]);first|done|with_reducible rfl)):p:=h
theorem a6{p:Prop}(h:p:=by((try simp only[zc3,Nat.reduceBEq, *,-hK]);first|done|with_reducible rfl)):p:=h
theorem a7{p:Prop}(h:p:=by((try simp only[zc3,Nat.reduceBEq,zeM,FR, *,-hK]);first|done|with_reducible rfl)):p:=h
theorem zcT{p:Prop}(h:p:=by first|exact .inl rfl|exact .inr rfl|exact .inl trivial|exact .inr trivial):p:=h
theorem eL{p:Prop}(h:p:=by simp only[zdh,zdb,a1,zc3,zde,tyF,Nat.reduceBEq,Nat.reduceAdd,Nat.reduceLeDiff, *]):p:=h
theorem eN{p:Prop}(h:p:=by(try simp only[zc6,zdm,zdK,bz,Nat.reduceAdd]);omega):p:=h
theorem zcR{N:Nat}{Q:AX->aw->Hp->Prop}{R:Prop}(h:R)(e:Q .normal E H=R:=by exact xw):zdr P cfg f N .skip E H Q:=zdr.skip (e▸h)
theorem Rx.rt{N:Nat}{Q:AX->aw->Hp->Prop}{R:Prop}(h:R)(e:Q .ret E H=R:=by exact xw):zdr P cfg f N .ret E H Q:=zdr.ret (e▸h)
def am:=@Rx.rt
theorem zc4{N id:Nat}{Q:AX->aw->Hp->Prop}{R:Prop}(h:R)(e:Q (.exit id) E H=R:=by first|(simp only[kG,qm,reduceIte];first|done|exact rfl)|(dsimp only[];first|done|exact rfl)|exact rfl):zdr P cfg f N (.exit id) E H Q:=zdr.exit (e▸h)
theorem zdj{p:Prop}(h:p:=by(refine⟨?_,?_⟩<;>simp only[lN,nY,gw,uN,oP,Bi,List.forall_mem_cons,zc6,zdm,aM,fM,a1]<;>(repeat' apply ad)<;>first
 |(intro r hr;cases hr;done)
 |(refine NW (by simp only[lN,nY,gw,uN,oP,Bi];rfl) (fun hd=>?_)
   simp only[uF,lN,nY,gw,uN,oP,Bi]at hd⊢;first
   |(cases hd;done)
   |exact NQ eV eW
   |exact NR eV eV eW
   |exact NS eV eW
   |exact NT eV eW
   |exact NU eV (by simp only[ze4];first|rfl|simp only[zc3,Nat.reduceBEq, *]) (by simp only[ze4];first|rfl|simp only[zc3,Nat.reduceBEq, *]) eW
   |exact NV rfl eW eW)
 |exact aM _
 |assumption
 |omega)):p:=h
variable {N:Nat} {ops:List Oper} {Q2:AX -> aw -> Hp -> Prop}
theorem zdG(id:Nat)(V:List (Nat×Nat))(h:∀K:List Rc->aw->Hp->Prop,(∀j E' H',nV P cfg V j H'->Q2 .normal E' H'->K j E' H')->dy P cfg f l [] E H K)(W:cfg.plan f id=.text:=by exact Bh)(Z:mq ops=true:=by kernel_rfl)(Y:zc9 N ops ops=some l:=by simp only[zc9,zdc,zdd,Nat.blt,Nat.ble];rfl)(o:k2 ops=V:=by kernel_rfl):zdr P cfg f N (.draw id ops) E H Q2:=NO W Z Y o h
theorem Rx.dP(id:Nat)(Y:List Nat)(V:List (Nat×Nat))(h:∀K:List Rc->aw->Hp->Prop,(∀j E' H',nV P cfg V j H'->Q2 .normal E' H'->K j E' H')->dy P cfg f l [] E H K)(W:cfg.plan f id=.perm Y:=by exact Bh)(z:tS Y ops=true:=by kernel_rfl)(Z:mq (zeH Y ops)=true:=by kernel_rfl)(U:zc9 N (zeH Y ops) (zeH Y ops)=some l:=by simp only[zeH,oG,List.filterMap_cons,List.filterMap_nil,uN,oP,zc9,zdc,zdd,Nat.blt,Nat.ble];rfl)(o:k2 (zeH Y ops)=V:=by kernel_rfl):zdr P cfg f N (.draw id ops) E H Q2:=NP W z Z U o h
theorem nZ(id:Nat)(h:∀K:aw->Hp->Prop,(∀E' H',Q2 .normal E' H'->K E' H')->aC P cfg f l E H K)(W:cfg.plan f id=.text:=by exact Bh)(V:w9 ops=true:=by kernel_rfl)(Z:zc9 N ops ops=some l:=by simp only[zc9,zdc,zdd,Nat.blt,Nat.ble];rfl):zdr P cfg f N (.draw id ops) E H Q2:=zdr.draw W V Z h
end
end Go.Proofs.YtljebeflbbgibaaGreat
namespace Go.Ab
set_option maxRecDepth 20000
open Go
def lz(n:Int):Bool:=(decide (97<=n)&&decide (n<=122))||(decide (65<=n)&&decide (n<=90))||decide (n=95)
def j0(n:Int):Bool:=decide (48<=n)&&decide (n<=57)
def iI(b:UInt8):Bool:=lz b.toNat||j0 b.toNat
def jh:List UInt8->Nat
 |[]=>0
 |b::s=>if iI b then jh s+1 else 0
theorem FT:∀s:List UInt8,jh s<=s.length
 |[]=>aM _
 |b::s=>by have:=FT s;simp only[jh,dl];split<;>omega
def gV:List UInt8->Nat
 |[]=>0
 |b::s=>if b.toNat=10 then 0 else gV s+1
theorem FU:∀s:List UInt8,gV s<=s.length
 |[]=>aM _
 |b::s=>by have:=FU s;simp only[gV,dl];split<;>omega
def ze2(b:UInt8):Bool:=decide (b.toNat=32)||decide (b.toNat=9)||decide (b.toNat=10)||decide (b.toNat=13)
def zel:Bool->List UInt8->Nat
 |_,[]=>0
 |true,b::s=>if b.toNat=10 then (if ze2 b then zel false s+1 else 0)else zel true s+1
 |false,b::s=>if ze2 b then zel false s+1 else if b.toNat=35 then zel true s+1 else 0
theorem FV:∀s:List UInt8,zel true s=gV s+zel false (s.drop (gV s))
 |[]=>rfl
 |b::s=>by
  simp only[zel,gV];by_cases h:b.toNat=10
  .have z:ze2 b=true:=by unfold ze2;simp[h]
   simp[h,z,zel]
  .simp only[h,cb,uO,FV s];omega
theorem sH:∀(c:Bool) (s:List UInt8),zel c s<=s.length
 |c,[]=>by cases c<;>exact aM _
 |true,b::s=>by have i:=sH true s;have g:=sH false s;simp only[zel,dl];split<;>(try split)<;>omega
 |false,b::s=>by have i:=sH true s;have g:=sH false s;simp only[zel,dl];split<;>(try split)<;>omega
def FW(s:List UInt8)(k:Tk)(e:Int):Prop:=
 k.at_=0/\(e=0->∃n,1<=n/\n<=s.length/\k.text=s.take n/\(k.kind=1->n=jh s/\n<=16/\∀b,s[0]?=some b->j0 b.toNat=false)) /\
 (1<=jh s->jh s<=16->(∀b,s[0]?=some b->j0 b.toNat=false)->e=0/\k=⟨1,s.take (jh s),0⟩)
def oU(s:List UInt8):Prop:=1<=jh s/\jh s=s.length/\s.length<=16/\∀b,s[0]?=some b->j0 b.toNat=false
def xz(s:List UInt8)(O:List Tk):Prop:=∀k J,O=k::J->∃zd3,FW (s.drop (zel false s)) zd3 0/\k.kind=zd3.kind/\k.text=zd3.text
def sI(lo:Nat)(H:Hp)(Z:AV)(O:List Tk):Prop:=(O=[]/\Z=.nilS)\/∃r,Z=.sl r 0 O.length 3/\H.get r=some (.cells (O.flatMap Tk.cells) 0 true)/\lo<r/\r<H.next/\O≠[]
theorem WK{s:List UInt8}(h:oU s):zel false s=0:=by
 obtain⟨i,g,m,U⟩:=h;cases s with
 |nil=>rfl
 |cons b s=>
  have hd:=U b rfl;simp only[jh]at i;have J:iI b=true:=by
   cases z:iI b with
   |true=>rfl
   |false=>rw[z]at i;simp at i
  simp only[iI,hd,jH]at J;have A:ze2 b=false:=by
   unfold ze2;simp only[lz,nP,kE]at J;simp;omega
  have I:¬b.toNat=35:=by
   simp only[lz,nP,kE]at J;omega
  simp only[zel,A,ct,cb,I]
theorem FX:∀ts:List Tk,(ts.flatMap Tk.cells).length=ts.length*3
 |[]=>rfl
 |t::ts=>by rw[oT,fv,FX ts,Tk.clen,dl];omega
theorem FrB.kill{base r:Nat}{a b:Hp}(h:FrB base a b)(hr:a.next<=r):FrB base a (b.kill r):=⟨h.next,fun k i g=>by
 rw[zeI,ah ac];exact h.get k i g⟩
def i6(s:List UInt8):Bool:=decide (1<=jh s)&&decide (jh s=s.length)&&decide (s.length<=16)&&(match s with|b::_=>!j0 b.toNat|[]=>true)
theorem xA(s:List UInt8):i6 s=true↔oU s:=by
 unfold i6 oU;cases s with
 |nil=>simp[jh]
 |cons b s=>simp[and_assoc]
def oV(s:List UInt8):Bool:=decide (s=[97,114,114,97,121])||decide (s=[102,117,110,99])||decide (s=[118,97,114])||decide (s=[114,101,116,117,114,110])||decide (s=[105,102])||decide (s=[101,108,115,101])||decide (s=[119,104,105,108,101])||decide (s=[111,117,116])||decide (s=[116,114,97,112])
def zdC(s:List UInt8):Bool:=i6 s && !oV s
theorem WL{s:List UInt8}{k:Tk}{J:List Tk}(h:xz s (k::J))(j:k.kind=1)(Z:k.text=s):oU s:=by
 obtain⟨zd3,i,g,m⟩:=h k J rfl;obtain⟨n,n1,M,K,L⟩:=i.2.1 rfl;obtain⟨Y,O,U⟩:=L (by rw[<-g];exact j);rw[<-m,Z]at K;have I:=kD List.length K;rw[iS,iw]at I;rw[iw]at M;have C:zel false s=0:=ac;rw[C,dW]at Y U;have o:n=s.length:=ac;exact⟨ac,ac,ac,U⟩
end Go.Ab
