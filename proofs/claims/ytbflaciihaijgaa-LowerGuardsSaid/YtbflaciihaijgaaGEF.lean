/- Lemmas for the last file. -/
import Derived.Test.YtbflaciihaijgaaGEE
set_option linter.all false
set_option maxHeartbeats 32000000
namespace Go.Ab
set_option maxRecDepth 20000
open Go
variable{qd:Prop}
def yf(h:qd:=by first|(dsimp only[lN,tB];first|done|exact rfl)|(dsimp only[];first|done|exact rfl)|exact rfl):=h
def tG(h:qd:=by first|(dsimp only[aI];first|done|exact rfl)|exact rfl):=h
def dd(h:qd:=by ((first|simp only[aM,Nat.reduceBEq,ne_eq,not_false_eq_true, *,-hK]|simp only[aM,Nat.reduceBEq,ne_eq,not_false_eq_true, *]|skip);first|done|with_reducible rfl)):=h
def gU(h:qd:=by ((first|simp only[aM,a0,tyF,Nat.reduceBEq,Nat.reduceAdd,Nat.reduceLeDiff,ne_eq,not_false_eq_true, *,-hK]|simp only[aM,a0,tyF,Nat.reduceBEq,Nat.reduceAdd,Nat.reduceLeDiff,ne_eq,not_false_eq_true, *]|skip);first|done|with_reducible rfl)):=h
def tH(h:qd:=by ((try simp only[bj,bJ,cL,Nat.add_assoc,Nat.reduceAdd,Nat.zero_add]);with_reducible rfl)):=h
def Fz(h:qd:=by ((first|simp only[aM,Nat.reduceBEq,iW,ne_eq,not_false_eq_true, *,-hK]|simp only[aM,Nat.reduceBEq,iW,ne_eq,not_false_eq_true, *]|skip);first|done|with_reducible rfl)):=h
def FA(h:qd:=by ((first|simp only[aM,Nat.reduceBEq,fA,List.cons_append,List.nil_append,ne_eq,not_false_eq_true, *,-hK]|simp only[aM,Nat.reduceBEq,fA,List.cons_append,List.nil_append,ne_eq,not_false_eq_true, *]|skip);first|done|with_reducible rfl)):=h
def FB(h:qd:=by ((first|simp only[aM,Nat.reduceBEq,iA,ne_eq,not_false_eq_true, *,-hK]|simp only[aM,Nat.reduceBEq,iA,ne_eq,not_false_eq_true, *]|skip);first|done|with_reducible rfl)):=h
def dc(h:qd:=by ((first|simp only[aM,Nat.reduceBEq,ne_eq,not_false_eq_true,decide_true,decide_false,Int.reduceEq,Int.reduceLE,Int.reduceToNat,Nat.mul_one, *,-hK]|simp only[aM,Nat.reduceBEq,ne_eq,not_false_eq_true,decide_true,decide_false,Int.reduceEq,Int.reduceLE,Int.reduceToNat,Nat.mul_one, *]|skip);first|done|with_reducible rfl)):=h
def gV(h:qd:=by ((first|simp only[aM,a0,tyF,Nat.reduceBEq,Nat.reduceAdd,Nat.reduceLeDiff,ne_eq,not_false_eq_true,decide_true,decide_false,Int.reduceEq,Int.reduceLE,Int.reduceToNat,Nat.mul_one, *,-hK]|simp only[aM,a0,tyF,Nat.reduceBEq,Nat.reduceAdd,Nat.reduceLeDiff,ne_eq,not_false_eq_true,decide_true,decide_false,Int.reduceEq,Int.reduceLE,Int.reduceToNat,Nat.mul_one, *]|skip);first|done|with_reducible rfl)):=h
def FC(h:qd:=by ((first|simp only[aM,Nat.reduceBEq,iW,ne_eq,not_false_eq_true,decide_true,decide_false,Int.reduceEq,Int.reduceLE,Int.reduceToNat,Nat.mul_one, *,-hK]|simp only[aM,Nat.reduceBEq,iW,ne_eq,not_false_eq_true,decide_true,decide_false,Int.reduceEq,Int.reduceLE,Int.reduceToNat,Nat.mul_one, *]|skip);first|done|with_reducible rfl)):=h
def FD(h:qd:=by ((first|simp only[aM,Nat.reduceBEq,fA,List.cons_append,List.nil_append,ne_eq,not_false_eq_true,decide_true,decide_false,Int.reduceEq,Int.reduceLE,Int.reduceToNat,Nat.mul_one, *,-hK]|simp only[aM,Nat.reduceBEq,fA,List.cons_append,List.nil_append,ne_eq,not_false_eq_true,decide_true,decide_false,Int.reduceEq,Int.reduceLE,Int.reduceToNat,Nat.mul_one, *]|skip);first|done|with_reducible rfl)):=h
def FE(h:qd:=by ((first|simp only[aM,Nat.reduceBEq,iA,ne_eq,not_false_eq_true,decide_true,decide_false,Int.reduceEq,Int.reduceLE,Int.reduceToNat,Nat.mul_one, *,-hK]|simp only[aM,Nat.reduceBEq,iA,ne_eq,not_false_eq_true,decide_true,decide_false,Int.reduceEq,Int.reduceLE,Int.reduceToNat,Nat.mul_one, *]|skip);first|done|with_reducible rfl)):=h
def BD(h:qd:=by first|rfl|exact hplan _|(rw[hS.bM];rfl)):=h
def FF(h:qd:=by show dR l g (enc x)=_;rw[W];exact QM V O):=h
def mJ:=@List.cons_append
def tI:=@List.getElem?_cons_succ
def yg:=@List.getElem?_cons_zero
def iL:=@decide_eq_false_iff_not
def BE:=@List.getElem?_nil
def BF:=@Classical.choose_spec
def ct:=@Nat.lt_succ_self
def yh:=And.intro @mJ.{0} @mZ.{0}
def aR:=And.intro yh @ij.{0}
end Go.Ab
namespace Go.Proofs.Ytbflaciihaijgaa
set_option maxRecDepth 20000
open Go Go.Ab
variable{J lo:Option Operand}{g z:Operand}{r i n s N:Nat}{cs vs:ql}{U:Array (Nat×Operand)}{c:AV}{O:qr}{Y W V p:Prop}{Z:IntKind}{m M:Int}{C:qD}{tb:Bool}{L:SC}
def nC:=ad nh lM
def nD:=ad @ji @iL
section
variable {P:Program} {cfg:Cfg} {f:FuncId} {l:List SOp} {E:ax} {H H':Hp} {Q:ax -> Hp -> Prop} {d:Nat} {v a b:AV} {x y:Operand} {t u:TypeId}
def bV(P:Program)(cfg:Cfg)(f:FuncId)(op:Op)(E:ax)(H:Hp)(v:AV)(H':Hp):Prop:=∃n,cZ P cfg (cI P cfg n) f E H op=.val v H'
def bV.of{op:Op}(h:∀Q:ax->Hp->Prop,aA P cfg f [] (T.set E 0 (some v)) H' Q->aA P cfg f [⟨some 0,op,none⟩] E H Q):bV P cfg f op E H v H':=by
 have o:=h (fun m U=>m.at 0=v/\U=H') (aA.nil ⟨by rw[gO];rfl,rfl⟩);unfold aA at o;simp only[]at o;unfold fE at o;obtain⟨n,w,U,Y,I⟩:=o;unfold aA at I;obtain⟨Z,rfl⟩:=I;have:(aI E (some 0) w).at 0=w:=Ej;rw[this]at Z;exact⟨n,by rw[Y,Z]⟩
def cD:=@bV.of
def yj{op:Op}(h:∀Q:ax->Hp->Prop,aA P cfg f [] E H' Q->aA P cfg f [⟨none,op,none⟩] E H Q):∃v,bV P cfg f op E H v H':=by
 have o:=h (fun Z U=>U=H') (aA.nil rfl);unfold aA at o;simp only[]at o;unfold fE at o;obtain⟨n,w,U,m,I⟩:=o;unfold aA at I;subst I;exact⟨w,n,m⟩
def bV.go{op:Op}(z:aA P cfg f l (T.set E d (some v)) H' Q)(h:bV P cfg f op E H v H'):aA P cfg f (⟨some d,op,none⟩::l) E H Q:=by
 obtain⟨n,h⟩:=h;unfold aA;show fE _ _ _ _ _ _ _;unfold fE;exact⟨n,v,H',h,z⟩
def FG{op:Op}(z:aA P cfg f l E H' Q)(h:∃v,bV P cfg f op E H v H'):aA P cfg f (⟨none,op,none⟩::l) E H Q:=by
 obtain⟨v,n,h⟩:=h;unfold aA;show fE _ _ _ _ _ _ _;unfold fE;exact⟨n,v,H',h,z⟩
attribute [irreducible] bV
def Rx.nl{J K:ax->Hp->Prop}{R:Prop}(h:R)(hK:∀E H,J E H->K E H:=by assumption)(e:J E H=R:=by exact yf):aA P cfg f [] E H K:=aA.nil (hK _ _ (e▸h))
def aj:=@Rx.nl
def aV{R:Prop}(h:R)(e:Q E H=R:=by first|(dsimp only[];first|done|exact rfl)|exact rfl):aA P cfg f [] E H Q:=aA.nil (e▸h)
def aW{U:qI}{C:List Rc}{J:ax->Hp->Prop}{K:List Rc->ax->Hp->Prop}{R:Prop}(h1:oD P cfg U C H)(h:R)(hK:∀C E' H',oD P cfg U C H'->J E' H'->K C E' H':=by assumption)(e:J E H=R:=by exact yf):dg P cfg f [] C E H K:=dg.nil (hK _ _ _ h1 (e▸h))
def Rx.k{g:FuncId}{ar:ql}{r:AV}{K:AV->Hp->Prop}{R:Prop}(c:aX P cfg g ar H fun v H'=>v=r/\H'=H)(h:R)(e:K r H=R:=by exact tG):aX P cfg g ar H K:=aL (by rintro _ _ ⟨rfl,rfl⟩;exact e▸h) c
def Ox.mv(h:aH E x=some v:=by exact dd):bV P cfg f (.move x) E H v H:=cD fun Q z=>aA.move h z
def Ox.as(h:aH E x=some v:=by exact dd):bV P cfg f (.assign x) E H v H:=cD fun Q z=>aA.assign h z
def Ox.pk{t:Bool}(h:aH E x=some (.bool t):=by exact dd)(h1:aH E y=some a:=by exact dd)(h2:aH E z=some b:=by exact dd):bV P cfg f (.pick x y z) E H (iV t a b) H:=cD fun Q Z=>aA.pick h h1 h2 Z
def Ox.ld(h:aH E x=some a:=by exact dd)(h1:eR P H t a=some v:=by exact gU):bV P cfg f (.load t x) E H v H:=cD fun Q z=>aA.load h h1 z
def Ox.st(h:aH E x=some a:=by exact dd)(h1:aH E y=some b:=by exact dd)(h2:ky P H t a b=some H':=by exact gU):∃v,bV P cfg f (.store t x y) E H v H':=yj fun Q z=>Be h h1 h2 z
def Ox.nc{o:Nat}(h:aH E x=some (.ptr r o):=by exact dd):bV P cfg f (.nilCheck x) E H (.ptr r o) H:=cD fun Q z=>aA.nilCheck h z
def Ox.bn{op:BinOp}(h:aH E x=some a:=by exact dd)(h1:aH E y=some b:=by exact dd)(h2:dw P cfg.b9 op t a b=some v:=by exact gU):bV P cfg f (.binOp op t x y u) E H v H:=cD fun Q z=>aA.bT h h1 h2 z
def Ox.un{op:UnOp}(h:aH E x=some a:=by exact dd)(h2:ph op a=some v:=by exact gU):bV P cfg f (.unOp op t x) E H v H:=cD fun Q z=>aA.un h h2 z
def Ox.cv(h:aH E x=some a:=by exact dd)(h2:fB P H t u a=some v:=by exact gU):bV P cfg f (.convert t u x) E H v H:=cD fun Q z=>aA.convert h h2 z
def Ox.fa(h:aH E x=some a:=by exact dd)(h2:o0 P t a i=some v:=by exact gU):bV P cfg f (.fieldAddr t x i) E H v H:=cD fun Q z=>Er h h2 z
def Ox.fi(h:aH E x=some a:=by exact dd)(h2:ry P t a i=some v:=by exact gU):bV P cfg f (.field t x i) E H v H:=cD fun Q z=>aA.field h h2 z
def Ox.ia(h:aH E x=some a:=by exact dd)(h1:aH E y=some b:=by exact dd)(h2:dZ P t a b=some v:=by exact gU):bV P cfg f (.indexAddr t x y) E H v H:=cD fun Q z=>Es h h1 h2 z
def Ox.ix(h:aH E x=some a:=by exact dd)(h1:aH E y=some b:=by exact dd)(h2:mr P t a b=some v:=by exact gU):bV P cfg f (.index t x y) E H v H:=cD fun Q z=>aA.index h h1 h2 z
def Ox.ex(h:aH E x=some a:=by exact dd)(h2:Ab.extract a i=some v:=by exact gU):bV P cfg f (.extract x i) E H v H:=cD fun Q z=>aA.extract h h2 z
def Ox.al{z:ql}(h:cj P t=some z:=by exact gU)(M:some H.next=some n:=by exact tH):bV P cfg f (.alloc t) E H (.ptr n 0) (H.alloc (.cells z 0 true)):=cD fun Q Z=>aA.alloc h M Z
def Ox.bx(h:aH E x=some a:=by exact dd)(L:some a.cells=some cs:=by exact gU)(M:some H.next=some n:=by exact tH):bV P cfg f (.box t x) E H (.ptr n 0) (H.alloc (.cells cs 0 true)):=cD fun Q z=>aA.box h L M z
def Ox.bd{ps:qE}(h:iW E U.toList=some ps:=by exact Fz)(h2:dF P t ps=some v:=by exact gU):bV P cfg f (.build t U) E H v H:=cD fun Q z=>aA.build h h2 z
def Ox.bs{ps:qE}(h:iW E U.toList=some ps:=by exact Fz)(h2:ec P H t n ps=some (v,H'):=by exact gU):bV P cfg f (.buildSlice t n U) E H v H':=cD fun Q z=>Et h h2 z
def Ox.mm(M:some H.next=some n:=by exact tH):bV P cfg f (.makeMap t none) E H (.map n) (H.alloc (.map [])):=cD fun Q z=>aA.makeMap M z
def Ox.ms(h:aH E x=some a:=by exact dd)(h1:aH E y=some b:=by exact dd)(h2:mw P H t a b=some (v,H'):=by exact gU):bV P cfg f (.makeSlice t x y) E H v H':=cD fun Q z=>Ev h h1 h2 z
def Ox.lu{ok:Bool}(h:aH E x=some a:=by exact dd)(h1:aH E y=some b:=by exact dd)(h2:gG P H t a b ok=some v:=by exact gU):bV P cfg f (.lookup t x y ok) E H v H:=cD fun Q z=>aA.lookup h h1 h2 z
def Ox.mu(h:aH E x=some a:=by exact dd)(h1:aH E y=some b:=by exact dd)(h2:aH E z=some c:=by exact dd)(I:kz P H t a b c=some H':=by exact gU):∃v,bV P cfg f (.mapUpdate t x y z) E H v H':=yj fun Q Z=>Eu h h1 h2 I Z
def Ox.mf{g:FuncId}{cap:Array Operand}(h:fA E cap.toList=some vs:=by exact FA):bV P cfg f (.makeFunc (.func g) #[] cap) E H (.a9 g vs) H:=cD fun Q z=>aA.makeFunc h z
def Ox.sl{Y:qr}(h:aH E x=some a:=by exact dd)(h1:iA E lo=some O:=by exact FB)(h2:iA E J=some Y:=by exact FB)(I:lc P H t a O Y=some v:=by exact gU):bV P cfg f (.slice t x lo J none) E H v H:=cD fun Q z=>aA.slice h h1 h2 I z
def Ox.ln(h:aH E x=some a:=by exact dd)(h1:gh P H t a=some c:=by exact gU):bV P cfg f (.call ⟨.builtin .len,#[x],#[t]⟩) E H c H:=cD fun Q z=>aA.len h h1 z
def Ox.ap(h:aH E x=some a:=by exact dd)(h1:aH E y=some b:=by exact dd)(h2:cY P (cfg.keep f) H t u a b=some (v,H'):=by exact gU):bV P cfg f (.call ⟨.builtin .append,#[x,y],#[t,u]⟩) E H v H':=cD fun Q z=>rY h h1 h2 z
def Ox.mi{ts:Array TypeId}{k:IntKind}(h:aH E x=some (.int k m):=by exact dd)(h1:aH E y=some (.int Z M):=by exact dd):bV P cfg f (.call ⟨.builtin .min,#[x,y],ts⟩) E H (.int k (min m M)) H:=cD fun Q z=>aA.min2 h h1 z
def Ox.ma{ts:Array TypeId}{k:IntKind}(h:aH E x=some (.int k m):=by exact dd)(h1:aH E y=some (.int Z M):=by exact dd):bV P cfg f (.call ⟨.builtin .max,#[x,y],ts⟩) E H (.int k (max m M)) H:=cD fun Q z=>aA.max2 h h1 z
def Rx.o{op:Op}(z:aA P cfg f l (T.set E d (some v)) H' Q)(h:bV P cfg f op E H v H':=by first|apply(Ox.mv)|apply(Ox.as)|apply(Ox.pk)|apply(Ox.ld)|apply(Ox.nc)|apply(Ox.bn)|apply(Ox.un)|apply(Ox.cv)|apply(Ox.fa)|apply(Ox.fi)|apply(Ox.ia)|apply(Ox.ix)|apply(Ox.ex)|apply(Ox.al)|apply(Ox.bx)|apply(Ox.bd)|apply(Ox.bs)|apply(Ox.mm)|apply(Ox.ms)|apply(Ox.lu)|apply(Ox.mf)|apply(Ox.sl)|apply(Ox.ln)|apply(Ox.ap)|apply(Ox.mi)|apply(Ox.ma)):aA P cfg f (⟨some d,op,none⟩::l) E H Q:=bV.go z h
def Rx.on{op:Op}(z:aA P cfg f l E H' Q)(h:∃v,bV P cfg f op E H v H':=by first|apply(Ox.st)|apply(Ox.mu)):aA P cfg f (⟨none,op,none⟩::l) E H Q:=FG z h
def aD:=@Rx.on
theorem Rx.call{c:Call}{k:FuncId}{cap ar:ql}(z:aX P cfg k ar H fun v H'=>aA P cfg f l (aI E C v) H' Q)(L:c.callee=.value g:=by rfl)(Z:aH E g=some (.a9 k cap):=by exact dd)(Y:fA E c.args.toList=some vs:=by exact FA)(m:vs++cap=ar:=by simp only[aR];first|done|exact rfl):aA P cfg f (⟨C,.call c,none⟩::l) E H Q:=aQ L Z Y (m▸z)
def mK:=@Rx.call
def Rx.gu{op:Op}{t:Bool}{v:AV}{R:Prop}(z:R)(h:some (E.at s)=some v:=by exact dd)(Y:v=cT:=by with_reducible rfl)(e:aA P cfg f l (aI E C cT) H Q=R:=by exact tG):aA P cfg f (⟨C,op,some (s,t)⟩::l) E H Q:=Eo h Y (e▸z)
def ip:=@Rx.gu
def Rx.gd{op:Op}{t:Bool}{Z R:Prop}(h1:W->Y->aA P cfg f (⟨C,op,none⟩::l) E H Q)(h2:V->Z->R)(h:E.at s=.bool t:=by exact dd)(M:(t=tb)=W:=by(try simp only[nC,reduceCtorEq]);first|done|exact rfl)(U:(t=!tb)=V:=by(try simp only[nC,reduceCtorEq]);first|done|exact rfl)(O:W=Y:=by(try simp only[nD]);first|done|exact rfl)(L:V=Z:=by(try simp only[nD]);first|done|exact rfl)(e:aA P cfg f l (aI E C cT) H Q=R:=by exact tG):aA P cfg f (⟨C,op,some (s,tb)⟩::l) E H Q:=aA.guard h (fun k=>h1 (M▸k) (O▸M▸k)) (fun k=>e▸h2 (U▸k) (L▸U▸k))
def bz:=@Rx.gd
def Rx.cd{M:SC}{Q:AX->ax->Hp->Prop}{t:Bool}{Z:Prop}(h1:W->Y->bU P cfg f N L E H Q)(h2:V->Z->bU P cfg f N M E H Q)(J:aH E x=some (.bool t):=by exact dd)(U:(t=true)=W:=by(try simp only[nC,reduceCtorEq]);first|done|exact rfl)(O:(t=false)=V:=by(try simp only[nC,reduceCtorEq]);first|done|exact rfl)(I:W=Y:=by(try simp only[nD]);first|done|exact rfl)(C:V=Z:=by(try simp only[nD]);first|done|exact rfl):bU P cfg f N (.cond x L M) E H Q:=bU.cond J (fun k=>h1 (U▸k) (I▸U▸k)) (fun k=>h2 (O▸k) (C▸O▸k))
def aO:=@Rx.cd
def Oy.mv(h:aH E x=some v:=by exact dc):bV P cfg f (.move x) E H v H:=cD fun Q z=>aA.move h z
def Oy.as(h:aH E x=some v:=by exact dc):bV P cfg f (.assign x) E H v H:=cD fun Q z=>aA.assign h z
def Oy.pk{t:Bool}(h:aH E x=some (.bool t):=by exact dc)(h1:aH E y=some a:=by exact dc)(h2:aH E z=some b:=by exact dc):bV P cfg f (.pick x y z) E H (iV t a b) H:=cD fun Q Z=>aA.pick h h1 h2 Z
def Oy.ld(h:aH E x=some a:=by exact dc)(h1:eR P H t a=some v:=by exact gV):bV P cfg f (.load t x) E H v H:=cD fun Q z=>aA.load h h1 z
def Oy.st(h:aH E x=some a:=by exact dc)(h1:aH E y=some b:=by exact dc)(h2:ky P H t a b=some H':=by exact gV):∃v,bV P cfg f (.store t x y) E H v H':=yj fun Q z=>Be h h1 h2 z
def Oy.nc{o:Nat}(h:aH E x=some (.ptr r o):=by exact dc):bV P cfg f (.nilCheck x) E H (.ptr r o) H:=cD fun Q z=>aA.nilCheck h z
def Oy.bn{op:BinOp}(h:aH E x=some a:=by exact dc)(h1:aH E y=some b:=by exact dc)(h2:dw P cfg.b9 op t a b=some v:=by exact gV):bV P cfg f (.binOp op t x y u) E H v H:=cD fun Q z=>aA.bT h h1 h2 z
def Oy.un{op:UnOp}(h:aH E x=some a:=by exact dc)(h2:ph op a=some v:=by exact gV):bV P cfg f (.unOp op t x) E H v H:=cD fun Q z=>aA.un h h2 z
def Oy.cv(h:aH E x=some a:=by exact dc)(h2:fB P H t u a=some v:=by exact gV):bV P cfg f (.convert t u x) E H v H:=cD fun Q z=>aA.convert h h2 z
def Oy.fa(h:aH E x=some a:=by exact dc)(h2:o0 P t a i=some v:=by exact gV):bV P cfg f (.fieldAddr t x i) E H v H:=cD fun Q z=>Er h h2 z
def Oy.fi(h:aH E x=some a:=by exact dc)(h2:ry P t a i=some v:=by exact gV):bV P cfg f (.field t x i) E H v H:=cD fun Q z=>aA.field h h2 z
def Oy.ia(h:aH E x=some a:=by exact dc)(h1:aH E y=some b:=by exact dc)(h2:dZ P t a b=some v:=by exact gV):bV P cfg f (.indexAddr t x y) E H v H:=cD fun Q z=>Es h h1 h2 z
def Oy.ix(h:aH E x=some a:=by exact dc)(h1:aH E y=some b:=by exact dc)(h2:mr P t a b=some v:=by exact gV):bV P cfg f (.index t x y) E H v H:=cD fun Q z=>aA.index h h1 h2 z
def Oy.ex(h:aH E x=some a:=by exact dc)(h2:Ab.extract a i=some v:=by exact gV):bV P cfg f (.extract x i) E H v H:=cD fun Q z=>aA.extract h h2 z
def Oy.al{z:ql}(h:cj P t=some z:=by exact gV)(M:some H.next=some n:=by exact tH):bV P cfg f (.alloc t) E H (.ptr n 0) (H.alloc (.cells z 0 true)):=cD fun Q Z=>aA.alloc h M Z
def Oy.bx(h:aH E x=some a:=by exact dc)(L:some a.cells=some cs:=by exact gV)(M:some H.next=some n:=by exact tH):bV P cfg f (.box t x) E H (.ptr n 0) (H.alloc (.cells cs 0 true)):=cD fun Q z=>aA.box h L M z
def Oy.bd{ps:qE}(h:iW E U.toList=some ps:=by exact FC)(h2:dF P t ps=some v:=by exact gV):bV P cfg f (.build t U) E H v H:=cD fun Q z=>aA.build h h2 z
def Oy.bs{ps:qE}(h:iW E U.toList=some ps:=by exact FC)(h2:ec P H t n ps=some (v,H'):=by exact gV):bV P cfg f (.buildSlice t n U) E H v H':=cD fun Q z=>Et h h2 z
def Oy.mm(M:some H.next=some n:=by exact tH):bV P cfg f (.makeMap t none) E H (.map n) (H.alloc (.map [])):=cD fun Q z=>aA.makeMap M z
def Oy.ms(h:aH E x=some a:=by exact dc)(h1:aH E y=some b:=by exact dc)(h2:mw P H t a b=some (v,H'):=by exact gV):bV P cfg f (.makeSlice t x y) E H v H':=cD fun Q z=>Ev h h1 h2 z
def Oy.lu{ok:Bool}(h:aH E x=some a:=by exact dc)(h1:aH E y=some b:=by exact dc)(h2:gG P H t a b ok=some v:=by exact gV):bV P cfg f (.lookup t x y ok) E H v H:=cD fun Q z=>aA.lookup h h1 h2 z
def Oy.mu(h:aH E x=some a:=by exact dc)(h1:aH E y=some b:=by exact dc)(h2:aH E z=some c:=by exact dc)(I:kz P H t a b c=some H':=by exact gV):∃v,bV P cfg f (.mapUpdate t x y z) E H v H':=yj fun Q Z=>Eu h h1 h2 I Z
def Oy.mf{g:FuncId}{cap:Array Operand}(h:fA E cap.toList=some vs:=by exact FD):bV P cfg f (.makeFunc (.func g) #[] cap) E H (.a9 g vs) H:=cD fun Q z=>aA.makeFunc h z
def Oy.sl{Y:qr}(h:aH E x=some a:=by exact dc)(h1:iA E lo=some O:=by exact FE)(h2:iA E J=some Y:=by exact FE)(I:lc P H t a O Y=some v:=by exact gV):bV P cfg f (.slice t x lo J none) E H v H:=cD fun Q z=>aA.slice h h1 h2 I z
def Oy.ln(h:aH E x=some a:=by exact dc)(h1:gh P H t a=some c:=by exact gV):bV P cfg f (.call ⟨.builtin .len,#[x],#[t]⟩) E H c H:=cD fun Q z=>aA.len h h1 z
def Oy.ap(h:aH E x=some a:=by exact dc)(h1:aH E y=some b:=by exact dc)(h2:cY P (cfg.keep f) H t u a b=some (v,H'):=by exact gV):bV P cfg f (.call ⟨.builtin .append,#[x,y],#[t,u]⟩) E H v H':=cD fun Q z=>rY h h1 h2 z
def Oy.mi{ts:Array TypeId}{k:IntKind}(h:aH E x=some (.int k m):=by exact dc)(h1:aH E y=some (.int Z M):=by exact dc):bV P cfg f (.call ⟨.builtin .min,#[x,y],ts⟩) E H (.int k (min m M)) H:=cD fun Q z=>aA.min2 h h1 z
def Oy.ma{ts:Array TypeId}{k:IntKind}(h:aH E x=some (.int k m):=by exact dc)(h1:aH E y=some (.int Z M):=by exact dc):bV P cfg f (.call ⟨.builtin .max,#[x,y],ts⟩) E H (.int k (max m M)) H:=cD fun Q z=>aA.max2 h h1 z
def Ry.o{op:Op}(z:aA P cfg f l (T.set E d (some v)) H' Q)(h:bV P cfg f op E H v H':=by first|apply(Oy.mv)|apply(Oy.as)|apply(Oy.pk)|apply(Oy.ld)|apply(Oy.nc)|apply(Oy.bn)|apply(Oy.un)|apply(Oy.cv)|apply(Oy.fa)|apply(Oy.fi)|apply(Oy.ia)|apply(Oy.ix)|apply(Oy.ex)|apply(Oy.al)|apply(Oy.bx)|apply(Oy.bd)|apply(Oy.bs)|apply(Oy.mm)|apply(Oy.ms)|apply(Oy.lu)|apply(Oy.mf)|apply(Oy.sl)|apply(Oy.ln)|apply(Oy.ap)|apply(Oy.mi)|apply(Oy.ma)):aA P cfg f (⟨some d,op,none⟩::l) E H Q:=bV.go z h
def Ry.on{op:Op}(z:aA P cfg f l E H' Q)(h:∃v,bV P cfg f op E H v H':=by first|apply(Oy.st)|apply(Oy.mu)):aA P cfg f (⟨none,op,none⟩::l) E H Q:=FG z h
def bq:=@Ry.on
theorem Ry.call{c:Call}{k:FuncId}{cap ar:ql}(z:aX P cfg k ar H fun v H'=>aA P cfg f l (aI E C v) H' Q)(L:c.callee=.value g:=by rfl)(Z:aH E g=some (.a9 k cap):=by exact dc)(Y:fA E c.args.toList=some vs:=by exact FD)(m:vs++cap=ar:=by simp only[aR];first|done|exact rfl):aA P cfg f (⟨C,.call c,none⟩::l) E H Q:=aQ L Z Y (m▸z)
def ch:=@Ry.call
def Ry.gu{op:Op}{t:Bool}{v:AV}{R:Prop}(z:R)(h:some (E.at s)=some v:=by exact dc)(Y:v=cT:=by with_reducible rfl)(e:aA P cfg f l (aI E C cT) H Q=R:=by exact tG):aA P cfg f (⟨C,op,some (s,t)⟩::l) E H Q:=Eo h Y (e▸z)
def fG:=@Ry.gu
def Ry.gd{op:Op}{t:Bool}{Z R:Prop}(h1:W->Y->aA P cfg f (⟨C,op,none⟩::l) E H Q)(h2:V->Z->R)(h:E.at s=.bool t:=by exact dc)(M:(t=tb)=W:=by(try simp only[nC,reduceCtorEq]);first|done|exact rfl)(U:(t=!tb)=V:=by(try simp only[nC,reduceCtorEq]);first|done|exact rfl)(O:W=Y:=by(try simp only[nD]);first|done|exact rfl)(L:V=Z:=by(try simp only[nD]);first|done|exact rfl)(e:aA P cfg f l (aI E C cT) H Q=R:=by exact tG):aA P cfg f (⟨C,op,some (s,tb)⟩::l) E H Q:=aA.guard h (fun k=>h1 (M▸k) (O▸M▸k)) (fun k=>e▸h2 (U▸k) (L▸U▸k))
def bS:=@Ry.gd
def fH{op:Op}{t:Bool}{Z:List Rc}{Q:List Rc->ax->Hp->Prop}{U R:Prop}(h1:W->Y->dg P cfg f (⟨C,op,none⟩::l) Z E H Q)(h2:V->U->R)(h:E.at s=.bool t:=by exact dc)(M:(t=tb)=W:=by(try simp only[nC,reduceCtorEq]);first|done|exact rfl)(O:(t=!tb)=V:=by(try simp only[nC,reduceCtorEq]);first|done|exact rfl)(L:W=Y:=by(try simp only[nD]);first|done|exact rfl)(J:V=U:=by(try simp only[nD]);first|done|exact rfl)(e:dg P cfg f l (Z++[⟨op,false,E,H,cT,H⟩]) (aI E C cT) H Q=R:=by exact tG):dg P cfg f (⟨C,op,some (s,tb)⟩::l) Z E H Q:=dg.guard h (fun k=>h1 (M▸k) (L▸M▸k)) (fun k=>e▸h2 (O▸k) (J▸O▸k))
def Ry.cd{M:SC}{Q:AX->ax->Hp->Prop}{t:Bool}{Z:Prop}(h1:W->Y->bU P cfg f N L E H Q)(h2:V->Z->bU P cfg f N M E H Q)(J:aH E x=some (.bool t):=by exact dc)(U:(t=true)=W:=by(try simp only[nC,reduceCtorEq]);first|done|exact rfl)(O:(t=false)=V:=by(try simp only[nC,reduceCtorEq]);first|done|exact rfl)(I:W=Y:=by(try simp only[nD]);first|done|exact rfl)(C:V=Z:=by(try simp only[nD]);first|done|exact rfl):bU P cfg f N (.cond x L M) E H Q:=bU.cond J (fun k=>h1 (U▸k) (I▸U▸k)) (fun k=>h2 (O▸k) (C▸O▸k))
def aY:=@Ry.cd
def eE(h:p:=by first|(simp only[aM,Nat.reduceBEq, *];done)|rfl):p:=h
def BG(h:p:=by first|(simp only[aM,a0,tyF,Nat.reduceBEq,Nat.reduceAdd,Nat.reduceLeDiff, *];done)|rfl):p:=h
def iM(h:p:=by((try simp only[aM,Nat.reduceBEq, *]);first|done|with_reducible rfl)):p:=h
def sq(h:p:=by((try simp only[aM,a0,tyF,Nat.reduceBEq,Nat.reduceAdd,Nat.reduceLeDiff, *]);first|done|with_reducible rfl)):p:=h
def bb(h:p:=by((try simp only[aM,Nat.reduceBEq,cU,da, *]);first|done|with_reducible rfl)):p:=h
def yk(h:p:=by((try simp only[aM,a0,tyF,Nat.reduceBEq,Nat.reduceAdd,Nat.reduceLeDiff,cU,da, *]);first|done|with_reducible rfl)):p:=h
def aS(h:p:=by((try simp only[aM,Nat.reduceBEq, *,-hK]);first|done|with_reducible rfl)):p:=h
def aT(h:p:=by((try simp only[aM,Nat.reduceBEq,fA,yh, *,-hK]);first|done|with_reducible rfl)):p:=h
def qc{P:Program}{cfg:Cfg}{f:FuncId}{E:ax}{H:Hp}{Q:ax->Hp->Prop}{d:qD}{c:Call}{k:FuncId}{cap ws:ql}{l:List SOp}(h:aX P cfg k ws H fun v H'=>aA P cfg f l (aI E d v) H' Q)(i:c.callee=.value g:=by exact rfl)(j:aH E g=some (.a9 k cap):=by exact aS)(m:fA E c.args.toList=some vs:=by exact aT)(e:vs++cap=ws:=by(try simp only[aR]);first|done|exact rfl):aA P cfg f (⟨d,.call c,none⟩::l) E H Q:=aQ i j m (e▸h)
def aP(h:p:=by first|exact .inl rfl|exact .inr rfl|exact .inl trivial|exact .inr trivial):p:=h
def qq{A:Prop}{a:Option ql}{v:ql}{R:ql->Prop}{T:Prop}(h:T)(i:A:=by exact aP)(j:a=some v:=by exact bb)(k:R v=T:=by(try simp only[aN]);first|done|exact rfl):A/\∃vs,a=some vs/\R vs:=⟨i,v,j,k▸h⟩
def bm(h:p:=by simp only[bN,bO,bu,aM,a0,tyF,Nat.reduceBEq,Nat.reduceAdd,Nat.reduceLeDiff, *]):p:=h
def cN(h:p:=by(try simp only[bj,bJ,cL,bX,Nat.reduceAdd]);omega):p:=h
def am{Q:AX->ax->Hp->Prop}{R:Prop}(h:R)(e:Q .normal E H=R:=by exact yf):bU P cfg f N .skip E H Q:=bU.skip (e▸h)
def Rx.rt{Q:AX->ax->Hp->Prop}{R:Prop}(h:R)(e:Q .ret E H=R:=by exact yf):bU P cfg f N .ret E H Q:=bU.ret (e▸h)
def au:=@Rx.rt
def aw{id:Nat}{Q:AX->ax->Hp->Prop}{R:Prop}(h:R)(e:Q (.exit id) E H=R:=by first|(simp only[lN,tB,reduceIte];first|done|exact rfl)|(dsimp only[];first|done|exact rfl)|exact rfl):bU P cfg f N (.exit id) E H Q:=bU.exit (e▸h)
def cG(h:p:=by(refine⟨?_,?_⟩<;>simp only[mZ,mJ,lD,tI,yg,BE,List.forall_mem_cons,bj,bJ,az,kI,bu]<;>(repeat' apply ad)<;>first
 |(intro r hr;cases hr;done)
 |(refine NO (by simp only[mZ,mJ,lD,tI,yg,BE];rfl) (fun hd=>?_)
   simp only[vB,mZ,mJ,lD,tI,yg,BE]at hd⊢;first
   |(cases hd;done)
   |exact NI iM sq
   |exact NJ iM iM sq
   |exact NK iM sq
   |exact NL iM sq
   |exact NM iM (by simp only[iA];first|rfl|simp only[aM,Nat.reduceBEq, *]) (by simp only[iA];first|rfl|simp only[aM,Nat.reduceBEq, *]) sq
   |exact NN rfl sq sq)
 |exact az _
 |assumption
 |omega)):p:=h
variable {N:Nat} {ops:qo} {Q2:AX -> ax -> Hp -> Prop}
def ak(id:Nat)(U:qI)(h:∀K:List Rc->ax->Hp->Prop,(∀C E' H',oD P cfg U C H'->Q2 .normal E' H'->K C E' H')->dg P cfg f l [] E H K)(Z:cfg.bM f id=.text:=by exact BD)(V:mX ops=true:=by kernel_rfl)(Y:bw N ops ops=some l:=by simp only[bw,bH,bI,Nat.blt,Nat.ble];rfl)(M:lx ops=U:=by kernel_rfl):bU P cfg f N (.bK id ops) E H Q2:=NG Z V Y M h
def gq(id:Nat)(M:qu)(U:qI)(h:∀K:List Rc->ax->Hp->Prop,(∀C E' H',oD P cfg U C H'->Q2 .normal E' H'->K C E' H')->dg P cfg f l [] E H K)(Z:cfg.bM f id=.b2 M:=by exact BD)(Y:uP M ops=true:=by kernel_rfl)(V:mX (fj M ops)=true:=by kernel_rfl)(W:bw N (fj M ops) (fj M ops)=some l:=by simp only[fj,po,List.filterMap_cons,List.filterMap_nil,tI,yg,bw,bH,bI,Nat.blt,Nat.ble];rfl)(O:lx (fj M ops)=U:=by kernel_rfl):bU P cfg f N (.bK id ops) E H Q2:=NH Z Y V W O h
def ci(id:Nat)(h:∀K:ax->Hp->Prop,(∀E' H',Q2 .normal E' H'->K E' H')->aA P cfg f l E H K)(U:cfg.bM f id=.text:=by exact BD)(V:xZ ops=true:=by kernel_rfl)(Z:bw N ops ops=some l:=by simp only[bw,bH,bI,Nat.blt,Nat.ble];rfl):bU P cfg f N (.bK id ops) E H Q2:=bU.bK U V Z h
end
end Go.Proofs.Ytbflaciihaijgaa
namespace Go.Ab
set_option maxRecDepth 20000
open Go
variable{l C:ql}{P:Program}{cfg:Cfg}{g:FuncId}{r:AV}{H:Hp}{x y:Ex}
def et(v:AV):Prop:=∃k,∀m,k<=m->∀H,iceV H m v=some v
def eO(l:ql):Prop:=∀v∈l,et v
def eO.nil:eO []:=fun _ h=>jk
def eO.cons{v:AV}(h:et v)(W:eO l):eO (v::l):=fun w V=>by
 rcases eK.1 V with rfl|V
 .exact h
 .exact W _ V
theorem eO.ch:∀{l:ql},eO l->∃k,∀m,k<=m->∀H,iceL (iceV H m) l=some l
 |[],_=>⟨0,fun _ _ _=>rfl⟩
 |v::l,h=>by
  obtain⟨M,o⟩:=h v eL;obtain⟨Z,Y⟩:=eO.ch (l:=l) fun w V=>h w (fR _ V)
  exact⟨max M Z,fun m W H=>by simp only[iceL,o m ac H,Y m ac H]⟩
theorem FH:∀{l:List ql},(∀I∈l,eO I)->∃k,∀m,k<=m->∀H,pp (iceV H m) l=some l
 |[],_=>⟨0,fun _ _ _=>rfl⟩
 |v::l,h=>by
  obtain⟨M,o⟩:=(h v eL).ch;obtain⟨Z,Y⟩:=FH (l:=l) fun w V=>h w (fR _ V)
  exact⟨max M Z,fun m W H=>by simp only[pp,o m ac H,Y m ac H]⟩
def et.one{v:AV}(h:∀m H,iceV H (m+1) v=some v):et v:=⟨1,fun m Z H=>by
 obtain⟨m,rfl⟩:∃k,m=k+1:=⟨m-1,ac⟩;exact h m H⟩
theorem et.int(k:IntKind)(n:Int):et (.int k n):=.one fun _ _=>rfl
theorem et.bool(b:Bool):et (.bool b):=.one fun _ _=>rfl
theorem et.ag(s:qn):et (.ag s):=.one fun _ _=>rfl
theorem et.aa:et .aa:=.one fun _ _=>rfl
def et.aq{l:List ql}(h:∀I∈l,eO I):et (.aq l):=by
 obtain⟨k,z⟩:=FH h;refine⟨k+1,fun m Z H=>?_⟩;obtain⟨m,rfl⟩:∃k,m=k+1:=⟨m-1,ac⟩;simp only[iceV,z m ac H]
def et.agg(h:eO l):et (.agg l):=by
 obtain⟨k,z⟩:=h.ch;refine⟨k+1,fun m Z H=>?_⟩;obtain⟨m,rfl⟩:∃k,m=k+1:=⟨m-1,ac⟩;simp only[iceV,z m ac H]
def et.aO(h:eO l):et (.aO l):=by
 obtain⟨k,z⟩:=h.ch;refine⟨k+1,fun m Z H=>?_⟩;obtain⟨m,rfl⟩:∃k,m=k+1:=⟨m-1,ac⟩;simp only[iceV,z m ac H]
def et.map{o:Type}{l:List o}{f:o->ql}(h:∀x∈l,eO (f x)):et (.aq (l.map f)):=.aq fun I hr=>by
 obtain⟨x,O,rfl⟩:=lJ.1 hr;exact h x O
def FI(h:eO C):∃k,pq k C=true:=by
 obtain⟨k,z⟩:=h.ch;exact⟨k,by unfold pq;rw[z k (az _) bE];exact oC C⟩
def QL(fit:Fit P){ρ:Nat->Int}(J:kF cfg.b9 ρ)(L:∀f C r,cfg.call f C=some r->cp P ρ f C r){C:ql}{r:AV}
 (V:eO C) (hr:et r) (h:aX P cfg g C bE fun v _=>v=r):cp P ρ g C r:=by
 obtain⟨k,z⟩:=FI V;obtain⟨m,Z⟩:=hr;exact Ep (m:=m) fit J L z (aL (fun v H' e=>by rw[e];exact Z m (az _) H') h)
def FJ(fit:Fit P){ρ:Nat->Int}(J:kF cfg.b9 ρ)(L:∀f C r,cfg.call f C=some r->cp P ρ f C r){C:ql}{r:AV}{m:Nat}
 (V:eO C) (h:aX P cfg g C bE fun v H'=>iceV H' m v=some r):cp P ρ g C r:=by
 obtain⟨k,z⟩:=FI V;exact Ep (m:=m) fit J L z h
structure En where
 f:FuncId
 aF:Bool
 sp:ql->qr
variable{f:FuncId}
abbrev qs:=List En
def dR:qs->FuncId->ql->qr
 |[],_,_=>none
 |e::l,f,args=>match Nat.beq e.f f with
  |true=>e.sp args
  |false=>dR l f args
def lW:qs->FuncId->Bool
 |[],_=>false
 |e::l,f=>match Nat.beq e.f f with
  |true=>e.aF
  |false=>lW l f
noncomputable def aK(pls:List (Nat×Nat×zai))(l:qs):Cfg:={keep:=fun _=>false,call:=dR l,aF:=lW l,bM:=xy pls}
def eu(P:Program)(ρ:Nat->Int)(e:En):Prop:=∀C r,e.sp C=some r->cp P ρ e.f C r
def iN(P:Program)(ρ:Nat->Int):qs->Prop
 |[]=>True
 |e::l=>eu P ρ e/\iN P ρ l
theorem iN.cn{P:Program}{ρ:Nat->Int}:∀{l:qs},iN P ρ l->∀f C r,dR l f C=some r->cp P ρ f C r
 |[],_,_,_,_,h=>by simp[dR]at h
 |e::l,hl,f,C,r,h=>by
  simp only[dR]at h;split at h
  .rename_i o;rw[<-gM o];exact hl.1 C r h
  .exact iN.cn hl.2 f C r h
noncomputable def dA{o:Type}(ok:o->Prop)(enc:o->ql)(out:o->AV)(C:ql):qr:=open Classical in
 if h:∃x,ok x/\enc x=C then some (out (Classical.choose h))else none
def QM{o:Type}{ok:o->Prop}{enc:o->ql}{out:o->AV}(V:∀x y,enc x=enc y->x=y){x:o}(O:ok x):dA ok enc out (enc x)=some (out x):=by
 unfold dA;have h:∃y,ok y/\enc y=enc x:=⟨x,O,rfl⟩;rw[dif_pos h];rw[V _ _ (BF h).2]
def QN{o:Type}{ok:o->Prop}{enc:o->ql}{out:o->AV}(h:∀x,ok x->enc x≠C):dA ok enc out C=none:=by
 unfold dA;rw[dif_neg];rintro⟨x,O,e⟩;exact h x O e
def eY{ρ:Nat->Int}{o:Type}{ok:o->Prop}{ice:Bool}{enc:o->ql}{out:o->AV}(h:∀x,ok x->cp P ρ f (enc x) (out x)):eu P ρ ⟨f,ice,dA ok enc out⟩:=fun C r hr=>by
 change dA ok enc out C=some r at hr;unfold dA at hr;split at hr
 .rename_i O;simp only[aC]at hr;subst hr;have:=h (Classical.choose O) (BF O).1;rw[(BF O).2]at this;exact this
 .simp at hr
attribute [irreducible] dA
def FK(h:cfg.call g C=some r):aX P cfg g C H fun v H'=>v=r/\H'=H:=Mw h ⟨rfl,rfl⟩
def ev{pls:List (Nat×Nat×zai)}{l:qs}{o:Type}{ok:o->Prop}{enc:o->ql}{out:o->AV}(V:∀x y,enc x=enc y->x=y){x:o}(W:dR l g (enc x)=dA ok enc out (enc x))(O:ok x):
 aX P (aK pls l) g (enc x) H fun v H'=>v=out x/\H'=H:=FK FF
def QO{pls:List (Nat×Nat×zai)}{l:qs}{o:Type}{ok:o->Prop}{enc:o->ql}{out:o->AV}(V:∀x y,enc x=enc y->x=y){x:o}(W:∀U,dR l g U=dA ok enc out U)(J:lW l g=true)(O:ok x){H':Hp}
 (M:∀y,ok y->enc y≠C) (Y:jA (hY 100) C H=some (enc x,H')) :
 aX P (aK pls l) g C H fun v Z=>v=out x/\(Z=H'\/Z=H):=Mx (by show dR l g C=none;rw[W];exact QN M) J rfl Y FF ⟨rfl,.inl rfl⟩ fun _=>⟨rfl,.inr rfl⟩
def fI{ρ:Nat->Int}(fit:Fit P){pls:List (Nat×Nat×zai)}{l:qs}(W:iN P ρ l)(V:eO C)(hr:et r)(h:aX P (aK pls l) f C bE fun v _=>v=r):cp P ρ f C r:=
 QL fit (tz ρ) (fun g U r L=>iN.cn W g U r L) V hr h
def Ex.pure(x:Ex):eO x.cells:=by
 have C:∀n (x:Ex),x.sz<n->eO x.cells:=by
  intro n;induction n with
  |zero=>intro x h;omega
  |succ n ih=>
   intro x h;rw[jE];refine .cons (.int _ _) (.cons (.int _ _) (.cons (.ag _) (.cons (.int _ _) (.cons (.map fun y W=>ih y ?_) .nil))));have:=sd W;have:=x.aV;omega
 exact C _ x (ct _)
def yl(l:qC):et (.aq (l.map Ex.cells)):=.map fun x _=>x.pure
def St.pure(x:St):eO x.cells:=by
 have C:∀n (x:St),x.sz<n->eO x.cells:=by
  intro n;induction n with
  |zero=>intro x h;omega
  |succ n ih=>
   intro x h;rw[rZ];have:=x.aV;refine .cons (.int _ _) (.cons (.ag _) (.cons (.ag _) (.cons (.int _ _) (.cons (.int _ _) (.cons (.int _ _) (.cons (.ag _) (.cons (.int _ _) (.cons (yl _) (.cons (.int _ _) (.cons (.int _ _) (.cons (.ag _) (.cons (.int _ _) (.cons (yl _) (.cons (yl _) (.cons (.map fun y W=>ih y ?_) (.cons (.map fun y W=>ih y ?_) .nil))))))))))))))))
   .have:=pG W;omega
   .have:=pG W;omega
 exact C _ x (ct _)
def QP(l:qy):et (.aq (l.map St.cells)):=.map fun x _=>x.pure
def vG(l:qm):et (cW l):=.map fun x _=>.cons (.ag _) .nil
def Fu.pure(x:Fu):eO x.cells:=by
 rw[vz];exact .cons (.ag _) (.cons (vG _) (.cons (vG _) (.cons (QP _) (.cons (.int _ _) (.cons (.int _ _) (.cons (.ag _) (.cons (.int _ _) (.cons (yl _) .nil))))))))
def Ar.pure(x:Ar):eO x.cells:=.cons (.ag _) (.cons (.int _ _) .nil)
def Pr.pure(x:Pr):eO x.cells:=.cons (.map fun x _=>x.pure) (.cons (.map fun x _=>x.pure) .nil)
theorem nE{o β:Type}{f:o->β}:∀{a b:List o},(∀x∈a,∀y,f x=f y->x=y)->a.map f=b.map f->a=b
 |[],[],_,_=>rfl
 |[],_::_,_,h=>by simp at h
 |_::_,[],_,h=>by simp at h
 |x::a,y::b,hf,h=>by
  simp only[eJ,eU]at h;rw[hf x eL y h.1,nE (fun z Z=>hf z (fR _ Z)) h.2]
def Ex.ext'(Z:x.ah=y.ah)(h1:x.n=y.n)(h2:x.name=y.name)(I:x.op=y.op)(Y:x.aj=y.aj):x=y:=by
 cases x;cases y;simp only[Ex.ah,Ex.n,Ex.name,Ex.op,Ex.aj]at *;simp[*]
def Ex.inj(h:x.cells=y.cells):x=y:=by
 have C:∀n (x:Ex),x.sz<n->∀y,x.cells=y.cells->x=y:=by
  intro n;induction n with
  |zero=>intro x h;omega
  |succ n ih=>
   intro x h y e;rw[jE,jE]at e;simp only[eU,AV.int.injEq,AV.ag.injEq,AV.aq.injEq,kI,bu]at e;obtain⟨m,M,Y,W,V⟩:=e;refine Ex.ext' m M Y W (nE (fun z Z=>ih z ?_) V);have:=sd Z;have:=x.aV;omega
 exact C _ x (ct _) y h
def ym{a b:qC}(h:a.map Ex.cells=b.map Ex.cells):a=b:=nE (fun _ _ _=>Ex.inj) h
def St.ext'{x y:St}(Z:x.ah=y.ah)(h1:x.name=y.name)(h2:x.to=y.to)(I:x.n=y.n)(Y:x.aW=y.aW)(W:x.value=y.value)(C:x.args=y.args)(V:x.a8=y.a8)(L:x.bA=y.bA):x=y:=by
 cases x;cases y;simp only[St.ah,St.name,St.to,St.n,St.aW,St.value,St.args,St.a8,St.bA]at *;simp[*]
def St.inj{x y:St}(h:x.cells=y.cells):x=y:=by
 have C:∀n (x:St),x.sz<n->∀y,x.cells=y.cells->x=y:=by
  intro n;induction n with
  |zero=>intro x h;omega
  |succ n ih=>
   intro x h y e;have hs:=x.aV;rw[rZ,rZ]at e;simp only[eU,AV.int.injEq,AV.ag.injEq,AV.aq.injEq,kI,bu]at e;obtain⟨m,M,Y,W,iU,J,V,O,U,I,L,o,b3,b4,e6,e7,e8⟩:=e;refine St.ext' m M Y W (Ex.ext' iU J V O (ym U)) (Ex.ext' I L o b3 (ym b4)) (ym e6) (nE (fun z Z=>ih z ?_) e7) (nE (fun z Z=>ih z ?_) e8)
   .have:=pG Z;omega
   .have:=pG Z;omega
 exact C _ x (ct _) y h
def QQ{a b:qy}(h:a.map St.cells=b.map St.cells):a=b:=nE (fun _ _ _=>St.inj) h
def yn{a b:qm}(h:(a.map fun s=>[AV.ag s])=b.map fun s=>[AV.ag s]):a=b:=nE (fun x _ y e=>by simpa using e) h
def Fu.inj{x y:Fu}(h:x.cells=y.cells):x=y:=by
 obtain⟨n,p,l,b,v⟩:=x;obtain⟨L,o,J,b',C⟩:=y;rw[vz,vz]at h;simp only[eU,AV.int.injEq,AV.ag.injEq,AV.aq.injEq,kI,bu]at h;obtain⟨m,M,Y,Z,I,U,V,W,O⟩:=h;rw[m,yn M,yn Y,QQ Z,Ex.ext' I U V W (ym O)]
def Ar.inj{x y:Ar}(h:x.cells=y.cells):x=y:=by
 obtain⟨n,p⟩:=x;obtain⟨O,o⟩:=y;simp only[Ar.cells,eU,AV.int.injEq,AV.ag.injEq,kI,bu]at h;rw[h.1,h.2]
def Pr.inj{x y:Pr}(h:x.cells=y.cells):x=y:=by
 obtain⟨n,p⟩:=x;obtain⟨O,o⟩:=y;simp only[Pr.cells,eU,AV.aq.injEq,kI,bu]at h;rw[nE (fun _ _ _=>Ar.inj) h.1,nE (fun _ _ _=>Fu.inj) h.2]
end Go.Ab
