/- Lemmas for the last file. -/
import Derived.Test.YtpbcimfiofmoeaaGreatWEF
set_option linter.all false
set_option maxHeartbeats 32000000
namespace Go.Ab
set_option maxRecDepth 20000
open Go
variable{qe:Prop}
def DJ(h:qe:=by first|(dsimp only[lP,pR];first|done|exact rfl)|(dsimp only[];first|done|exact rfl)|exact rfl):=h
def ve(h:qe:=by first|(dsimp only[aC];first|done|exact rfl)|exact rfl):=h
def eQ(h:qe:=by ((first|simp only[aG,Nat.reduceBEq,ne_eq,not_false_eq_true, *,-hK]|simp only[aG,Nat.reduceBEq,ne_eq,not_false_eq_true, *]|skip);first|done|with_reducible rfl)):=h
def j7(h:qe:=by ((first|simp only[aG,aY,tyF,Nat.reduceBEq,Nat.reduceAdd,Nat.reduceLeDiff,ne_eq,not_false_eq_true, *,-hK]|simp only[aG,aY,tyF,Nat.reduceBEq,Nat.reduceAdd,Nat.reduceLeDiff,ne_eq,not_false_eq_true, *]|skip);first|done|with_reducible rfl)):=h
def yf(h:qe:=by ((try simp only[aU,bq,ce,Nat.add_assoc,Nat.reduceAdd,Nat.zero_add]);with_reducible rfl)):=h
def Nc(h:qe:=by ((first|simp only[aG,Nat.reduceBEq,lJ,ne_eq,not_false_eq_true, *,-hK]|simp only[aG,Nat.reduceBEq,lJ,ne_eq,not_false_eq_true, *]|skip);first|done|with_reducible rfl)):=h
def Nf(h:qe:=by ((first|simp only[aG,Nat.reduceBEq,jj,List.cons_append,List.nil_append,ne_eq,not_false_eq_true, *,-hK]|simp only[aG,Nat.reduceBEq,jj,List.cons_append,List.nil_append,ne_eq,not_false_eq_true, *]|skip);first|done|with_reducible rfl)):=h
def Ng(h:qe:=by ((first|simp only[aG,Nat.reduceBEq,kY,ne_eq,not_false_eq_true, *,-hK]|simp only[aG,Nat.reduceBEq,kY,ne_eq,not_false_eq_true, *]|skip);first|done|with_reducible rfl)):=h
def eM(h:qe:=by ((first|simp only[aG,Nat.reduceBEq,ne_eq,not_false_eq_true,decide_true,decide_false,Int.reduceEq,Int.reduceLE,Int.reduceToNat,Nat.mul_one, *,-hK]|simp only[aG,Nat.reduceBEq,ne_eq,not_false_eq_true,decide_true,decide_false,Int.reduceEq,Int.reduceLE,Int.reduceToNat,Nat.mul_one, *]|skip);first|done|with_reducible rfl)):=h
def j8(h:qe:=by ((first|simp only[aG,aY,tyF,Nat.reduceBEq,Nat.reduceAdd,Nat.reduceLeDiff,ne_eq,not_false_eq_true,decide_true,decide_false,Int.reduceEq,Int.reduceLE,Int.reduceToNat,Nat.mul_one, *,-hK]|simp only[aG,aY,tyF,Nat.reduceBEq,Nat.reduceAdd,Nat.reduceLeDiff,ne_eq,not_false_eq_true,decide_true,decide_false,Int.reduceEq,Int.reduceLE,Int.reduceToNat,Nat.mul_one, *]|skip);first|done|with_reducible rfl)):=h
def Nh(h:qe:=by ((first|simp only[aG,Nat.reduceBEq,lJ,ne_eq,not_false_eq_true,decide_true,decide_false,Int.reduceEq,Int.reduceLE,Int.reduceToNat,Nat.mul_one, *,-hK]|simp only[aG,Nat.reduceBEq,lJ,ne_eq,not_false_eq_true,decide_true,decide_false,Int.reduceEq,Int.reduceLE,Int.reduceToNat,Nat.mul_one, *]|skip);first|done|with_reducible rfl)):=h
def Nk(h:qe:=by ((first|simp only[aG,Nat.reduceBEq,jj,List.cons_append,List.nil_append,ne_eq,not_false_eq_true,decide_true,decide_false,Int.reduceEq,Int.reduceLE,Int.reduceToNat,Nat.mul_one, *,-hK]|simp only[aG,Nat.reduceBEq,jj,List.cons_append,List.nil_append,ne_eq,not_false_eq_true,decide_true,decide_false,Int.reduceEq,Int.reduceLE,Int.reduceToNat,Nat.mul_one, *]|skip);first|done|with_reducible rfl)):=h
def Nl(h:qe:=by ((first|simp only[aG,Nat.reduceBEq,kY,ne_eq,not_false_eq_true,decide_true,decide_false,Int.reduceEq,Int.reduceLE,Int.reduceToNat,Nat.mul_one, *,-hK]|simp only[aG,Nat.reduceBEq,kY,ne_eq,not_false_eq_true,decide_true,decide_false,Int.reduceEq,Int.reduceLE,Int.reduceToNat,Nat.mul_one, *]|skip);first|done|with_reducible rfl)):=h
def Iq(h:qe:=by first|(simp only[aG,Nat.reduceBEq, *];done)|rfl):=h
def DK(h:qe:=by first|rfl|exact hplan _|(rw[hS.ca];rfl)):=h
def Ir(h:qe:=by simp only[bw,bM,bJ,Nat.blt,Nat.ble];rfl):=h
def Is(h:qe:=by simp only[fo,tD,List.filterMap_cons,List.filterMap_nil,List.getElem?_cons_succ,List.getElem?_cons_zero,bw,bM,bJ,Nat.blt,Nat.ble];rfl):=h
def AE(h:qe:=by simpa using e):=h
def lw:=@List.cons_append
def AF:=@List.getElem?_cons_succ
def tY:=@List.getElem?_cons_zero
def DL:=@List.drop_succ_cons
def mU:=@decide_eq_false_iff_not
def mV:=@List.append_assoc
def It:=@List.getElem?_nil
def bT:=@Nat.lt_succ_self
def gI:=@List.drop_eq_getElem_cons
def mW:=@Bool.or_false
def yg:=@List.flatMap_cons
def AG:=And.intro @lw.{0} @lL.{0}
def eR:=And.intro AG @aS.{0}
end Go.Ab
namespace Go.Proofs.YtpbcimfiofmoeaaGreat
set_option maxRecDepth 20000
open Go Go.Ab
variable{I lo:Option Operand}{g z:Operand}{r i n s N:Nat}{cs vs:qu}{M:Array (Nat×Operand)}{c:Call}{Z k:IntKind}{J:Array TypeId}{m:qK}{U:Int}{tb:Bool}{V Y q1 q2 p:Prop}{C:SC}
def sP:=ad wH ll
def sQ:=ad @rG @mU
section
variable {P:Program} {cfg:Cfg} {f:FuncId} {l:List SOp} {E:aq} {H H':Hp} {Q:aq -> Hp -> Prop} {d:Nat} {v a b:AV} {x y:Operand} {t u:TypeId}
def cA(P:Program)(cfg:Cfg)(f:FuncId)(op:Op)(E:aq)(H:Hp)(v:AV)(H':Hp):Prop:=∃n,eF P cfg (dL P cfg n) f E H op=.val v H'
def cA.of{op:Op}(h:∀Q:aq->Hp->Prop,aI P cfg f [] (T.set E 0 (some v)) H' Q->aI P cfg f [⟨some 0,op,none⟩] E H Q):cA P cfg f op E H v H':=by
 have m:=h (fun Z z=>Z.at 0=v/\z=H') (x8 ⟨by rw[jY];rfl,rfl⟩);unfold aI at m;simp only[]at m;unfold jm at m;obtain⟨n,w,z,j,C⟩:=m;unfold aI at C;obtain⟨V,rfl⟩:=C;have:(aC E (some 0) w).at 0=w:=Md;rw[this]at V;exact⟨n,by rw[j,V]⟩
def dN:=@cA.of
def DM{op:Op}(h:∀Q:aq->Hp->Prop,aI P cfg f [] E H' Q->aI P cfg f [⟨none,op,none⟩] E H Q):∃v,cA P cfg f op E H v H':=by
 have m:=h (fun Z z=>z=H') (x8 rfl);unfold aI at m;simp only[]at m;unfold jm at m;obtain⟨n,w,z,j,C⟩:=m;unfold aI at C;subst C;exact⟨w,n,j⟩
def cA.go{op:Op}(z:aI P cfg f l (T.set E d (some v)) H' Q)(h:cA P cfg f op E H v H'):aI P cfg f (⟨some d,op,none⟩::l) E H Q:=by
 obtain⟨n,h⟩:=h;unfold aI;show jm _ _ _ _ _ _ _;unfold jm;exact⟨n,v,H',h,z⟩
def Nm{op:Op}(z:aI P cfg f l E H' Q)(h:∃v,cA P cfg f op E H v H'):aI P cfg f (⟨none,op,none⟩::l) E H Q:=by
 obtain⟨v,n,h⟩:=h;unfold aI;show jm _ _ _ _ _ _ _;unfold jm;exact⟨n,v,H',h,z⟩
attribute [irreducible] cA
def Rx.nl{I K:aq->Hp->Prop}{R:Prop}(h:R)(hK:∀E H,I E H->K E H:=by assumption)(e:I E H=R:=by exact DJ):aI P cfg f [] E H K:=x8 (hK _ _ (e▸h))
def aj:=@Rx.nl
def bD{R:Prop}(h:R)(e:Q E H=R:=by first|(dsimp only[];first|done|exact rfl)|exact rfl):aI P cfg f [] E H Q:=x8 (e▸h)
def ch{need:qP}{J:List Rc}{I:aq->Hp->Prop}{K:List Rc->aq->Hp->Prop}{R:Prop}(h1:oS P cfg need J H)(h:R)(hK:∀J E' H',oS P cfg need J H'->I E' H'->K J E' H':=by assumption)(e:I E H=R:=by exact DJ):dC P cfg f [] J E H K:=Ax (hK _ _ _ h1 (e▸h))
def bK{g:FuncId}{ar:qu}{r:AV}{K:AV->Hp->Prop}{R:Prop}(c:aR P cfg g ar H fun v H'=>v=r/\H'=H)(h:R)(e:K r H=R:=by exact ve):aR P cfg g ar H K:=aF bb c
def Ox.mv(h:aT E x=some v:=by exact eQ):cA P cfg f (.move x) E H v H:=dN fun Q z=>aI.move h z
def Ox.as(h:aT E x=some v:=by exact eQ):cA P cfg f (.assign x) E H v H:=dN fun Q z=>aI.assign h z
def Ox.pk{t:Bool}(h:aT E x=some (.bool t):=by exact eQ)(h1:aT E y=some a:=by exact eQ)(h2:aT E z=some b:=by exact eQ):cA P cfg f (.pick x y z) E H (kJ t a b) H:=dN fun Q Z=>aI.pick h h1 h2 Z
def Ox.ld(h:aT E x=some a:=by exact eQ)(h1:gX P H t a=some v:=by exact j7):cA P cfg f (.load t x) E H v H:=dN fun Q z=>aI.load h h1 z
def Ox.st(h:aT E x=some a:=by exact eQ)(h1:aT E y=some b:=by exact eQ)(h2:lW P H t a b=some H':=by exact j7):∃v,cA P cfg f (.store t x y) E H v H':=DM fun Q z=>x9 h h1 h2 z
def Ox.nc{o:Nat}(h:aT E x=some (.ptr r o):=by exact eQ):cA P cfg f (.nilCheck x) E H (.ptr r o) H:=dN fun Q z=>aI.nilCheck h z
def Ox.bn{op:BinOp}(h:aT E x=some a:=by exact eQ)(h1:aT E y=some b:=by exact eQ)(h2:eD P cfg.dI op t a b=some v:=by exact j7):cA P cfg f (.binOp op t x y u) E H v H:=dN fun Q z=>aI.dn h h1 h2 z
def Ox.un{op:UnOp}(h:aT E x=some a:=by exact eQ)(h2:uN op a=some v:=by exact j7):cA P cfg f (.unOp op t x) E H v H:=dN fun Q z=>aI.un h h2 z
def Ox.cv(h:aT E x=some a:=by exact eQ)(h2:kX P H t u a=some v:=by exact j7):cA P cfg f (.convert t u x) E H v H:=dN fun Q z=>aI.convert h h2 z
def Ox.fa(h:aT E x=some a:=by exact eQ)(h2:uK P t a i=some v:=by exact j7):cA P cfg f (.fieldAddr t x i) E H v H:=dN fun Q z=>Mq h h2 z
def Ox.fi(h:aT E x=some a:=by exact eQ)(h2:wi P t a i=some v:=by exact j7):cA P cfg f (.field t x i) E H v H:=dN fun Q z=>aI.field h h2 z
def Ox.ia(h:aT E x=some a:=by exact eQ)(h1:aT E y=some b:=by exact eQ)(h2:el P t a b=some v:=by exact j7):cA P cfg f (.indexAddr t x y) E H v H:=dN fun Q z=>Mr h h1 h2 z
def Ox.ix(h:aT E x=some a:=by exact eQ)(h1:aT E y=some b:=by exact eQ)(h2:rC P t a b=some v:=by exact j7):cA P cfg f (.index t x y) E H v H:=dN fun Q z=>aI.index h h1 h2 z
def Ox.ex(h:aT E x=some a:=by exact eQ)(h2:Ab.extract a i=some v:=by exact j7):cA P cfg f (.extract x i) E H v H:=dN fun Q z=>aI.extract h h2 z
def Ox.al{z:qu}(h:cQ P t=some z:=by exact j7)(J:some H.next=some n:=by exact yf):cA P cfg f (.alloc t) E H (.ptr n 0) (H.alloc (.cells z 0 true)):=dN fun Q Z=>aI.alloc h J Z
def Ox.bx(h:aT E x=some a:=by exact eQ)(M:some a.cells=some cs:=by exact j7)(J:some H.next=some n:=by exact yf):cA P cfg f (.box t x) E H (.ptr n 0) (H.alloc (.cells cs 0 true)):=dN fun Q z=>aI.box h M J z
def Ox.bd{ps:qO}(h:lJ E M.toList=some ps:=by exact Nc)(h2:dd P t ps=some v:=by exact j7):cA P cfg f (.build t M) E H v H:=dN fun Q z=>aI.build h h2 z
def Ox.bs{ps:qO}(h:lJ E M.toList=some ps:=by exact Nc)(h2:de P H t n ps=some (v,H'):=by exact j7):cA P cfg f (.buildSlice t n M) E H v H':=dN fun Q z=>Ms h h2 z
def Ox.mm(J:some H.next=some n:=by exact yf):cA P cfg f (.makeMap t none) E H (.map n) (H.alloc (.map [])):=dN fun Q z=>aI.makeMap J z
def Ox.ms(h:aT E x=some a:=by exact eQ)(h1:aT E y=some b:=by exact eQ)(h2:pI P H t a b=some (v,H'):=by exact j7):cA P cfg f (.makeSlice t x y) E H v H':=dN fun Q z=>Mu h h1 h2 z
def Ox.lu{ok:Bool}(h:aT E x=some a:=by exact eQ)(h1:aT E y=some b:=by exact eQ)(h2:jS P H t a b ok=some v:=by exact j7):cA P cfg f (.lookup t x y ok) E H v H:=dN fun Q z=>aI.lookup h h1 h2 z
def Ox.mu{c:AV}(h:aT E x=some a:=by exact eQ)(h1:aT E y=some b:=by exact eQ)(h2:aT E z=some c:=by exact eQ)(C:oJ P H t a b c=some H':=by exact j7):∃v,cA P cfg f (.mapUpdate t x y z) E H v H':=DM fun Q Z=>Mt h h1 h2 C Z
def Ox.mf{g:FuncId}{cap:Array Operand}(h:jj E cap.toList=some vs:=by exact Nf):cA P cfg f (.makeFunc (.func g) #[] cap) E H (.bJ g vs) H:=dN fun Q z=>aI.makeFunc h z
def Ox.sl{M Z:qE}(h:aT E x=some a:=by exact eQ)(h1:kY E lo=some M:=by exact Ng)(h2:kY E I=some Z:=by exact Ng)(C:pF P H t a M Z=some v:=by exact j7):cA P cfg f (.slice t x lo I none) E H v H:=dN fun Q z=>aI.slice h h1 h2 C z
def Ox.ln{c:AV}(h:aT E x=some a:=by exact eQ)(h1:gO P H t a=some c:=by exact j7):cA P cfg f (.call ⟨.builtin .len,#[x],#[t]⟩) E H c H:=dN fun Q z=>aI.len h h1 z
def Ox.ap(h:aT E x=some a:=by exact eQ)(h1:aT E y=some b:=by exact eQ)(h2:cD P (cfg.keep f) H t u a b=some (v,H'):=by exact j7):cA P cfg f (.call ⟨.builtin .append,#[x,y],#[t,u]⟩) E H v H':=dN fun Q z=>kO h h1 h2 z
def Ox.mi{m:Int}(h:aT E x=some (.int k m):=by exact eQ)(h1:aT E y=some (.int Z U):=by exact eQ):cA P cfg f (.call ⟨.builtin .min,#[x,y],J⟩) E H (.int k (min m U)) H:=dN fun Q z=>aI.min2 h h1 z
def Ox.ma{m:Int}(h:aT E x=some (.int k m):=by exact eQ)(h1:aT E y=some (.int Z U):=by exact eQ):cA P cfg f (.call ⟨.builtin .max,#[x,y],J⟩) E H (.int k (max m U)) H:=dN fun Q z=>aI.max2 h h1 z
def Rx.o{op:Op}(z:aI P cfg f l (T.set E d (some v)) H' Q)(h:cA P cfg f op E H v H':=by first|apply(Ox.mv)|apply(Ox.as)|apply(Ox.pk)|apply(Ox.ld)|apply(Ox.nc)|apply(Ox.bn)|apply(Ox.un)|apply(Ox.cv)|apply(Ox.fa)|apply(Ox.fi)|apply(Ox.ia)|apply(Ox.ix)|apply(Ox.ex)|apply(Ox.al)|apply(Ox.bx)|apply(Ox.bd)|apply(Ox.bs)|apply(Ox.mm)|apply(Ox.ms)|apply(Ox.lu)|apply(Ox.mf)|apply(Ox.sl)|apply(Ox.ln)|apply(Ox.ap)|apply(Ox.mi)|apply(Ox.ma)):aI P cfg f (⟨some d,op,none⟩::l) E H Q:=cA.go z h
def Rx.on{op:Op}(z:aI P cfg f l E H' Q)(h:∃v,cA P cfg f op E H v H':=by first|apply(Ox.st)|apply(Ox.mu)):aI P cfg f (⟨none,op,none⟩::l) E H Q:=Nm z h
def jc:=@Rx.on
theorem Rx.call{k:FuncId}{cap ar:qu}(z:aR P cfg k ar H fun v H'=>aI P cfg f l (aC E m v) H' Q)(M:c.callee=.value g:=by rfl)(hg:aT E g=some (.bJ k cap):=by exact eQ)(Z:jj E c.args.toList=some vs:=by exact Nf)(O:vs++cap=ar:=by simp only[eR];first|done|exact rfl):aI P cfg f (⟨m,.call c,none⟩::l) E H Q:=aJ M hg Z (O▸z)
def eu:=@Rx.call
def Rx.gu{op:Op}{t:Bool}{v:AV}{R:Prop}(z:R)(h:some (E.at s)=some v:=by exact eQ)(Z:v=dH:=by with_reducible rfl)(e:aI P cfg f l (aC E m dH) H Q=R:=by exact ve):aI P cfg f (⟨m,op,some (s,t)⟩::l) E H Q:=aI.cO h Z (e▸z)
def Rx.gd{op:Op}{t:Bool}{R:Prop}(h1:V->q1->aI P cfg f (⟨m,op,none⟩::l) E H Q)(h2:Y->q2->R)(h:E.at s=.bool t:=by exact eQ)(Z:(t=tb)=V:=by(try simp only[sP,reduceCtorEq]);first|done|exact rfl)(M:(t=!tb)=Y:=by(try simp only[sP,reduceCtorEq]);first|done|exact rfl)(U:V=q1:=by(try simp only[sQ]);first|done|exact rfl)(O:Y=q2:=by(try simp only[sQ]);first|done|exact rfl)(e:aI P cfg f l (aC E m dH) H Q=R:=by exact ve):aI P cfg f (⟨m,op,some (s,tb)⟩::l) E H Q:=aI.guard h (fun k=>h1 (Z▸k) (U▸Z▸k)) (fun k=>e▸h2 (M▸k) (O▸M▸k))
def cL:=@Rx.gd
def Rx.gv{op:Op}{J:List Rc}{Q:List Rc->aq->Hp->Prop}{R:Prop}(z:R)(h:E.at s=dH:=by exact eQ)(e:dC P cfg f l (J++[⟨op,false,E,H,dH,H⟩]) (aC E m dH) H Q=R:=by exact ve):dC P cfg f (⟨m,op,some (s,tb)⟩::l) J E H Q:=dC.cO h (e▸z)
def Rx.cd{z:SC}{Q:AX->aq->Hp->Prop}{t:Bool}(h1:V->q1->bS P cfg f N z E H Q)(h2:Y->q2->bS P cfg f N C E H Q)(Z:aT E x=some (.bool t):=by exact eQ)(m:(t=true)=V:=by(try simp only[sP,reduceCtorEq]);first|done|exact rfl)(M:(t=false)=Y:=by(try simp only[sP,reduceCtorEq]);first|done|exact rfl)(U:V=q1:=by(try simp only[sQ]);first|done|exact rfl)(O:Y=q2:=by(try simp only[sQ]);first|done|exact rfl):bS P cfg f N (.cond x z C) E H Q:=bS.cond Z (fun k=>h1 (m▸k) (U▸m▸k)) (fun k=>h2 (M▸k) (O▸M▸k))
def bz:=@Rx.cd
def Oy.mv(h:aT E x=some v:=by exact eM):cA P cfg f (.move x) E H v H:=dN fun Q z=>aI.move h z
def Oy.as(h:aT E x=some v:=by exact eM):cA P cfg f (.assign x) E H v H:=dN fun Q z=>aI.assign h z
def Oy.pk{t:Bool}(h:aT E x=some (.bool t):=by exact eM)(h1:aT E y=some a:=by exact eM)(h2:aT E z=some b:=by exact eM):cA P cfg f (.pick x y z) E H (kJ t a b) H:=dN fun Q Z=>aI.pick h h1 h2 Z
def Oy.ld(h:aT E x=some a:=by exact eM)(h1:gX P H t a=some v:=by exact j8):cA P cfg f (.load t x) E H v H:=dN fun Q z=>aI.load h h1 z
def Oy.st(h:aT E x=some a:=by exact eM)(h1:aT E y=some b:=by exact eM)(h2:lW P H t a b=some H':=by exact j8):∃v,cA P cfg f (.store t x y) E H v H':=DM fun Q z=>x9 h h1 h2 z
def Oy.nc{o:Nat}(h:aT E x=some (.ptr r o):=by exact eM):cA P cfg f (.nilCheck x) E H (.ptr r o) H:=dN fun Q z=>aI.nilCheck h z
def Oy.bn{op:BinOp}(h:aT E x=some a:=by exact eM)(h1:aT E y=some b:=by exact eM)(h2:eD P cfg.dI op t a b=some v:=by exact j8):cA P cfg f (.binOp op t x y u) E H v H:=dN fun Q z=>aI.dn h h1 h2 z
def Oy.un{op:UnOp}(h:aT E x=some a:=by exact eM)(h2:uN op a=some v:=by exact j8):cA P cfg f (.unOp op t x) E H v H:=dN fun Q z=>aI.un h h2 z
def Oy.cv(h:aT E x=some a:=by exact eM)(h2:kX P H t u a=some v:=by exact j8):cA P cfg f (.convert t u x) E H v H:=dN fun Q z=>aI.convert h h2 z
def Oy.fa(h:aT E x=some a:=by exact eM)(h2:uK P t a i=some v:=by exact j8):cA P cfg f (.fieldAddr t x i) E H v H:=dN fun Q z=>Mq h h2 z
def Oy.fi(h:aT E x=some a:=by exact eM)(h2:wi P t a i=some v:=by exact j8):cA P cfg f (.field t x i) E H v H:=dN fun Q z=>aI.field h h2 z
def Oy.ia(h:aT E x=some a:=by exact eM)(h1:aT E y=some b:=by exact eM)(h2:el P t a b=some v:=by exact j8):cA P cfg f (.indexAddr t x y) E H v H:=dN fun Q z=>Mr h h1 h2 z
def Oy.ix(h:aT E x=some a:=by exact eM)(h1:aT E y=some b:=by exact eM)(h2:rC P t a b=some v:=by exact j8):cA P cfg f (.index t x y) E H v H:=dN fun Q z=>aI.index h h1 h2 z
def Oy.ex(h:aT E x=some a:=by exact eM)(h2:Ab.extract a i=some v:=by exact j8):cA P cfg f (.extract x i) E H v H:=dN fun Q z=>aI.extract h h2 z
def Oy.al{z:qu}(h:cQ P t=some z:=by exact j8)(J:some H.next=some n:=by exact yf):cA P cfg f (.alloc t) E H (.ptr n 0) (H.alloc (.cells z 0 true)):=dN fun Q Z=>aI.alloc h J Z
def Oy.bx(h:aT E x=some a:=by exact eM)(M:some a.cells=some cs:=by exact j8)(J:some H.next=some n:=by exact yf):cA P cfg f (.box t x) E H (.ptr n 0) (H.alloc (.cells cs 0 true)):=dN fun Q z=>aI.box h M J z
def Oy.bd{ps:qO}(h:lJ E M.toList=some ps:=by exact Nh)(h2:dd P t ps=some v:=by exact j8):cA P cfg f (.build t M) E H v H:=dN fun Q z=>aI.build h h2 z
def Oy.bs{ps:qO}(h:lJ E M.toList=some ps:=by exact Nh)(h2:de P H t n ps=some (v,H'):=by exact j8):cA P cfg f (.buildSlice t n M) E H v H':=dN fun Q z=>Ms h h2 z
def Oy.mm(J:some H.next=some n:=by exact yf):cA P cfg f (.makeMap t none) E H (.map n) (H.alloc (.map [])):=dN fun Q z=>aI.makeMap J z
def Oy.ms(h:aT E x=some a:=by exact eM)(h1:aT E y=some b:=by exact eM)(h2:pI P H t a b=some (v,H'):=by exact j8):cA P cfg f (.makeSlice t x y) E H v H':=dN fun Q z=>Mu h h1 h2 z
def Oy.lu{ok:Bool}(h:aT E x=some a:=by exact eM)(h1:aT E y=some b:=by exact eM)(h2:jS P H t a b ok=some v:=by exact j8):cA P cfg f (.lookup t x y ok) E H v H:=dN fun Q z=>aI.lookup h h1 h2 z
def Oy.mu{c:AV}(h:aT E x=some a:=by exact eM)(h1:aT E y=some b:=by exact eM)(h2:aT E z=some c:=by exact eM)(C:oJ P H t a b c=some H':=by exact j8):∃v,cA P cfg f (.mapUpdate t x y z) E H v H':=DM fun Q Z=>Mt h h1 h2 C Z
def Oy.mf{g:FuncId}{cap:Array Operand}(h:jj E cap.toList=some vs:=by exact Nk):cA P cfg f (.makeFunc (.func g) #[] cap) E H (.bJ g vs) H:=dN fun Q z=>aI.makeFunc h z
def Oy.sl{M Z:qE}(h:aT E x=some a:=by exact eM)(h1:kY E lo=some M:=by exact Nl)(h2:kY E I=some Z:=by exact Nl)(C:pF P H t a M Z=some v:=by exact j8):cA P cfg f (.slice t x lo I none) E H v H:=dN fun Q z=>aI.slice h h1 h2 C z
def Oy.ln{c:AV}(h:aT E x=some a:=by exact eM)(h1:gO P H t a=some c:=by exact j8):cA P cfg f (.call ⟨.builtin .len,#[x],#[t]⟩) E H c H:=dN fun Q z=>aI.len h h1 z
def Oy.ap(h:aT E x=some a:=by exact eM)(h1:aT E y=some b:=by exact eM)(h2:cD P (cfg.keep f) H t u a b=some (v,H'):=by exact j8):cA P cfg f (.call ⟨.builtin .append,#[x,y],#[t,u]⟩) E H v H':=dN fun Q z=>kO h h1 h2 z
def Oy.mi{m:Int}(h:aT E x=some (.int k m):=by exact eM)(h1:aT E y=some (.int Z U):=by exact eM):cA P cfg f (.call ⟨.builtin .min,#[x,y],J⟩) E H (.int k (min m U)) H:=dN fun Q z=>aI.min2 h h1 z
def Oy.ma{m:Int}(h:aT E x=some (.int k m):=by exact eM)(h1:aT E y=some (.int Z U):=by exact eM):cA P cfg f (.call ⟨.builtin .max,#[x,y],J⟩) E H (.int k (max m U)) H:=dN fun Q z=>aI.max2 h h1 z
def Ry.o{op:Op}(z:aI P cfg f l (T.set E d (some v)) H' Q)(h:cA P cfg f op E H v H':=by first|apply(Oy.mv)|apply(Oy.as)|apply(Oy.pk)|apply(Oy.ld)|apply(Oy.nc)|apply(Oy.bn)|apply(Oy.un)|apply(Oy.cv)|apply(Oy.fa)|apply(Oy.fi)|apply(Oy.ia)|apply(Oy.ix)|apply(Oy.ex)|apply(Oy.al)|apply(Oy.bx)|apply(Oy.bd)|apply(Oy.bs)|apply(Oy.mm)|apply(Oy.ms)|apply(Oy.lu)|apply(Oy.mf)|apply(Oy.sl)|apply(Oy.ln)|apply(Oy.ap)|apply(Oy.mi)|apply(Oy.ma)):aI P cfg f (⟨some d,op,none⟩::l) E H Q:=cA.go z h
def Ry.on{op:Op}(z:aI P cfg f l E H' Q)(h:∃v,cA P cfg f op E H v H':=by first|apply(Oy.st)|apply(Oy.mu)):aI P cfg f (⟨none,op,none⟩::l) E H Q:=Nm z h
def iS:=@Ry.on
theorem Ry.call{k:FuncId}{cap ar:qu}(z:aR P cfg k ar H fun v H'=>aI P cfg f l (aC E m v) H' Q)(M:c.callee=.value g:=by rfl)(hg:aT E g=some (.bJ k cap):=by exact eM)(Z:jj E c.args.toList=some vs:=by exact Nk)(O:vs++cap=ar:=by simp only[eR];first|done|exact rfl):aI P cfg f (⟨m,.call c,none⟩::l) E H Q:=aJ M hg Z (O▸z)
def iz:=@Ry.call
def Ry.gu{op:Op}{t:Bool}{v:AV}{R:Prop}(z:R)(h:some (E.at s)=some v:=by exact eM)(Z:v=dH:=by with_reducible rfl)(e:aI P cfg f l (aC E m dH) H Q=R:=by exact ve):aI P cfg f (⟨m,op,some (s,t)⟩::l) E H Q:=aI.cO h Z (e▸z)
def Ry.gd{op:Op}{t:Bool}{R:Prop}(h1:V->q1->aI P cfg f (⟨m,op,none⟩::l) E H Q)(h2:Y->q2->R)(h:E.at s=.bool t:=by exact eM)(Z:(t=tb)=V:=by(try simp only[sP,reduceCtorEq]);first|done|exact rfl)(M:(t=!tb)=Y:=by(try simp only[sP,reduceCtorEq]);first|done|exact rfl)(U:V=q1:=by(try simp only[sQ]);first|done|exact rfl)(O:Y=q2:=by(try simp only[sQ]);first|done|exact rfl)(e:aI P cfg f l (aC E m dH) H Q=R:=by exact ve):aI P cfg f (⟨m,op,some (s,tb)⟩::l) E H Q:=aI.guard h (fun k=>h1 (Z▸k) (U▸Z▸k)) (fun k=>e▸h2 (M▸k) (O▸M▸k))
def jy:=@Ry.gd
def Ry.gt{op:Op}{t:Bool}{J:List Rc}{Q:List Rc->aq->Hp->Prop}{R:Prop}(h1:V->q1->dC P cfg f (⟨m,op,none⟩::l) J E H Q)(h2:Y->q2->R)(h:E.at s=.bool t:=by exact eM)(Z:(t=tb)=V:=by(try simp only[sP,reduceCtorEq]);first|done|exact rfl)(M:(t=!tb)=Y:=by(try simp only[sP,reduceCtorEq]);first|done|exact rfl)(U:V=q1:=by(try simp only[sQ]);first|done|exact rfl)(O:Y=q2:=by(try simp only[sQ]);first|done|exact rfl)(e:dC P cfg f l (J++[⟨op,false,E,H,dH,H⟩]) (aC E m dH) H Q=R:=by exact ve):dC P cfg f (⟨m,op,some (s,tb)⟩::l) J E H Q:=dC.guard h (fun k=>h1 (Z▸k) (U▸Z▸k)) (fun k=>e▸h2 (M▸k) (O▸M▸k))
def Ry.gv{op:Op}{J:List Rc}{Q:List Rc->aq->Hp->Prop}{R:Prop}(z:R)(h:E.at s=dH:=by exact eM)(e:dC P cfg f l (J++[⟨op,false,E,H,dH,H⟩]) (aC E m dH) H Q=R:=by exact ve):dC P cfg f (⟨m,op,some (s,tb)⟩::l) J E H Q:=dC.cO h (e▸z)
def Ry.cd{z:SC}{Q:AX->aq->Hp->Prop}{t:Bool}(h1:V->q1->bS P cfg f N z E H Q)(h2:Y->q2->bS P cfg f N C E H Q)(Z:aT E x=some (.bool t):=by exact eM)(m:(t=true)=V:=by(try simp only[sP,reduceCtorEq]);first|done|exact rfl)(M:(t=false)=Y:=by(try simp only[sP,reduceCtorEq]);first|done|exact rfl)(U:V=q1:=by(try simp only[sQ]);first|done|exact rfl)(O:Y=q2:=by(try simp only[sQ]);first|done|exact rfl):bS P cfg f N (.cond x z C) E H Q:=bS.cond Z (fun k=>h1 (m▸k) (U▸m▸k)) (fun k=>h2 (M▸k) (O▸M▸k))
def bu:=@Ry.cd
def eE(h:p:=by exact Iq):p:=h
def AH(h:p:=by first|(simp only[aG,aY,tyF,Nat.reduceBEq,Nat.reduceAdd,Nat.reduceLeDiff, *];done)|rfl):p:=h
def dY(h:p:=by((try simp only[aG,Nat.reduceBEq, *]);first|done|with_reducible rfl)):p:=h
def wT(h:p:=by((try simp only[aG,aY,tyF,Nat.reduceBEq,Nat.reduceAdd,Nat.reduceLeDiff, *]);first|done|with_reducible rfl)):p:=h
def aO(h:p:=by((try simp only[aG,Nat.reduceBEq,cF,cR, *]);first|done|with_reducible rfl)):p:=h
def Nn(h:p:=by((try simp only[aG,aY,tyF,Nat.reduceBEq,Nat.reduceAdd,Nat.reduceLeDiff,cF,cR, *]);first|done|with_reducible rfl)):p:=h
def aK(h:p:=by((try simp only[aG,Nat.reduceBEq, *,-hK]);first|done|with_reducible rfl)):p:=h
def aL(h:p:=by((try simp only[aG,Nat.reduceBEq,jj,AG, *,-hK]);first|done|with_reducible rfl)):p:=h
def qd{P:Program}{cfg:Cfg}{f:FuncId}{E:aq}{H:Hp}{Q:aq->Hp->Prop}{d:qK}{k:FuncId}{cap ws:qu}{l:List SOp}(h:aR P cfg k ws H fun v H'=>aI P cfg f l (aC E d v) H' Q)(i:c.callee=.value g:=by exact rfl)(j:aT E g=some (.bJ k cap):=by exact aK)(m:jj E c.args.toList=some vs:=by exact aL)(e:vs++cap=ws:=by(try simp only[eR]);first|done|exact rfl):aI P cfg f (⟨d,.call c,none⟩::l) E H Q:=aJ i j m (e▸h)
def qc{P:Program}{cfg:Cfg}{f:FuncId}{E:aq}{H:Hp}{Q:aq->Hp->Prop}{d:qK}{k:FuncId}{cap ws:qu}{l:List SOp}(h:aR P cfg k ws H fun v H'=>aI P cfg f l (aC E d v) H' Q)(i:c.callee=.value g:=by exact rfl)(j:aT E g=some (.bJ k cap):=by exact aK)(m:jj E c.args.toList=some vs:=by exact aL)(e:vs++cap=ws:=by(try simp only[aS]);first|done|exact rfl):aI P cfg f (⟨d,.call c,none⟩::l) E H Q:=aJ i j m (e▸h)
def aB(h:p:=by first|exact .inl rfl|exact .inr rfl|exact .inl trivial|exact .inr trivial):p:=h
def qq{A:Prop}{a:Option qu}{v:qu}{R:qu->Prop}{T:Prop}(h:T)(i:A:=by exact aB)(j:a=some v:=by exact aO)(k:R v=T:=by(try simp only[aA]);first|done|exact rfl):A/\∃vs,a=some vs/\R vs:=⟨i,v,j,k▸h⟩
def a0(h:p:=by simp only[bC,aZ,aW,aG,aY,tyF,Nat.reduceBEq,Nat.reduceAdd,Nat.reduceLeDiff, *]):p:=h
def ca(h:p:=by(try simp only[aU,bq,ce,bR,Nat.reduceAdd]);omega):p:=h
def fA{Q:AX->aq->Hp->Prop}{R:Prop}(h:R)(e:Q .normal E H=R:=by exact DJ):bS P cfg f N .skip E H Q:=bS.skip (e▸h)
def Rx.rt{Q:AX->aq->Hp->Prop}{R:Prop}(h:R)(e:Q .ret E H=R:=by exact DJ):bS P cfg f N .ret E H Q:=bS.ret (e▸h)
def gJ:=@Rx.rt
def iT{id:Nat}{Q:AX->aq->Hp->Prop}{R:Prop}(h:R)(e:Q (.exit id) E H=R:=by first|(simp only[lP,pR,reduceIte];first|done|exact rfl)|(dsimp only[];first|done|exact rfl)|exact rfl):bS P cfg f N (.exit id) E H Q:=bS.exit (e▸h)
def cn(h:p:=by(refine⟨?_,?_⟩<;>simp only[lL,lw,mV,AF,tY,It,AB,aU,bq,ay,kN,aW]<;>(repeat' apply ad)<;>first
 |(intro r hr;cases hr;done)
 |(refine X7 (by simp only[lL,lw,mV,AF,tY,It];rfl) (fun hd=>?_)
   simp only[Aw,lL,lw,mV,AF,tY,It]at hd⊢;first
   |(cases hd;done)
   |exact XY dY wT
   |exact XZ dY dY wT
   |exact X2 dY wT
   |exact X3 dY wT
   |exact X4 dY (by simp only[kY];first|rfl|simp only[aG,Nat.reduceBEq, *]) (by simp only[kY];first|rfl|simp only[aG,Nat.reduceBEq, *]) wT
   |exact X6 rfl wT wT)
 |exact ay _
 |assumption
 |omega)):p:=h
variable {N:Nat} {ops:qB} {Q2:AX -> aq -> Hp -> Prop}
def ci(id:Nat)(need:qP)(h:∀K:List Rc->aq->Hp->Prop,(∀J E' H',oS P cfg need J H'->Q2 .normal E' H'->K J E' H')->dC P cfg f l [] E H K)(C:cfg.ca f id=.text:=by exact DK)(V:nO ops=true:=by kernel_rfl)(U:bw N ops ops=some l:=by exact Ir)(Z:lY ops=need:=by kernel_rfl):bS P cfg f N (.bK id ops) E H Q2:=XX C V U Z h
theorem Rx.dS{Y:aq}{U:Hp}{l1 l2:List SOp}(id p q:Nat)(ord:qG)(j m:qP)(h1:dC P cfg f l1 [] E H fun J E' H'=>oS P cfg j J H'/\E'=Y/\H'=U)(h2:dC P cfg f l2 [] E H fun J E' H'=>oS P cfg m J H'/\E'=Y/\H'=U)(Z:Q2 .normal Y U)(C:cfg.ca f id=.split p q .text (.cn ord):=by exact DK)(z:Nat.beq p q=false:=by rfl)(O:nO (eU q p ops)=true:=by kernel_rfl)(s1:bw N ops ops=some l1:=by exact Ir)(cS:lY (eU q p ops)=j:=by kernel_rfl)(I:wq ord (eU p q ops)=true:=by kernel_rfl)(V:nO (fo ord (eU p q ops))=true:=by kernel_rfl)(M:bw N (fo ord ops) (fo ord ops)=some l2:=by exact Is)(n2:lY (fo ord (eU p q ops))=m:=by kernel_rfl):bS P cfg f N (.bK id ops) E H Q2:=zaQ C z O s1 cS I V M n2 h1 h2 Z
def Iu(id:Nat)(ord:qG)(need:qP)(h:∀K:List Rc->aq->Hp->Prop,(∀J E' H',oS P cfg need J H'->Q2 .normal E' H'->K J E' H')->dC P cfg f l [] E H K)(C:cfg.ca f id=.cn ord:=by exact DK)(hb:wq ord ops=true:=by kernel_rfl)(V:nO (fo ord ops)=true:=by kernel_rfl)(U:bw N (fo ord ops) (fo ord ops)=some l:=by exact Is)(Z:lY (fo ord ops)=need:=by kernel_rfl):bS P cfg f N (.bK id ops) E H Q2:=MH C hb V U Z h
def wU(id:Nat)(h:∀K:aq->Hp->Prop,(∀E' H',Q2 .normal E' H'->K E' H')->aI P cfg f l E H K)(C:cfg.ca f id=.text:=by exact DK)(V:Ds ops=true:=by kernel_rfl)(U:bw N ops ops=some l:=by exact Ir):bS P cfg f N (.bK id ops) E H Q2:=bS.bK C V U h
end
end Go.Proofs.YtpbcimfiofmoeaaGreat
namespace Go.Ab
set_option maxRecDepth 20000
open Go
variable{V:qu}{P:Program}{cfg:Cfg}{g:FuncId}{I:Type}{r i:Nat}{H a b c:Hp}{x y:Ex}{s:qA}
def fQ(v:AV):Prop:=∃k,∀m,k<=m->∀H,iceV H m v=some v
def gl(l:qu):Prop:=∀v∈l,fQ v
def gl.nil:gl []:=fun _ h=>pP
def gl.cons{v:AV}{l:qu}(h:fQ v)(O:gl l):gl (v::l):=fun w M=>by
 rcases gH.1 M with rfl|M
 .exact h
 .exact O _ M
theorem gl.dX:∀{l:qu},gl l->∃k,∀m,k<=m->∀H,iceL (iceV H m) l=some l
 |[],_=>⟨0,fun _ _ _=>rfl⟩
 |v::l,h=>by
  obtain⟨O,Z⟩:=h v eg;obtain⟨C,j⟩:=gl.dX (l:=l) fun w M=>h w (en _ M)
  exact⟨max O C,fun m Y H=>by simp only[iceL,Z m ac H,j m ac H]⟩
theorem No:∀{l:List qu},(∀I∈l,gl I)->∃k,∀m,k<=m->∀H,uU (iceV H m) l=some l
 |[],_=>⟨0,fun _ _ _=>rfl⟩
 |v::l,h=>by
  obtain⟨O,Z⟩:=(h v eg).dX;obtain⟨C,j⟩:=No (l:=l) fun w M=>h w (en _ M)
  exact⟨max O C,fun m Y H=>by simp only[uU,Z m ac H,j m ac H]⟩
def fQ.one{v:AV}(h:∀m H,iceV H (m+1) v=some v):fQ v:=⟨1,fun m Y H=>by
 obtain⟨m,rfl⟩:∃k,m=k+1:=⟨m-1,ac⟩;exact h m H⟩
theorem fQ.int(k:IntKind)(n:Int):fQ (.int k n):=.one fun _ _=>rfl
theorem fQ.bool(b:Bool):fQ (.bool b):=.one fun _ _=>rfl
theorem fQ.aj(s:qA):fQ (.aj s):=.one fun _ _=>rfl
theorem fQ.ag:fQ .ag:=.one fun _ _=>rfl
def fQ.az{l:List qu}(h:∀I∈l,gl I):fQ (.az l):=by
 obtain⟨k,z⟩:=No h;refine⟨k+1,fun m Y H=>?_⟩;obtain⟨m,rfl⟩:∃k,m=k+1:=⟨m-1,ac⟩;simp only[iceV,z m ac H]
def fQ.agg{l:qu}(h:gl l):fQ (.agg l):=by
 obtain⟨k,z⟩:=h.dX;refine⟨k+1,fun m Y H=>?_⟩;obtain⟨m,rfl⟩:∃k,m=k+1:=⟨m-1,ac⟩;simp only[iceV,z m ac H]
def fQ.a6{l:qu}(h:gl l):fQ (.a6 l):=by
 obtain⟨k,z⟩:=h.dX;refine⟨k+1,fun m Y H=>?_⟩;obtain⟨m,rfl⟩:∃k,m=k+1:=⟨m-1,ac⟩;simp only[iceV,z m ac H]
def fQ.map{I:Type}{l:List I}{f:I->qu}(h:∀x∈l,gl (f x)):fQ (.az (l.map f)):=.az fun Z hr=>by
 grind
def Np(h:gl V):∃k,uV k V=true:=by
 obtain⟨k,z⟩:=h.dX;exact⟨k,by unfold uV;rw[z k (ay _) bt];exact tQ V⟩
def Nq(fit:Fit P){ρ:Nat->Int}(Z:pO cfg.dI ρ)(M:∀f V r,cfg.call f V=some r->bX P ρ f V r){V:qu}{r:AV}
 (Y:gl V) (hr:fQ r) (h:aR P cfg g V bt fun v _=>v=r):bX P ρ g V r:=by
 obtain⟨k,z⟩:=Np Y;obtain⟨m,U⟩:=hr;exact Mp (m:=m) fit Z M z (aF (fun v H' e=>bb) h)
def Iv(fit:Fit P){ρ:Nat->Int}(Z:pO cfg.dI ρ)(M:∀f V r,cfg.call f V=some r->bX P ρ f V r){V:qu}{r:AV}{m:Nat}
 (Y:gl V) (h:aR P cfg g V bt fun v H'=>iceV H' m v=some r):bX P ρ g V r:=by
 obtain⟨k,z⟩:=Np Y;exact Mp (m:=m) fit Z M z h
structure En where
 f:FuncId
 aG:Bool
 sp:qu->qE
variable{f:FuncId}
abbrev qC:=List En
variable{l:qC}
def dE:qC->FuncId->qu->qE
 |[],_,_=>none
 |e::l,f,args=>match Nat.beq e.f f with
  |true=>e.sp args
  |false=>dE l f args
def iA:qC->FuncId->Bool
 |[],_=>false
 |e::l,f=>match Nat.beq e.f f with
  |true=>e.aG
  |false=>iA l f
noncomputable def au(pls:List (Nat×Nat×zf4))(l:qC):Cfg:={keep:=fun _=>false,call:=dE l,aG:=iA l,ca:=An pls}
def dI(P:Program)(ρ:Nat->Int)(e:En):Prop:=∀V r,e.sp V=some r->bX P ρ e.f V r
def gT(P:Program)(ρ:Nat->Int):qC->Prop
 |[]=>True
 |e::l=>dI P ρ e/\gT P ρ l
theorem gT.dW{P:Program}{ρ:Nat->Int}:∀{l:qC},gT P ρ l->∀f V r,dE l f V=some r->bX P ρ f V r
 |[],_,_,_,_,h=>by simp[dE]at h
 |e::l,hl,f,V,r,h=>by
  simp only[dE]at h;split at h
  .rename_i j;rw[<-rH j];exact hl.1 V r h
  .exact gT.dW hl.2 f V r h
noncomputable def co(ok:I->Prop)(enc:I->qu)(out:I->AV)(V:qu):qE:=open Classical in
 if h:∃x,ok x/\enc x=V then some (out (Classical.choose h))else none
def DN{I:Type}{ok:I->Prop}{enc:I->qu}{out:I->AV}(V:∀x y,enc x=enc y->x=y){x:I}(C:ok x):co ok enc out (enc x)=some (out x):=by
 unfold co;have h:∃y,ok y/\enc y=enc x:=⟨x,C,rfl⟩
 grind
def Iw{I:Type}{ok:I->Prop}{enc:I->qu}{out:I->AV}(h:∀x,ok x->enc x≠V):co ok enc out V=none:=by
 unfold co;simp_all
def dT{ρ:Nat->Int}{I:Type}{ok:I->Prop}{ice:Bool}{enc:I->qu}{out:I->AV}(h:∀x,ok x->bX P ρ f (enc x) (out x)):dI P ρ ⟨f,ice,co ok enc out⟩:=fun V r hr=>by
 change co ok enc out V=some r at hr;unfold co at hr;split at hr
 .grind
 .simp at hr
attribute [irreducible] co
def Ix{r:AV}(h:cfg.call g V=some r):aR P cfg g V H fun v H'=>v=r/\H'=H:=WW h ⟨rfl,rfl⟩
def cV{pls:List (Nat×Nat×zf4)}{I:Type}{ok:I->Prop}{enc:I->qu}{out:I->AV}(V:∀x y,enc x=enc y->x=y){x:I}(O:dE l g (enc x)=co ok enc out (enc x))(C:ok x):
 aR P (au pls l) g (enc x) H fun v H'=>v=out x/\H'=H:=Ix (by show dE l g (enc x)=_;rw[O];exact DN V C)
def DO{pls:List (Nat×Nat×zf4)}{I:Type}{ok:I->Prop}{enc:I->qu}{out:I->AV}(Z:∀x y,enc x=enc y->x=y){x:I}(O:∀m,dE l g m=co ok enc out m)(Y:iA l g=true)(C:ok x){H':Hp}
 (J:∀y,ok y->enc y≠V) (U:iG (fT 100) V H=some (enc x,H')) :
 aR P (au pls l) g V H fun v z=>v=out x/\z=H':=Mo (by show dE l g V=none;rw[O];exact Iw J) Y rfl U (by show dE l g (enc x)=_;rw[O];exact DN Z C) ⟨rfl,rfl⟩
def wV{ρ:Nat->Int}(fit:Fit P){pls:List (Nat×Nat×zf4)}(O:gT P ρ l)(sz:I->Nat){ok:I->Prop}{enc:I->qu}{out:I->AV}
 (Z:∀x,ok x->gl (enc x)) (hr:∀x,ok x->fQ (out x))
 (h:∀x,ok x->aR P (au pls (⟨f,false,co (fun y=>ok y/\sz y<sz x) enc out⟩::l)) f (enc x) bt fun v _=>v=out x):∀x,ok x->bX P ρ f (enc x) (out x):=by
 have z:∀n x,sz x<n->ok x->bX P ρ f (enc x) (out x):=by
  intro n;induction n with
  |zero=>intro x hx;omega
  |succ n ih=>
   intro x hx m;exact Nq (cfg:=au pls (⟨f,false,co (fun y=>ok y/\sz y<sz x) enc out⟩::l)) fit (u5 ρ) (fun g V r hg=>gT.dW (l:=⟨f,false,co (fun y=>ok y/\sz y<sz x) enc out⟩::l) ⟨dT fun y hy=>ih y ac hy.1,O⟩ g V r hg) (Z x m) (hr x m) (h x m)
 exact fun x=>z (sz x+1) x (bT _)
def fB{ρ:Nat->Int}(fit:Fit P){pls:List (Nat×Nat×zf4)}(O:gT P ρ l){r:AV}(Z:gl V)(hr:fQ r)(h:aR P (au pls l) f V bt fun v _=>v=r):bX P ρ f V r:=
 Nq fit (u5 ρ) (fun g m r hg=>gT.dW O g m r hg) Z hr h
abbrev bB(n:Int):Int:=IntKind.wrap .i64 n
section
variable (q:Ex -> Int -> Bool)
mutual
def mX:Ex->Int->Bool
 | .mk k n s o C,d=>q (.mk k n s o C) d&&jz C (bB (d+1))
def jz:qI->Int->Bool
 |[],_=>true
 |e::es,d=>mX e d&&jz es d
end
def Iy(e:Ex)(d:Int):mX q e d=(q e d&&jz q e.ao (bB (d+1))):=by
 cases e;simp only[mX,Ex.ao]
def DP{l:qI}(h:i<l.length)(d:Int):jz q (l.drop i) d=(mX q l[i] d&&jz q (l.drop (i+1)) d):=by
 rw[gI h,jz]
end
section
variable {σ:Type} (q:St -> Int -> σ -> Bool × σ)
mutual
def mw:St->Int->σ->Bool×σ
 | .mk k Z J n a v V M O,d,s=>match q (.mk k Z J n a v V M O) d s with
   |(false,s)=>(false,s)
   |(true,s)=>match fw M (bB (d+1)) s with
    |(false,s)=>(false,s)
    |(true,s)=>fw O (bB (d+1)) s
def fw:qD->Int->σ->Bool×σ
 |[],_,s=>(true,s)
 |x::l,d,s=>match mw x d s with
  |(false,s)=>(false,s)
  |(true,s)=>fw l d s
end
def zaR(x:St)(d:Int)(s:σ):mw q x d s=match q x d s with
 |(false,s)=>(false,s)
 |(true,s)=>match fw q x.bl (bB (d+1)) s with
  |(false,s)=>(false,s)
  |(true,s)=>fw q x.bA (bB (d+1)) s:=by
 cases x;simp only[mw,St.bl,St.bA]
def zaS{l:qD}(h:i<l.length)(d:Int)(s:σ):fw q (l.drop i) d s=match mw q l[i] d s with
 |(false,s)=>(false,s)
 |(true,s)=>fw q (l.drop (i+1)) d s:=by
 rw[gI h,fw]
end
mutual
def Ex.sz:Ex->Nat
 | .mk _ _ s _ C=>1+s.length+cy C
def cy:qI->Nat
 |[]=>0
 |e::es=>1+e.sz+cy es
end
mutual
def St.sz:St->Nat
 | .mk _ M J _ a v V Z O=>1+M.length+J.length+a.sz+v.sz+cy V+bi Z+bi O
def bi:qD->Nat
 |[]=>0
 |x::l=>1+x.sz+bi l
end
def cP:qx->Nat
 |[]=>0
 |s::l=>1+s.length+cP l
def Fu.sz(f:Fu):Nat:=1+f.name.length+cP f.params+cP f.ak+bi f.body+f.value.sz
def dO:qN->Nat
 |[]=>0
 |f::l=>1+f.sz+dO l
def eA:List Ar->Nat
 |[]=>0
 |a::l=>1+a.name.length+eA l
def Pr.sz(p:Pr):Nat:=1+eA p.aa+dO p.funcs
theorem mY:∀l:qI,l.length<=cy l
 |[]=>ay _
 |e::es=>by have:=mY es;simp only[gF,cy];omega
theorem mZ:∀l:qD,l.length<=bi l
 |[]=>ay _
 |e::es=>by have:=mZ es;simp only[gF,bi];omega
theorem iU:∀l:qx,l.length<=cP l
 |[]=>ay _
 |e::es=>by have:=iU es;simp only[gF,cP];omega
theorem m0:∀l:qN,l.length<=dO l
 |[]=>ay _
 |e::es=>by have:=m0 es;simp only[gF,dO];omega
theorem m1:∀l:List Ar,l.length<=eA l
 |[]=>ay _
 |e::es=>by have:=m1 es;simp only[gF,eA];omega
theorem n1:∀{l:qI}{x:Ex},x∈l->x.sz<cy l
 |[],_,h=>by simp at h
 |e::es,x,h=>by
  rcases gH.1 h with rfl|h
  .simp only[cy];omega
  .have:=n1 h;simp only[cy];omega
theorem my:∀{l:qD}{x:St},x∈l->x.sz<bi l
 |[],_,h=>by simp at h
 |e::es,x,h=>by
  rcases gH.1 h with rfl|h
  .simp only[bi];omega
  .have:=my h;simp only[bi];omega
theorem DQ:∀{l:qx}{x:qA},x∈l->x.length<cP l
 |[],_,h=>by simp at h
 |e::es,x,h=>by
  rcases gH.1 h with rfl|h
  .simp only[cP];omega
  .have:=DQ h;simp only[cP];omega
theorem oc:∀{l:qN}{x:Fu},x∈l->x.sz<dO l
 |[],_,h=>by simp at h
 |e::es,x,h=>by
  rcases gH.1 h with rfl|h
  .simp only[dO];omega
  .have:=oc h;simp only[dO];omega
def Ex.aV(e:Ex):e.sz=1+e.name.length+cy e.ao:=by cases e;simp only[Ex.sz,Ex.name,Ex.ao]
def St.aV(x:St):x.sz=1+x.name.length+x.to.length+x.a8.sz+x.value.sz+cy x.args+bi x.bl+bi x.bA:=by cases x;simp only[St.sz,St.name,St.to,St.a8,St.value,St.args,St.bl,St.bA]
structure FrB (base:Nat) (H H':Hp):Prop where
 next:H.next<=H'.next
 get:∀r,base<=r->r<H.next->H'.get r=H.get r
def FrB.refl(base:Nat)(H:Hp):FrB base H H:=⟨ay _,fun _ _ _=>rfl⟩
def jA:=@FrB.refl
def FrB.trans{base:Nat}(h:FrB base a b)(k:FrB base b c):FrB base a c:=⟨dw h.next k.next,fun r m j=>(k.get r m (lh j h.next)).trans (h.get r m j)⟩
def FrB.alloc{base:Nat}(h:FrB base a b)(x:HB):FrB base a (b.alloc x):=⟨dw h.next (cG _),fun r m j=>by
 have:=h.next
 rw[aD,af ac];exact h.get r m j⟩
def FrB.set{base:Nat}(h:FrB base a b)(hr:a.next<=r\/r<base)(x:HB):FrB base a (b.set r x):=⟨h.next,fun k m j=>by
 rw[aM,af ac];exact h.get k m j⟩
def jd(base:Nat)(H H':Hp):Prop:=∀r,r<base->H'.get r=H.get r
theorem jd.refl(base:Nat)(H:Hp):jd base H H:=fun _ _=>rfl
def rO:=@jd.refl
def jd.trans{base:Nat}(h:jd base a b)(k:jd base b c):jd base a c:=fun r hr=>(k r hr).trans (h r hr)
def jd.alloc{base:Nat}(h:jd base a b)(hb:base<=b.next)(x:HB):jd base a (b.alloc x):=fun r hr=>by rw[aD,af ac];exact h r hr
def jd.set{base:Nat}(h:jd base a b)(hr:base<=r)(x:HB):jd base a (b.set r x):=fun k z=>by rw[aM,af ac];exact h k z
def FrB.ef{base V:Nat}(h:base<=V)(k:FrB base a b):FrB V a b:=⟨k.next,fun r m j=>k.get r (dw h m) j⟩
def jd.ef{base V:Nat}(h:base<=V)(k:jd V a b):jd base a b:=fun r hr=>k r (lh hr h)
def pT(x:St)(d:Int)(s:Int×Int):Bool×(Int×Int):=
 let n:=bB (s.1+1)
 let l:=if x.am=4 then bB (s.2+1)else s.2
 (decide (d<=20)&&decide (n<=200)&&decide (l<=16),(n,l))
def tZ(_:Ex)(d:Int):Bool:=decide (d<=20)
def pU(q:Ex->Int->Bool)(x:St)(_:Int)(s:Unit):Bool×Unit:=(mX q x.a8 0&&mX q x.value 0&&jz q x.args 0,s)
def pV(q:Ex->Int->Bool)(f:Fu):Bool:=mX q f.value 0&&(fw (pU q) f.body 0 ()).1
def j9(f:Fu):Bool:=decide ((f.params.length:Int)<=6)&&decide ((f.ak.length:Int)<=8)&&(fw pT f.body 0 (0,0)).1&&pV tZ f
def lQ(p:Pr):Bool:=!decide (4<(p.aa.length:Int)) && !decide (8<(p.funcs.length:Int))&&p.aa.all (fun a=>!decide (a.len<1) && !decide (16<a.len))&&p.funcs.all j9
def Ex.pure(x:Ex):gl x.cells:=by
 have z:∀n (x:Ex),x.sz<n->gl x.cells:=by
  intro n;induction n with
  |zero=>intro x h;omega
  |succ n ih=>
   intro x h;rw[j0];refine .cons (.int _ _) (.cons (.int _ _) (.cons (.aj _) (.cons (.int _ _) (.cons (.map fun y hy=>ih y ?_) .nil))));have:=n1 hy;have:=x.aV;omega
 exact z _ x (bT _)
def AI(l:qI):fQ (.az (l.map Ex.cells)):=.map fun x _=>x.pure
def St.pure(x:St):gl x.cells:=by
 have z:∀n (x:St),x.sz<n->gl x.cells:=by
  intro n;induction n with
  |zero=>intro x h;omega
  |succ n ih=>
   intro x h;rw[nX];have:=x.aV;refine .cons (.int _ _) (.cons (.aj _) (.cons (.aj _) (.cons (.int _ _) (.cons (.int _ _) (.cons (.int _ _) (.cons (.aj _) (.cons (.int _ _) (.cons (AI _) (.cons (.int _ _) (.cons (.int _ _) (.cons (.aj _) (.cons (.int _ _) (.cons (AI _) (.cons (AI _) (.cons (.map fun y hy=>ih y ?_) (.cons (.map fun y hy=>ih y ?_) .nil))))))))))))))))
   .have:=my hy;omega
   .have:=my hy;omega
 exact z _ x (bT _)
def yh(l:qD):fQ (.az (l.map St.cells)):=.map fun x _=>x.pure
def vh(l:qx):fQ (cH l):=.map fun x _=>.cons (.aj _) .nil
def Fu.pure(x:Fu):gl x.cells:=by
 rw[wO];exact .cons (.aj _) (.cons (vh _) (.cons (vh _) (.cons (yh _) (.cons (.int _ _) (.cons (.int _ _) (.cons (.aj _) (.cons (.int _ _) (.cons (AI _) .nil))))))))
def Ar.pure(x:Ar):gl x.cells:=.cons (.aj _) (.cons (.int _ _) .nil)
def Pr.pure(x:Pr):gl x.cells:=.cons (.map fun x _=>x.pure) (.cons (.map fun x _=>x.pure) .nil)
theorem ng{I β:Type}{f:I->β}:∀{a b:List I},(∀x∈a,∀y,f x=f y->x=y)->a.map f=b.map f->a=b
 |[],[],_,_=>rfl
 |[],_::_,_,h=>by simp at h
 |_::_,[],_,h=>by simp at h
 |x::a,y::b,hf,h=>by
  simp only[eK,eJ]at h;rw[hf x eg y h.1,ng (fun z C=>hf z (en _ C)) h.2]
def Ex.ext'(m:x.am=y.am)(h1:x.n=y.n)(h2:x.name=y.name)(C:x.op=y.op)(V:x.ao=y.ao):x=y:=by
 cases x;cases y;simp only[Ex.am,Ex.n,Ex.name,Ex.op,Ex.ao]at *;simp[*]
def Ex.inj(h:x.cells=y.cells):x=y:=by
 have Z:∀n (x:Ex),x.sz<n->∀y,x.cells=y.cells->x=y:=by
  intro n;induction n with
  |zero=>intro x h;omega
  |succ n ih=>
   intro x h y e;rw[j0,j0]at e;simp only[eJ,AV.int.injEq,AV.aj.injEq,AV.az.injEq,kN,aW]at e;obtain⟨j,m,M,V,Y⟩:=e;refine Ex.ext' j m M V (ng (fun z C=>ih z ?_) Y);have:=n1 C;have:=x.aV;omega
 exact Z _ x (bT _) y h
def DR{a b:qI}(h:a.map Ex.cells=b.map Ex.cells):a=b:=ng (fun _ _ _=>Ex.inj) h
def St.ext'{x y:St}(m:x.am=y.am)(h1:x.name=y.name)(h2:x.to=y.to)(C:x.n=y.n)(V:x.a8=y.a8)(Z:x.value=y.value)(Y:x.args=y.args)(J:x.bl=y.bl)(U:x.bA=y.bA):x=y:=by
 cases x;cases y;simp only[St.am,St.name,St.to,St.n,St.a8,St.value,St.args,St.bl,St.bA]at *;simp[*]
def St.inj{x y:St}(h:x.cells=y.cells):x=y:=by
 have Z:∀n (x:St),x.sz<n->∀y,x.cells=y.cells->x=y:=by
  intro n;induction n with
  |zero=>intro x h;omega
  |succ n ih=>
   intro x h y e;have hs:=x.aV;rw[nX,nX]at e;simp only[eJ,AV.int.injEq,AV.aj.injEq,AV.az.injEq,kN,aW]at e;obtain⟨j,m,M,V,kV,O,Y,J,U,I,b1,b2,b3,b4,e6,e7,e8⟩:=e;refine St.ext' j m M V (Ex.ext' kV O Y J (DR U)) (Ex.ext' I b1 b2 b3 (DR b4)) (DR e6) (ng (fun z C=>ih z ?_) e7) (ng (fun z C=>ih z ?_) e8)
   .have:=my C;omega
   .have:=my C;omega
 exact Z _ x (bT _) y h
def DS{a b:qD}(h:a.map St.cells=b.map St.cells):a=b:=ng (fun _ _ _=>St.inj) h
def wW{a b:qx}(h:(a.map fun s=>[AV.aj s])=b.map fun s=>[AV.aj s]):a=b:=ng (fun x _ y e=>AE) h
def Fu.inj{x y:Fu}(h:x.cells=y.cells):x=y:=by
 obtain⟨n,p,l,b,v⟩:=x;obtain⟨z,I,C,b',v'⟩:=y;rw[wO,wO]at h;simp only[eJ,AV.int.injEq,AV.aj.injEq,AV.az.injEq,kN,aW]at h;obtain⟨j,m,M,V,Y,Z,U,O,J⟩:=h;rw[j,wW m,wW M,DS V,Ex.ext' Y Z U O (DR J)]
def Ar.inj{x y:Ar}(h:x.cells=y.cells):x=y:=by
 obtain⟨n,p⟩:=x;obtain⟨z,Y⟩:=y;simp only[Ar.cells,eJ,AV.int.injEq,AV.aj.injEq,kN,aW]at h;rw[h.1,h.2]
def Pr.inj{x y:Pr}(h:x.cells=y.cells):x=y:=by
 obtain⟨n,p⟩:=x;obtain⟨z,Y⟩:=y;simp only[Pr.cells,eJ,AV.az.injEq,aW]at h;rw[ng (fun _ _ _=>Ar.inj) h.1,ng (fun _ _ _=>Fu.inj) h.2]
def zaT(l:qy):fQ (Dx l):=.map fun x _=>.cons (.int _ _) .nil
def Nd.pure(x:Nd):gl x.cells:=.cons (.int _ _) (.cons (.int _ _) (.cons (zaT _) .nil))
def Gr.pure(x:Gr):gl x.cells:=.cons (.aj _) (.cons (.int _ _) (.cons (.map fun y _=>y.pure) (.cons (.int _ _) (.cons (.int _ _) .nil))))
def Un.pure(x:Un):gl x.cells:=.cons (.map fun y _=>y.pure) (.cons (.map fun y _=>y.pure) .nil)
def zaU{a b:qy}(h:(a.map fun n=>[AV.int .i64 n])=b.map fun n=>[AV.int .i64 n]):a=b:=ng (fun x _ y e=>AE) h
def Nd.inj{x y:Nd}(h:x.cells=y.cells):x=y:=by
 obtain⟨n,p,k⟩:=x;obtain⟨z,Y,k'⟩:=y;simp only[Nd.cells,eJ,AV.int.injEq,AV.az.injEq,kN,aW]at h;rw[h.1,h.2.1,zaU h.2.2]
def Gr.inj{x y:Gr}(h:x.cells=y.cells):x=y:=by
 obtain⟨n,p,l,v,s⟩:=x;obtain⟨z,Y,O,U,I⟩:=y;simp only[Gr.cells,eJ,AV.int.injEq,AV.aj.injEq,AV.az.injEq,kN,aW]at h;obtain⟨m,j,C,V,Z⟩:=h;rw[m,j,ng (fun _ _ _=>Nd.inj) C,V,Z]
def Un.inj{x y:Un}(h:x.cells=y.cells):x=y:=by
 obtain⟨n,p⟩:=x;obtain⟨z,Y⟩:=y;simp only[Un.cells,eJ,AV.az.injEq,aW]at h;rw[ng (fun _ _ _=>Ar.inj) h.1,ng (fun _ _ _=>Gr.inj) h.2]
def pW(n:Int):Bool:=(decide (97<=n)&&decide (n<=122))||(decide (65<=n)&&decide (n<=90))||decide (n=95)
def od(n:Int):Bool:=decide (48<=n)&&decide (n<=57)
def lx(b:UInt8):Bool:=pW b.toNat||od b.toNat
def fI:qA->Nat
 |[]=>0
 |b::s=>if lx b then fI s+1 else 0
theorem Nr:∀s:qA,fI s<=s.length
 |[]=>ay _
 |b::s=>by have:=Nr s;simp only[fI,gF];split<;>omega
def kg:qA->Nat
 |[]=>0
 |b::s=>if b.toNat=10 then 0 else kg s+1
theorem Nt:∀s:qA,kg s<=s.length
 |[]=>ay _
 |b::s=>by have:=Nt s;simp only[kg,gF];split<;>omega
def kQ(b:UInt8):Bool:=decide (b.toNat=32)||decide (b.toNat=9)||decide (b.toNat=10)||decide (b.toNat=13)
def fX:Bool->qA->Nat
 |_,[]=>0
 |true,b::s=>if b.toNat=10 then (if kQ b then fX false s+1 else 0)else fX true s+1
 |false,b::s=>if kQ b then fX false s+1 else if b.toNat=35 then fX true s+1 else 0
theorem Nu:∀s:qA,fX true s=kg s+fX false (s.drop (kg s))
 |[]=>rfl
 |b::s=>by
  simp only[fX,kg];by_cases h:b.toNat=10
  .have hb:kQ b=true:=by unfold kQ;simp[h]
   simp[h,hb,fX]
  .simp only[h,fG,DL,Nu s];omega
theorem yj:∀(c:Bool) (s:qA),fX c s<=s.length
 |c,[]=>by cases c<;>exact ay _
 |true,b::s=>by have m:=yj true s;have j:=yj false s;simp only[fX,gF];split<;>(try split)<;>omega
 |false,b::s=>by have m:=yj true s;have j:=yj false s;simp only[fX,gF];split<;>(try split)<;>omega
def Nv(s:qA)(k:Tk)(e:Int):Prop:=
 k.a8=0/\(e=0->∃n,1<=n/\n<=s.length/\k.text=s.take n/\(k.am=1->n=fI s/\n<=16/\∀b,s[0]?=some b->od b.toNat=false)) /\
 (1<=fI s->fI s<=16->(∀b,s[0]?=some b->od b.toNat=false)->e=0/\k=⟨1,s.take (fI s),0⟩)
def vk(s:qA):Prop:=1<=fI s/\fI s=s.length/\s.length<=16/\∀b,s[0]?=some b->od b.toNat=false
def DT(s:qA)(J:List Tk):Prop:=∀k m,J=k::m->∃k0,Nv (s.drop (fX false s)) k0 0/\k.am=k0.am/\k.text=k0.text
def yk(lo:Nat)(H:Hp)(M:AV)(J:List Tk):Prop:=(J=[]/\M=.ag)\/∃r,M=.sl r 0 J.length 3/\H.get r=some (.cells (J.flatMap Tk.cells) 0 true)/\lo<r/\r<H.next/\J≠[]
theorem zaV(h:vk s):fX false s=0:=by
 obtain⟨m,j,C,V⟩:=h;cases s with
 |nil=>rfl
 |cons b s=>
  have hd:=V b rfl;simp only[fI]at m;have M:lx b=true:=by
   cases hb:lx b with
   |true=>rfl
   |false=>rw[hb]at m;simp at m
  simp only[lx,hd,mW]at M;have O:kQ b=false:=by
   unfold kQ;simp only[pW,sG,oQ]at M;simp;omega
  have J:¬b.toNat=35:=by
   simp only[pW,sG,oQ]at M;omega
  simp only[fX,O,dM,fG,J]
theorem Nw:∀ts:List Tk,(ts.flatMap Tk.cells).length=ts.length*3
 |[]=>rfl
 |t::ts=>by rw[yg,iR,Nw ts,Tk.a9,gF];omega
def FrB.a0{base:Nat}(h:FrB base a b)(hr:a.next<=r):FrB base a (b.a0 r):=⟨h.next,fun k m j=>by
 rw[iy,af ac];exact h.get k m j⟩
def lR(s:qA):Bool:=decide (1<=fI s)&&decide (fI s=s.length)&&decide (s.length<=16)&&(match s with|b::_=>!od b.toNat|[]=>true)
def DU(s:qA):lR s=true↔vk s:=by
 unfold lR vk;cases s with
 |nil=>simp[fI]
 |cons b s=>simp[and_assoc]
def vm(s:qA):Bool:=decide (s=[97,114,114,97,121])||decide (s=[102,117,110,99])||decide (s=[118,97,114])||decide (s=[114,101,116,117,114,110])||decide (s=[105,102])||decide (s=[101,108,115,101])||decide (s=[119,104,105,108,101])||decide (s=[111,117,116])||decide (s=[116,114,97,112])
def db(s:qA):Bool:=lR s && !vm s
def zaW{k:Tk}{m:List Tk}(h:DT s (k::m))(z:k.am=1)(j:k.text=s):vk s:=by
 obtain⟨k0,V,U,C⟩:=h k m rfl;obtain⟨n,cS,O,M,I⟩:=V.2.1 rfl;obtain⟨J,n6,Z⟩:=I (by rw[<-U];exact z);rw[<-C,j]at M;have hl:=lN List.length M;rw[oL,nQ]at hl;rw[nQ]at O;have Y:fX false s=0:=ac;rw[Y,hY]at J Z;have hn:n=s.length:=ac;exact⟨ac,ac,ac,Z⟩
end Go.Ab
