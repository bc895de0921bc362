/- Lemmas for the last file. -/
import Derived.Test.YtbflaciihaijgaaPEE
set_option linter.all false
set_option maxHeartbeats 32000000
namespace Go.Ab
set_option maxRecDepth 20000
open Go
variable{qd:Prop}
def Cn(h:qd:=by first|(dsimp only[nr,tK];first|done|exact rfl)|(dsimp only[];first|done|exact rfl)|exact rfl):=h
def xt(h:qd:=by first|(dsimp only[aZ];first|done|exact rfl)|exact rfl):=h
def eI(h:qd:=by ((first|simp only[aF,Nat.reduceBEq,ne_eq,not_false_eq_true, *,-hK]|simp only[aF,Nat.reduceBEq,ne_eq,not_false_eq_true, *]|skip);first|done|with_reducible rfl)):=h
def jM(h:qd:=by ((first|simp only[aF,aW,tyF,Nat.reduceBEq,Nat.reduceAdd,Nat.reduceLeDiff,ne_eq,not_false_eq_true, *,-hK]|simp only[aF,aW,tyF,Nat.reduceBEq,Nat.reduceAdd,Nat.reduceLeDiff,ne_eq,not_false_eq_true, *]|skip);first|done|with_reducible rfl)):=h
def xu(h:qd:=by ((try simp only[bj,bE,cm,Nat.add_assoc,Nat.reduceAdd,Nat.zero_add]);with_reducible rfl)):=h
def K6(h:qd:=by ((first|simp only[aF,Nat.reduceBEq,lC,ne_eq,not_false_eq_true, *,-hK]|simp only[aF,Nat.reduceBEq,lC,ne_eq,not_false_eq_true, *]|skip);first|done|with_reducible rfl)):=h
def K7(h:qd:=by ((first|simp only[aF,Nat.reduceBEq,iQ,List.cons_append,List.nil_append,ne_eq,not_false_eq_true, *,-hK]|simp only[aF,Nat.reduceBEq,iQ,List.cons_append,List.nil_append,ne_eq,not_false_eq_true, *]|skip);first|done|with_reducible rfl)):=h
def K8(h:qd:=by ((first|simp only[aF,Nat.reduceBEq,kL,ne_eq,not_false_eq_true, *,-hK]|simp only[aF,Nat.reduceBEq,kL,ne_eq,not_false_eq_true, *]|skip);first|done|with_reducible rfl)):=h
def eB(h:qd:=by ((first|simp only[aF,Nat.reduceBEq,ne_eq,not_false_eq_true,decide_true,decide_false,Int.reduceEq,Int.reduceLE,Int.reduceToNat,Nat.mul_one, *,-hK]|simp only[aF,Nat.reduceBEq,ne_eq,not_false_eq_true,decide_true,decide_false,Int.reduceEq,Int.reduceLE,Int.reduceToNat,Nat.mul_one, *]|skip);first|done|with_reducible rfl)):=h
def jN(h:qd:=by ((first|simp only[aF,aW,tyF,Nat.reduceBEq,Nat.reduceAdd,Nat.reduceLeDiff,ne_eq,not_false_eq_true,decide_true,decide_false,Int.reduceEq,Int.reduceLE,Int.reduceToNat,Nat.mul_one, *,-hK]|simp only[aF,aW,tyF,Nat.reduceBEq,Nat.reduceAdd,Nat.reduceLeDiff,ne_eq,not_false_eq_true,decide_true,decide_false,Int.reduceEq,Int.reduceLE,Int.reduceToNat,Nat.mul_one, *]|skip);first|done|with_reducible rfl)):=h
def La(h:qd:=by ((first|simp only[aF,Nat.reduceBEq,lC,ne_eq,not_false_eq_true,decide_true,decide_false,Int.reduceEq,Int.reduceLE,Int.reduceToNat,Nat.mul_one, *,-hK]|simp only[aF,Nat.reduceBEq,lC,ne_eq,not_false_eq_true,decide_true,decide_false,Int.reduceEq,Int.reduceLE,Int.reduceToNat,Nat.mul_one, *]|skip);first|done|with_reducible rfl)):=h
def Lb(h:qd:=by ((first|simp only[aF,Nat.reduceBEq,iQ,List.cons_append,List.nil_append,ne_eq,not_false_eq_true,decide_true,decide_false,Int.reduceEq,Int.reduceLE,Int.reduceToNat,Nat.mul_one, *,-hK]|simp only[aF,Nat.reduceBEq,iQ,List.cons_append,List.nil_append,ne_eq,not_false_eq_true,decide_true,decide_false,Int.reduceEq,Int.reduceLE,Int.reduceToNat,Nat.mul_one, *]|skip);first|done|with_reducible rfl)):=h
def Lc(h:qd:=by ((first|simp only[aF,Nat.reduceBEq,kL,ne_eq,not_false_eq_true,decide_true,decide_false,Int.reduceEq,Int.reduceLE,Int.reduceToNat,Nat.mul_one, *,-hK]|simp only[aF,Nat.reduceBEq,kL,ne_eq,not_false_eq_true,decide_true,decide_false,Int.reduceEq,Int.reduceLE,Int.reduceToNat,Nat.mul_one, *]|skip);first|done|with_reducible rfl)):=h
def Gf(h:qd:=by first|rfl|exact hplan _|(rw[hS.bF];rfl)):=h
def Ld(h:qd:=by simp only[iJ,tA,List.filterMap_cons,List.filterMap_nil,List.getElem?_cons_succ,List.getElem?_cons_zero,bI,bT,bU,Nat.blt,Nat.ble];rfl):=h
def Le(h:qd:=by show cV l g (enc x)=_;rw[Z];exact Cq K I):=h
def sE:=@List.cons_append
def vC:=@List.getElem?_cons_succ
def nC:=@List.getElem?_cons_zero
def zg:=@List.drop_succ_cons
def lH:=@decide_eq_false_iff_not
def Gg:=@List.getElem?_nil
def Gi:=@Classical.choose_spec
def cI:=@Nat.lt_succ_self
def eU:=@List.drop_eq_getElem_cons
def pe:=@Bool.or_false
def vD:=@List.flatMap_cons
def Co:=And.intro @sE.{0} @pJ.{0}
def bt:=And.intro Co @jI.{0}
end Go.Ab
namespace Go.Proofs.Ytbflaciihaijgaa
set_option maxRecDepth 20000
open Go Go.Ab
variable{L:Int}{g z:Operand}{r n s N:Nat}{i:Array TypeId}{cs vs:qs}{O:Array (Nat×Operand)}{c:AV}{lo:Option Operand}{V k:IntKind}{Z C p:Prop}{K:qI}{tb:Bool}{M:SC}
def rG:=ad rB oh
def rH:=ad @jq @lH
section
variable {P:Program} {cfg:Cfg} {f:FuncId} {l:List SOp} {E:aB} {H H':Hp} {Q:aB -> Hp -> Prop} {d:Nat} {v a b:AV} {x y:Operand} {t u:TypeId}
def cB(P:Program)(cfg:Cfg)(f:FuncId)(op:Op)(E:aB)(H:Hp)(v:AV)(H':Hp):Prop:=∃n,en P cfg (dM P cfg n) f E H op=.val v H'
def cB.of{op:Op}(h:∀Q:aB->Hp->Prop,aL P cfg f [] (T.set E 0 (some v)) H' Q->aL P cfg f [⟨some 0,op,none⟩] E H Q):cB P cfg f op E H v H':=by
 have i:=h (fun j Z=>j.at 0=v/\Z=H') (yZ ⟨by rw[jK];rfl,rfl⟩);unfold aL at i;simp only[]at i;unfold iT at i;obtain⟨n,w,Z,g,m⟩:=i;unfold aL at m;obtain⟨U,rfl⟩:=m;have:(aZ E (some 0) w).at 0=w:=Kd;rw[this]at U;exact⟨n,by rw[g,U]⟩
def dD:=@cB.of
def Cp{op:Op}(h:∀Q:aB->Hp->Prop,aL P cfg f [] E H' Q->aL P cfg f [⟨none,op,none⟩] E H Q):∃v,cB P cfg f op E H v H':=by
 have i:=h (fun j Z=>Z=H') (yZ rfl);unfold aL at i;simp only[]at i;unfold iT at i;obtain⟨n,w,Z,g,m⟩:=i;unfold aL at m;subst m;exact⟨w,n,g⟩
def cB.go{op:Op}(j:aL P cfg f l (T.set E d (some v)) H' Q)(h:cB P cfg f op E H v H'):aL P cfg f (⟨some d,op,none⟩::l) E H Q:=by
 obtain⟨n,h⟩:=h;unfold aL;show iT _ _ _ _ _ _ _;unfold iT;exact⟨n,v,H',h,j⟩
def Lf{op:Op}(j:aL P cfg f l E H' Q)(h:∃v,cB P cfg f op E H v H'):aL P cfg f (⟨none,op,none⟩::l) E H Q:=by
 obtain⟨v,n,h⟩:=h;unfold aL;show iT _ _ _ _ _ _ _;unfold iT;exact⟨n,v,H',h,j⟩
attribute [irreducible] cB
def Rx.nl{L K:aB->Hp->Prop}{R:Prop}(h:R)(hK:∀E H,L E H->K E H:=by assumption)(e:L E H=R:=by exact Cn):aL P cfg f [] E H K:=yZ (hK _ _ (e▸h))
def aj:=@Rx.nl
def aS{R:Prop}(h:R)(e:Q E H=R:=by first|(dsimp only[];first|done|exact rfl)|exact rfl):aL P cfg f [] E H Q:=yZ (e▸h)
def aT{need:qM}{o:List Rc}{L:aB->Hp->Prop}{K:List Rc->aB->Hp->Prop}{R:Prop}(h1:sB P cfg need o H)(h:R)(hK:∀o E' H',sB P cfg need o H'->L E' H'->K o E' H':=by assumption)(e:L E H=R:=by exact Cn):eN P cfg f [] o E H K:=eN.nil (hK _ _ _ h1 (e▸h))
def bi{g:FuncId}{ar:qs}{r:AV}{K:AV->Hp->Prop}{R:Prop}(c:aY P cfg g ar H fun v H'=>v=r/\H'=H)(h:R)(e:K r H=R:=by exact xt):aY P cfg g ar H K:=bb (by rintro _ _ ⟨rfl,rfl⟩;exact e▸h) c
def Ox.mv(h:aV E x=some v:=by exact eI):cB P cfg f (.move x) E H v H:=dD fun Q j=>aL.move h j
def Ox.as(h:aV E x=some v:=by exact eI):cB P cfg f (.assign x) E H v H:=dD fun Q j=>aL.assign h j
def Ox.pk{t:Bool}(h:aV E x=some (.bool t):=by exact eI)(h1:aV E y=some a:=by exact eI)(h2:aV E z=some b:=by exact eI):cB P cfg f (.pick x y z) E H (lB t a b) H:=dD fun Q j=>aL.pick h h1 h2 j
def Ox.ld(h:aV E x=some a:=by exact eI)(h1:eY P H t a=some v:=by exact jM):cB P cfg f (.load t x) E H v H:=dD fun Q j=>aL.load h h1 j
def Ox.st(h:aV E x=some a:=by exact eI)(h1:aV E y=some b:=by exact eI)(h2:mB P H t a b=some H':=by exact jM):∃v,cB P cfg f (.store t x y) E H v H':=Cp fun Q j=>pR h h1 h2 j
def Ox.nc{o:Nat}(h:aV E x=some (.ptr r o):=by exact eI):cB P cfg f (.nilCheck x) E H (.ptr r o) H:=dD fun Q j=>aL.nilCheck h j
def Ox.bn{op:BinOp}(h:aV E x=some a:=by exact eI)(h1:aV E y=some b:=by exact eI)(h2:em P cfg.b7 op t a b=some v:=by exact jM):cB P cfg f (.binOp op t x y u) E H v H:=dD fun Q j=>aL.bZ h h1 h2 j
def Ox.un{op:UnOp}(h:aV E x=some a:=by exact eI)(h2:tt op a=some v:=by exact jM):cB P cfg f (.unOp op t x) E H v H:=dD fun Q j=>aL.un h h2 j
def Ox.cv(h:aV E x=some a:=by exact eI)(h2:lP P H t u a=some v:=by exact jM):cB P cfg f (.convert t u x) E H v H:=dD fun Q j=>aL.convert h h2 j
def Ox.fa{i:Nat}(h:aV E x=some a:=by exact eI)(h2:tl P t a i=some v:=by exact jM):cB P cfg f (.fieldAddr t x i) E H v H:=dD fun Q j=>Kl h h2 j
def Ox.fi{i:Nat}(h:aV E x=some a:=by exact eI)(h2:uR P t a i=some v:=by exact jM):cB P cfg f (.field t x i) E H v H:=dD fun Q j=>aL.field h h2 j
def Ox.ia(h:aV E x=some a:=by exact eI)(h1:aV E y=some b:=by exact eI)(h2:ey P t a b=some v:=by exact jM):cB P cfg f (.indexAddr t x y) E H v H:=dD fun Q j=>Km h h1 h2 j
def Ox.ix(h:aV E x=some a:=by exact eI)(h1:aV E y=some b:=by exact eI)(h2:pI P t a b=some v:=by exact jM):cB P cfg f (.index t x y) E H v H:=dD fun Q j=>aL.index h h1 h2 j
def Ox.ex{i:Nat}(h:aV E x=some a:=by exact eI)(h2:Ab.extract a i=some v:=by exact jM):cB P cfg f (.extract x i) E H v H:=dD fun Q j=>aL.extract h h2 j
def Ox.al{z:qs}(h:cP P t=some z:=by exact jM)(C:some H.next=some n:=by exact xu):cB P cfg f (.alloc t) E H (.ptr n 0) (H.alloc (.cells z 0 true)):=dD fun Q j=>aL.alloc h C j
def Ox.bx(h:aV E x=some a:=by exact eI)(V:some a.cells=some cs:=by exact jM)(C:some H.next=some n:=by exact xu):cB P cfg f (.box t x) E H (.ptr n 0) (H.alloc (.cells cs 0 true)):=dD fun Q j=>aL.box h V C j
def Ox.bd{ps:qJ}(h:lC E O.toList=some ps:=by exact K6)(h2:dK P t ps=some v:=by exact jM):cB P cfg f (.build t O) E H v H:=dD fun Q j=>aL.build h h2 j
def Ox.bs{ps:qJ}(h:lC E O.toList=some ps:=by exact K6)(h2:dW P H t n ps=some (v,H'):=by exact jM):cB P cfg f (.buildSlice t n O) E H v H':=dD fun Q j=>Kn h h2 j
def Ox.mm(C:some H.next=some n:=by exact xu):cB P cfg f (.makeMap t none) E H (.map n) (H.alloc (.map [])):=dD fun Q j=>aL.makeMap C j
def Ox.ms(h:aV E x=some a:=by exact eI)(h1:aV E y=some b:=by exact eI)(h2:j0 P H t a b=some (v,H'):=by exact jM):cB P cfg f (.makeSlice t x y) E H v H':=dD fun Q j=>Kp h h1 h2 j
def Ox.lu{ok:Bool}(h:aV E x=some a:=by exact eI)(h1:aV E y=some b:=by exact eI)(h2:lO P H t a b ok=some v:=by exact jM):cB P cfg f (.lookup t x y ok) E H v H:=dD fun Q j=>aL.lookup h h1 h2 j
def Ox.mu(h:aV E x=some a:=by exact eI)(h1:aV E y=some b:=by exact eI)(h2:aV E z=some c:=by exact eI)(m:oP P H t a b c=some H':=by exact jM):∃v,cB P cfg f (.mapUpdate t x y z) E H v H':=Cp fun Q j=>Ko h h1 h2 m j
def Ox.mf{g:FuncId}{cap:Array Operand}(h:iQ E cap.toList=some vs:=by exact K7):cB P cfg f (.makeFunc (.func g) #[] cap) E H (.bb g vs) H:=dD fun Q j=>aL.makeFunc h j
def Ox.sl{z:Option Operand}{O V:qB}(h:aV E x=some a:=by exact eI)(h1:kL E lo=some O:=by exact K8)(h2:kL E z=some V:=by exact K8)(m:oM P H t a O V=some v:=by exact jM):cB P cfg f (.slice t x lo z none) E H v H:=dD fun Q j=>aL.slice h h1 h2 m j
def Ox.ln(h:aV E x=some a:=by exact eI)(h1:ij P H t a=some c:=by exact jM):cB P cfg f (.call ⟨.builtin .len,#[x],#[t]⟩) E H c H:=dD fun Q j=>aL.len h h1 j
def Ox.ap(h:aV E x=some a:=by exact eI)(h1:aV E y=some b:=by exact eI)(h2:dm P (cfg.keep f) H t u a b=some (v,H'):=by exact jM):cB P cfg f (.call ⟨.builtin .append,#[x,y],#[t,u]⟩) E H v H':=dD fun Q j=>jr h h1 h2 j
def Ox.mi{Z:Int}(h:aV E x=some (.int k L):=by exact eI)(h1:aV E y=some (.int V Z):=by exact eI):cB P cfg f (.call ⟨.builtin .min,#[x,y],i⟩) E H (.int k (min L Z)) H:=dD fun Q j=>aL.min2 h h1 j
def Ox.ma{Z:Int}(h:aV E x=some (.int k L):=by exact eI)(h1:aV E y=some (.int V Z):=by exact eI):cB P cfg f (.call ⟨.builtin .max,#[x,y],i⟩) E H (.int k (max L Z)) H:=dD fun Q j=>aL.max2 h h1 j
def Rx.o{op:Op}(j:aL P cfg f l (T.set E d (some v)) H' Q)(h:cB P cfg f op E H v H':=by first|apply(Ox.mv)|apply(Ox.as)|apply(Ox.pk)|apply(Ox.ld)|apply(Ox.nc)|apply(Ox.bn)|apply(Ox.un)|apply(Ox.cv)|apply(Ox.fa)|apply(Ox.fi)|apply(Ox.ia)|apply(Ox.ix)|apply(Ox.ex)|apply(Ox.al)|apply(Ox.bx)|apply(Ox.bd)|apply(Ox.bs)|apply(Ox.mm)|apply(Ox.ms)|apply(Ox.lu)|apply(Ox.mf)|apply(Ox.sl)|apply(Ox.ln)|apply(Ox.ap)|apply(Ox.mi)|apply(Ox.ma)):aL P cfg f (⟨some d,op,none⟩::l) E H Q:=cB.go j h
def Rx.on{op:Op}(j:aL P cfg f l E H' Q)(h:∃v,cB P cfg f op E H v H':=by first|apply(Ox.st)|apply(Ox.mu)):aL P cfg f (⟨none,op,none⟩::l) E H Q:=Lf j h
def aE:=@Rx.on
theorem Rx.call{c:Call}{k:FuncId}{cap ar:qs}(j:aY P cfg k ar H fun v H'=>aL P cfg f l (aZ E K v) H' Q)(V:c.callee=.value g:=by rfl)(J:aV E g=some (.bb k cap):=by exact eI)(Z:iQ E c.args.toList=some vs:=by exact K7)(Y:vs++cap=ar:=by simp only[bt];first|done|exact rfl):aL P cfg f (⟨K,.call c,none⟩::l) E H Q:=br V J Z (Y▸j)
def eC:=@Rx.call
def Rx.gu{op:Op}{t:Bool}{v:AV}{R:Prop}(j:R)(h:some (E.at s)=some v:=by exact eI)(V:v=ed:=by with_reducible rfl)(e:aL P cfg f l (aZ E K ed) H Q=R:=by exact xt):aL P cfg f (⟨K,op,some (s,t)⟩::l) E H Q:=Kh h V (e▸j)
def dE:=@Rx.gu
def Rx.gd{op:Op}{t:Bool}{o i R:Prop}(h1:o->C->aL P cfg f (⟨K,op,none⟩::l) E H Q)(h2:i->Z->R)(h:E.at s=.bool t:=by exact eI)(Y:(t=tb)=o:=by(try simp only[rG,reduceCtorEq]);first|done|exact rfl)(J:(t=!tb)=i:=by(try simp only[rG,reduceCtorEq]);first|done|exact rfl)(L:o=C:=by(try simp only[rH]);first|done|exact rfl)(m:i=Z:=by(try simp only[rH]);first|done|exact rfl)(e:aL P cfg f l (aZ E K ed) H Q=R:=by exact xt):aL P cfg f (⟨K,op,some (s,tb)⟩::l) E H Q:=aL.guard h (fun k=>h1 (Y▸k) (L▸Y▸k)) (fun k=>e▸h2 (J▸k) (m▸J▸k))
def aX:=@Rx.gd
def Rx.cd{O:SC}{Q:AX->aB->Hp->Prop}{t:Bool}{o i:Prop}(h1:o->C->cb P cfg f N M E H Q)(h2:i->Z->cb P cfg f N O E H Q)(I:aV E x=some (.bool t):=by exact eI)(Y:(t=true)=o:=by(try simp only[rG,reduceCtorEq]);first|done|exact rfl)(J:(t=false)=i:=by(try simp only[rG,reduceCtorEq]);first|done|exact rfl)(L:o=C:=by(try simp only[rH]);first|done|exact rfl)(m:i=Z:=by(try simp only[rH]);first|done|exact rfl):cb P cfg f N (.cond x M O) E H Q:=cb.cond I (fun k=>h1 (Y▸k) (L▸Y▸k)) (fun k=>h2 (J▸k) (m▸J▸k))
def aA:=@Rx.cd
def Oy.mv(h:aV E x=some v:=by exact eB):cB P cfg f (.move x) E H v H:=dD fun Q j=>aL.move h j
def Oy.as(h:aV E x=some v:=by exact eB):cB P cfg f (.assign x) E H v H:=dD fun Q j=>aL.assign h j
def Oy.pk{t:Bool}(h:aV E x=some (.bool t):=by exact eB)(h1:aV E y=some a:=by exact eB)(h2:aV E z=some b:=by exact eB):cB P cfg f (.pick x y z) E H (lB t a b) H:=dD fun Q j=>aL.pick h h1 h2 j
def Oy.ld(h:aV E x=some a:=by exact eB)(h1:eY P H t a=some v:=by exact jN):cB P cfg f (.load t x) E H v H:=dD fun Q j=>aL.load h h1 j
def Oy.st(h:aV E x=some a:=by exact eB)(h1:aV E y=some b:=by exact eB)(h2:mB P H t a b=some H':=by exact jN):∃v,cB P cfg f (.store t x y) E H v H':=Cp fun Q j=>pR h h1 h2 j
def Oy.nc{o:Nat}(h:aV E x=some (.ptr r o):=by exact eB):cB P cfg f (.nilCheck x) E H (.ptr r o) H:=dD fun Q j=>aL.nilCheck h j
def Oy.bn{op:BinOp}(h:aV E x=some a:=by exact eB)(h1:aV E y=some b:=by exact eB)(h2:em P cfg.b7 op t a b=some v:=by exact jN):cB P cfg f (.binOp op t x y u) E H v H:=dD fun Q j=>aL.bZ h h1 h2 j
def Oy.un{op:UnOp}(h:aV E x=some a:=by exact eB)(h2:tt op a=some v:=by exact jN):cB P cfg f (.unOp op t x) E H v H:=dD fun Q j=>aL.un h h2 j
def Oy.cv(h:aV E x=some a:=by exact eB)(h2:lP P H t u a=some v:=by exact jN):cB P cfg f (.convert t u x) E H v H:=dD fun Q j=>aL.convert h h2 j
def Oy.fa{i:Nat}(h:aV E x=some a:=by exact eB)(h2:tl P t a i=some v:=by exact jN):cB P cfg f (.fieldAddr t x i) E H v H:=dD fun Q j=>Kl h h2 j
def Oy.fi{i:Nat}(h:aV E x=some a:=by exact eB)(h2:uR P t a i=some v:=by exact jN):cB P cfg f (.field t x i) E H v H:=dD fun Q j=>aL.field h h2 j
def Oy.ia(h:aV E x=some a:=by exact eB)(h1:aV E y=some b:=by exact eB)(h2:ey P t a b=some v:=by exact jN):cB P cfg f (.indexAddr t x y) E H v H:=dD fun Q j=>Km h h1 h2 j
def Oy.ix(h:aV E x=some a:=by exact eB)(h1:aV E y=some b:=by exact eB)(h2:pI P t a b=some v:=by exact jN):cB P cfg f (.index t x y) E H v H:=dD fun Q j=>aL.index h h1 h2 j
def Oy.ex{i:Nat}(h:aV E x=some a:=by exact eB)(h2:Ab.extract a i=some v:=by exact jN):cB P cfg f (.extract x i) E H v H:=dD fun Q j=>aL.extract h h2 j
def Oy.al{z:qs}(h:cP P t=some z:=by exact jN)(C:some H.next=some n:=by exact xu):cB P cfg f (.alloc t) E H (.ptr n 0) (H.alloc (.cells z 0 true)):=dD fun Q j=>aL.alloc h C j
def Oy.bx(h:aV E x=some a:=by exact eB)(V:some a.cells=some cs:=by exact jN)(C:some H.next=some n:=by exact xu):cB P cfg f (.box t x) E H (.ptr n 0) (H.alloc (.cells cs 0 true)):=dD fun Q j=>aL.box h V C j
def Oy.bd{ps:qJ}(h:lC E O.toList=some ps:=by exact La)(h2:dK P t ps=some v:=by exact jN):cB P cfg f (.build t O) E H v H:=dD fun Q j=>aL.build h h2 j
def Oy.bs{ps:qJ}(h:lC E O.toList=some ps:=by exact La)(h2:dW P H t n ps=some (v,H'):=by exact jN):cB P cfg f (.buildSlice t n O) E H v H':=dD fun Q j=>Kn h h2 j
def Oy.mm(C:some H.next=some n:=by exact xu):cB P cfg f (.makeMap t none) E H (.map n) (H.alloc (.map [])):=dD fun Q j=>aL.makeMap C j
def Oy.ms(h:aV E x=some a:=by exact eB)(h1:aV E y=some b:=by exact eB)(h2:j0 P H t a b=some (v,H'):=by exact jN):cB P cfg f (.makeSlice t x y) E H v H':=dD fun Q j=>Kp h h1 h2 j
def Oy.lu{ok:Bool}(h:aV E x=some a:=by exact eB)(h1:aV E y=some b:=by exact eB)(h2:lO P H t a b ok=some v:=by exact jN):cB P cfg f (.lookup t x y ok) E H v H:=dD fun Q j=>aL.lookup h h1 h2 j
def Oy.mu(h:aV E x=some a:=by exact eB)(h1:aV E y=some b:=by exact eB)(h2:aV E z=some c:=by exact eB)(m:oP P H t a b c=some H':=by exact jN):∃v,cB P cfg f (.mapUpdate t x y z) E H v H':=Cp fun Q j=>Ko h h1 h2 m j
def Oy.mf{g:FuncId}{cap:Array Operand}(h:iQ E cap.toList=some vs:=by exact Lb):cB P cfg f (.makeFunc (.func g) #[] cap) E H (.bb g vs) H:=dD fun Q j=>aL.makeFunc h j
def Oy.sl{z:Option Operand}{O V:qB}(h:aV E x=some a:=by exact eB)(h1:kL E lo=some O:=by exact Lc)(h2:kL E z=some V:=by exact Lc)(m:oM P H t a O V=some v:=by exact jN):cB P cfg f (.slice t x lo z none) E H v H:=dD fun Q j=>aL.slice h h1 h2 m j
def Oy.ln(h:aV E x=some a:=by exact eB)(h1:ij P H t a=some c:=by exact jN):cB P cfg f (.call ⟨.builtin .len,#[x],#[t]⟩) E H c H:=dD fun Q j=>aL.len h h1 j
def Oy.ap(h:aV E x=some a:=by exact eB)(h1:aV E y=some b:=by exact eB)(h2:dm P (cfg.keep f) H t u a b=some (v,H'):=by exact jN):cB P cfg f (.call ⟨.builtin .append,#[x,y],#[t,u]⟩) E H v H':=dD fun Q j=>jr h h1 h2 j
def Oy.mi{Z:Int}(h:aV E x=some (.int k L):=by exact eB)(h1:aV E y=some (.int V Z):=by exact eB):cB P cfg f (.call ⟨.builtin .min,#[x,y],i⟩) E H (.int k (min L Z)) H:=dD fun Q j=>aL.min2 h h1 j
def Oy.ma{Z:Int}(h:aV E x=some (.int k L):=by exact eB)(h1:aV E y=some (.int V Z):=by exact eB):cB P cfg f (.call ⟨.builtin .max,#[x,y],i⟩) E H (.int k (max L Z)) H:=dD fun Q j=>aL.max2 h h1 j
def Ry.o{op:Op}(j:aL P cfg f l (T.set E d (some v)) H' Q)(h:cB P cfg f op E H v H':=by first|apply(Oy.mv)|apply(Oy.as)|apply(Oy.pk)|apply(Oy.ld)|apply(Oy.nc)|apply(Oy.bn)|apply(Oy.un)|apply(Oy.cv)|apply(Oy.fa)|apply(Oy.fi)|apply(Oy.ia)|apply(Oy.ix)|apply(Oy.ex)|apply(Oy.al)|apply(Oy.bx)|apply(Oy.bd)|apply(Oy.bs)|apply(Oy.mm)|apply(Oy.ms)|apply(Oy.lu)|apply(Oy.mf)|apply(Oy.sl)|apply(Oy.ln)|apply(Oy.ap)|apply(Oy.mi)|apply(Oy.ma)):aL P cfg f (⟨some d,op,none⟩::l) E H Q:=cB.go j h
def Ry.on{op:Op}(j:aL P cfg f l E H' Q)(h:∃v,cB P cfg f op E H v H':=by first|apply(Oy.st)|apply(Oy.mu)):aL P cfg f (⟨none,op,none⟩::l) E H Q:=Lf j h
def b8:=@Ry.on
theorem Ry.call{c:Call}{k:FuncId}{cap ar:qs}(j:aY P cfg k ar H fun v H'=>aL P cfg f l (aZ E K v) H' Q)(V:c.callee=.value g:=by rfl)(J:aV E g=some (.bb k cap):=by exact eB)(Z:iQ E c.args.toList=some vs:=by exact Lb)(Y:vs++cap=ar:=by simp only[bt];first|done|exact rfl):aL P cfg f (⟨K,.call c,none⟩::l) E H Q:=br V J Z (Y▸j)
def ee:=@Ry.call
def Ry.gu{op:Op}{t:Bool}{v:AV}{R:Prop}(j:R)(h:some (E.at s)=some v:=by exact eB)(V:v=ed:=by with_reducible rfl)(e:aL P cfg f l (aZ E K ed) H Q=R:=by exact xt):aL P cfg f (⟨K,op,some (s,t)⟩::l) E H Q:=Kh h V (e▸j)
def tQ:=@Ry.gu
def Ry.gd{op:Op}{t:Bool}{o i R:Prop}(h1:o->C->aL P cfg f (⟨K,op,none⟩::l) E H Q)(h2:i->Z->R)(h:E.at s=.bool t:=by exact eB)(Y:(t=tb)=o:=by(try simp only[rG,reduceCtorEq]);first|done|exact rfl)(J:(t=!tb)=i:=by(try simp only[rG,reduceCtorEq]);first|done|exact rfl)(L:o=C:=by(try simp only[rH]);first|done|exact rfl)(m:i=Z:=by(try simp only[rH]);first|done|exact rfl)(e:aL P cfg f l (aZ E K ed) H Q=R:=by exact xt):aL P cfg f (⟨K,op,some (s,tb)⟩::l) E H Q:=aL.guard h (fun k=>h1 (Y▸k) (L▸Y▸k)) (fun k=>e▸h2 (J▸k) (m▸J▸k))
def ct:=@Ry.gd
def pU{op:Op}{t:Bool}{o:List Rc}{Q:List Rc->aB->Hp->Prop}{i Y R:Prop}(h1:Z->C->eN P cfg f (⟨K,op,none⟩::l) o E H Q)(h2:i->Y->R)(h:E.at s=.bool t:=by exact eB)(V:(t=tb)=Z:=by(try simp only[rG,reduceCtorEq]);first|done|exact rfl)(J:(t=!tb)=i:=by(try simp only[rG,reduceCtorEq]);first|done|exact rfl)(L:Z=C:=by(try simp only[rH]);first|done|exact rfl)(m:i=Y:=by(try simp only[rH]);first|done|exact rfl)(e:eN P cfg f l (o++[⟨op,false,E,H,ed,H⟩]) (aZ E K ed) H Q=R:=by exact xt):eN P cfg f (⟨K,op,some (s,tb)⟩::l) o E H Q:=eN.guard h (fun k=>h1 (V▸k) (L▸V▸k)) (fun k=>e▸h2 (J▸k) (m▸J▸k))
def Ry.cd{O:SC}{Q:AX->aB->Hp->Prop}{t:Bool}{o i:Prop}(h1:o->C->cb P cfg f N M E H Q)(h2:i->Z->cb P cfg f N O E H Q)(I:aV E x=some (.bool t):=by exact eB)(Y:(t=true)=o:=by(try simp only[rG,reduceCtorEq]);first|done|exact rfl)(J:(t=false)=i:=by(try simp only[rG,reduceCtorEq]);first|done|exact rfl)(L:o=C:=by(try simp only[rH]);first|done|exact rfl)(m:i=Z:=by(try simp only[rH]);first|done|exact rfl):cb P cfg f N (.cond x M O) E H Q:=cb.cond I (fun k=>h1 (Y▸k) (L▸Y▸k)) (fun k=>h2 (J▸k) (m▸J▸k))
def bq:=@Ry.cd
def eE(h:p:=by first|(simp only[aF,Nat.reduceBEq, *];done)|rfl):p:=h
def zh(h:p:=by first|(simp only[aF,aW,tyF,Nat.reduceBEq,Nat.reduceAdd,Nat.reduceLeDiff, *];done)|rfl):p:=h
def cS(h:p:=by((try simp only[aF,Nat.reduceBEq, *]);first|done|with_reducible rfl)):p:=h
def vE(h:p:=by((try simp only[aF,aW,tyF,Nat.reduceBEq,Nat.reduceAdd,Nat.reduceLeDiff, *]);first|done|with_reducible rfl)):p:=h
def aN(h:p:=by((try simp only[aF,Nat.reduceBEq,eh,eM, *]);first|done|with_reducible rfl)):p:=h
def oq(h:p:=by((try simp only[aF,aW,tyF,Nat.reduceBEq,Nat.reduceAdd,Nat.reduceLeDiff,eh,eM, *]);first|done|with_reducible rfl)):p:=h
def bu(h:p:=by((try simp only[aF,Nat.reduceBEq, *,-hK]);first|done|with_reducible rfl)):p:=h
def bw(h:p:=by((try simp only[aF,Nat.reduceBEq,iQ,Co, *,-hK]);first|done|with_reducible rfl)):p:=h
def qc{P:Program}{cfg:Cfg}{f:FuncId}{E:aB}{H:Hp}{Q:aB->Hp->Prop}{d:qI}{c:Call}{k:FuncId}{cap ws:qs}{l:List SOp}(h:aY P cfg k ws H fun v H'=>aL P cfg f l (aZ E d v) H' Q)(i:c.callee=.value g:=by exact rfl)(j:aV E g=some (.bb k cap):=by exact bu)(m:iQ E c.args.toList=some vs:=by exact bw)(e:vs++cap=ws:=by(try simp only[bt]);first|done|exact rfl):aL P cfg f (⟨d,.call c,none⟩::l) E H Q:=br i j m (e▸h)
def aD(h:p:=by first|exact .inl rfl|exact .inr rfl|exact .inl trivial|exact .inr trivial):p:=h
def qq{A:Prop}{a:Option qs}{v:qs}{R:qs->Prop}{T:Prop}(h:T)(i:A:=by exact aD)(j:a=some v:=by exact aN)(k:R v=T:=by(try simp only[aC]);first|done|exact rfl):A/\∃vs,a=some vs/\R vs:=⟨i,v,j,k▸h⟩
def a2(h:p:=by simp only[bp,bm,aU,aF,aW,tyF,Nat.reduceBEq,Nat.reduceAdd,Nat.reduceLeDiff, *]):p:=h
def ce(h:p:=by(try simp only[bj,bE,cm,bO,Nat.reduceAdd]);omega):p:=h
def am{Q:AX->aB->Hp->Prop}{R:Prop}(h:R)(e:Q .normal E H=R:=by exact Cn):cb P cfg f N .skip E H Q:=cb.skip (e▸h)
def aq{Q:AX->aB->Hp->Prop}{R:Prop}(h:R)(e:Q .ret E H=R:=by exact Cn):cb P cfg f N .ret E H Q:=cb.ret (e▸h)
def aw{id:Nat}{Q:AX->aB->Hp->Prop}{R:Prop}(h:R)(e:Q (.exit id) E H=R:=by first|(simp only[nr,tK,reduceIte];first|done|exact rfl)|(dsimp only[];first|done|exact rfl)|exact rfl):cb P cfg f N (.exit id) E H Q:=cb.exit (e▸h)
def di(h:p:=by(refine⟨?_,?_⟩<;>simp only[pJ,sE,lT,vC,nC,Gg,List.forall_mem_cons,bj,bE,aO,nn,aU]<;>(repeat' apply ad)<;>first
 |(intro r hr;cases hr;done)
 |(refine Vi (by simp only[pJ,sE,lT,vC,nC,Gg];rfl) (fun hd=>?_)
   simp only[za,pJ,sE,lT,vC,nC,Gg]at hd⊢;first
   |(cases hd;done)
   |exact Vc cS vE
   |exact Vd cS cS vE
   |exact Ve cS vE
   |exact Vf cS vE
   |exact Vg cS (by simp only[kL];first|rfl|simp only[aF,Nat.reduceBEq, *]) (by simp only[kL];first|rfl|simp only[aF,Nat.reduceBEq, *]) vE
   |exact Vh rfl vE vE)
 |exact aO _
 |assumption
 |omega)):p:=h
variable {N:Nat} {ops:qx} {Q2:AX -> aB -> Hp -> Prop}
def au(id:Nat)(need:qM)(h:∀K:List Rc->aB->Hp->Prop,(∀o E' H',sB P cfg need o H'->Q2 .normal E' H'->K o E' H')->eN P cfg f l [] E H K)(Z:cfg.bF f id=.text:=by exact Gf)(Y:rv ops=true:=by kernel_rfl)(M:bI N ops ops=some l:=by simp only[bI,bT,bU,Nat.blt,Nat.ble];rfl)(C:oS ops=need:=by kernel_rfl):cb P cfg f N (.bD id ops) E H Q2:=Vb Z Y M C h
def nD(id:Nat)(ord:qC)(need:qM)(h:∀K:List Rc->aB->Hp->Prop,(∀o E' H',sB P cfg need o H'->Q2 .normal E' H'->K o E' H')->eN P cfg f l [] E H K)(Z:cfg.bF f id=.b1 ord:=by exact Gf)(Y:yo ord ops=true:=by kernel_rfl)(V:rv (iJ ord ops)=true:=by kernel_rfl)(M:bI N (iJ ord ops) (iJ ord ops)=some l:=by exact Ld)(C:oS (iJ ord ops)=need:=by kernel_rfl):cb P cfg f N (.bD id ops) E H Q2:=KC Z Y V M C h
def dw(id:Nat)(h:∀K:aB->Hp->Prop,(∀E' H',Q2 .normal E' H'->K E' H')->aL P cfg f l E H K)(Z:cfg.bF f id=.text:=by exact Gf)(Y:B8 ops=true:=by kernel_rfl)(M:bI N ops ops=some l:=by simp only[bI,bT,bU,Nat.blt,Nat.ble];rfl):cb P cfg f N (.bD id ops) E H Q2:=cb.bD Z Y M h
end
end Go.Proofs.Ytbflaciihaijgaa
namespace Go.Ab
set_option maxRecDepth 20000
open Go
variable{C:qs}{P:Program}{cfg:Cfg}{g:FuncId}{J:Type}{r i j:Nat}{H a b c:Hp}{x y:Ex}{s:qw}
def fu(v:AV):Prop:=∃k,∀m,k<=m->∀H,iceV H m v=some v
def gl(l:qs):Prop:=∀v∈l,fu v
def gl.nil:gl []:=fun _ h=>lY
def gl.cons{v:AV}{l:qs}(h:fu v)(K:gl l):gl (v::l):=fun w L=>by
 rcases gE.1 L with rfl|L
 .exact h
 .exact K _ L
theorem gl.ce:∀{l:qs},gl l->∃k,∀m,k<=m->∀H,iceL (iceV H m) l=some l
 |[],_=>⟨0,fun _ _ _=>rfl⟩
 |v::l,h=>by
  obtain⟨k1,i⟩:=h v ei;obtain⟨k2,g⟩:=gl.ce (l:=l) fun w L=>h w (ej _ L)
  exact⟨max k1 k2,fun m O H=>by simp only[iceL,i m ac H,g m ac H]⟩
theorem Lg:∀{l:List qs},(∀Y∈l,gl Y)->∃k,∀m,k<=m->∀H,tB (iceV H m) l=some l
 |[],_=>⟨0,fun _ _ _=>rfl⟩
 |v::l,h=>by
  obtain⟨k1,i⟩:=(h v ei).ce;obtain⟨k2,g⟩:=Lg (l:=l) fun w L=>h w (ej _ L)
  exact⟨max k1 k2,fun m O H=>by simp only[tB,i m ac H,g m ac H]⟩
def fu.one{v:AV}(h:∀m H,iceV H (m+1) v=some v):fu v:=⟨1,fun m O H=>by
 obtain⟨m,rfl⟩:∃k,m=k+1:=⟨m-1,ac⟩;exact h m H⟩
theorem fu.int(k:IntKind)(n:Int):fu (.int k n):=.one fun _ _=>rfl
theorem fu.bool(b:Bool):fu (.bool b):=.one fun _ _=>rfl
theorem fu.ai(s:qw):fu (.ai s):=.one fun _ _=>rfl
theorem fu.ah:fu .ah:=.one fun _ _=>rfl
def fu.ao{l:List qs}(h:∀Y∈l,gl Y):fu (.ao l):=by
 obtain⟨k,j⟩:=Lg h;refine⟨k+1,fun m O H=>?_⟩;obtain⟨m,rfl⟩:∃k,m=k+1:=⟨m-1,ac⟩;simp only[iceV,j m ac H]
def fu.agg{l:qs}(h:gl l):fu (.agg l):=by
 obtain⟨k,j⟩:=h.ce;refine⟨k+1,fun m O H=>?_⟩;obtain⟨m,rfl⟩:∃k,m=k+1:=⟨m-1,ac⟩;simp only[iceV,j m ac H]
def fu.aS{l:qs}(h:gl l):fu (.aS l):=by
 obtain⟨k,j⟩:=h.ce;refine⟨k+1,fun m O H=>?_⟩;obtain⟨m,rfl⟩:∃k,m=k+1:=⟨m-1,ac⟩;simp only[iceV,j m ac H]
def fu.map{J:Type}{l:List J}{f:J->qs}(h:∀x∈l,gl (f x)):fu (.ao (l.map f)):=.ao fun Y hr=>by
 obtain⟨x,I,rfl⟩:=nh.1 hr;exact h x I
def Lh(h:gl C):∃k,tC k C=true:=by
 obtain⟨k,j⟩:=h.ce;exact⟨k,by unfold tC;rw[j k (aO _) bY];exact sA C⟩
def Li(fit:Fit P){ρ:Nat->Int}(j:oX cfg.b7 ρ)(V:∀f C r,cfg.call f C=some r->bX P ρ f C r){C:qs}{r:AV}
 (Z:gl C) (hr:fu r) (h:aY P cfg g C bY fun v _=>v=r):bX P ρ g C r:=by
 obtain⟨k,Y⟩:=Lh Z;obtain⟨m,O⟩:=hr;exact Kk (m:=m) fit j V Y (bb (fun v H' e=>by rw[e];exact O m (aO _) H') h)
def vF(fit:Fit P){ρ:Nat->Int}(j:oX cfg.b7 ρ)(V:∀f C r,cfg.call f C=some r->bX P ρ f C r){C:qs}{r:AV}{m:Nat}
 (Z:gl C) (h:aY P cfg g C bY fun v H'=>iceV H' m v=some r):bX P ρ g C r:=by
 obtain⟨k,Y⟩:=Lh Z;exact Kk (m:=m) fit j V Y h
structure En where
 f:FuncId
 aD:Bool
 sp:qs->qB
variable{f:FuncId}
abbrev qA:=List En
variable{l:qA}
def cV:qA->FuncId->qs->qB
 |[],_,_=>none
 |e::l,f,args=>match Nat.beq e.f f with
  |true=>e.sp args
  |false=>cV l f args
def iL:qA->FuncId->Bool
 |[],_=>false
 |e::l,f=>match Nat.beq e.f f with
  |true=>e.aD
  |false=>iL l f
noncomputable def aH(pls:List (Nat×Nat×zd9))(l:qA):Cfg:={keep:=fun _=>false,call:=cV l,aD:=iL l,bF:=yU pls}
def cT(P:Program)(ρ:Nat->Int)(e:En):Prop:=∀C r,e.sp C=some r->bX P ρ e.f C r
def gm(P:Program)(ρ:Nat->Int):qA->Prop
 |[]=>True
 |e::l=>cT P ρ e/\gm P ρ l
theorem gm.b2{P:Program}{ρ:Nat->Int}:∀{l:qA},gm P ρ l->∀f C r,cV l f C=some r->bX P ρ f C r
 |[],_,_,_,_,h=>by simp[cV]at h
 |e::l,hl,f,C,r,h=>by
  simp only[cV]at h;split at h
  .rename_i i;rw[<-jn i];exact hl.1 C r h
  .exact gm.b2 hl.2 f C r h
noncomputable def ch(ok:J->Prop)(enc:J->qs)(out:J->AV)(C:qs):qB:=open Classical in
 if h:∃x,ok x/\enc x=C then some (out (Classical.choose h))else none
def Cq{J:Type}{ok:J->Prop}{enc:J->qs}{out:J->AV}(K:∀x y,enc x=enc y->x=y){x:J}(I:ok x):ch ok enc out (enc x)=some (out x):=by
 unfold ch;have h:∃y,ok y/\enc y=enc x:=⟨x,I,rfl⟩;rw[dif_pos h];rw[K _ _ (Gi h).2]
def Cr{J:Type}{ok:J->Prop}{enc:J->qs}{out:J->AV}(h:∀x,ok x->enc x≠C):ch ok enc out C=none:=by
 unfold ch;rw[dif_neg];rintro⟨x,I,e⟩;exact h x I e
def dg{ρ:Nat->Int}{J:Type}{ok:J->Prop}{ice:Bool}{enc:J->qs}{out:J->AV}(h:∀x,ok x->bX P ρ f (enc x) (out x)):cT P ρ ⟨f,ice,ch ok enc out⟩:=fun C r hr=>by
 change ch ok enc out C=some r at hr;unfold ch at hr;split at hr
 .rename_i I;simp only[aJ]at hr;subst hr;have:=h (Classical.choose I) (Gi I).1;rw[(Gi I).2]at this;exact this
 .simp at hr
attribute [irreducible] ch
def Ct{r:AV}(h:cfg.call g C=some r):aY P cfg g C H fun v H'=>v=r/\H'=H:=Ue h ⟨rfl,rfl⟩
def cF{pls:List (Nat×Nat×zd9)}{J:Type}{ok:J->Prop}{enc:J->qs}{out:J->AV}(K:∀x y,enc x=enc y->x=y){x:J}(Z:cV l g (enc x)=ch ok enc out (enc x))(I:ok x):
 aY P (aH pls l) g (enc x) H fun v H'=>v=out x/\H'=H:=Ct Le
def Cu{pls:List (Nat×Nat×zd9)}{J:Type}{ok:J->Prop}{enc:J->qs}{out:J->AV}(K:∀x y,enc x=enc y->x=y){x:J}(Z:∀Y,cV l g Y=ch ok enc out Y)(z:iL l g=true)(I:ok x){H':Hp}
 (U:∀y,ok y->enc y≠C) (j:gg (eR 100) C H=some (enc x,H')) :
 aY P (aH pls l) g C H fun v V=>v=out x/\(V=H'\/V=H):=Ki (by show cV l g C=none;rw[Z];exact Cr U) z rfl j Le ⟨rfl,.inl rfl⟩ fun _=>⟨rfl,.inr rfl⟩
def vG{ρ:Nat->Int}(fit:Fit P){pls:List (Nat×Nat×zd9)}(K:gm P ρ l)(sz:J->Nat){ok:J->Prop}{enc:J->qs}{out:J->AV}
 (Z:∀x,ok x->gl (enc x)) (hr:∀x,ok x->fu (out x))
 (h:∀x,ok x->aY P (aH pls (⟨f,false,ch (fun y=>ok y/\sz y<sz x) enc out⟩::l)) f (enc x) bY fun v _=>v=out x):∀x,ok x->bX P ρ f (enc x) (out x):=by
 have m:∀n x,sz x<n->ok x->bX P ρ f (enc x) (out x):=by
  intro n;induction n with
  |zero=>intro x U;omega
  |succ n ih=>
   intro x U I;exact Li (cfg:=aH pls (⟨f,false,ch (fun y=>ok y/\sz y<sz x) enc out⟩::l)) fit (rD ρ) (fun g C r Y=>gm.b2 (l:=⟨f,false,ch (fun y=>ok y/\sz y<sz x) enc out⟩::l) ⟨dg fun y V=>ih y ac V.1,K⟩ g C r Y) (Z x I) (hr x I) (h x I)
 exact fun x=>m (sz x+1) x (cI _)
def eg{ρ:Nat->Int}(fit:Fit P){pls:List (Nat×Nat×zd9)}(K:gm P ρ l){r:AV}(Z:gl C)(hr:fu r)(h:aY P (aH pls l) f C bY fun v _=>v=r):bX P ρ f C r:=
 Li fit (rD ρ) (fun g Y r J=>gm.b2 K g Y r J) Z hr h
abbrev cC(n:Int):Int:=IntKind.wrap .i64 n
section
variable (q:Ex -> Int -> Bool)
mutual
def mI:Ex->Int->Bool
 | .mk k n s o L,d=>q (.mk k n s o L) d&&jb L (cC (d+1))
def jb:qG->Int->Bool
 |[],_=>true
 |e::es,d=>mI e d&&jb es d
end
def Gj(e:Ex)(d:Int):mI q e d=(q e d&&jb q e.ak (cC (d+1))):=by
 cases e;simp only[mI,Ex.ak]
def Cv{l:qG}(h:i<l.length)(d:Int):jb q (l.drop i) d=(mI q l[i] d&&jb q (l.drop (i+1)) d):=by
 rw[eU h,jb]
end
section
variable {σ:Type} (q:St -> Int -> σ -> Bool × σ)
mutual
def kX:St->Int->σ->Bool×σ
 | .mk k o z n a v C L M,d,s=>match q (.mk k o z n a v C L M) d s with
   |(false,s)=>(false,s)
   |(true,s)=>match eV L (cC (d+1)) s with
    |(false,s)=>(false,s)
    |(true,s)=>eV M (cC (d+1)) s
def eV:qD->Int->σ->Bool×σ
 |[],_,s=>(true,s)
 |x::l,d,s=>match kX x d s with
  |(false,s)=>(false,s)
  |(true,s)=>eV l d s
end
def Yr(x:St)(d:Int)(s:σ):kX q x d s=match q x d s with
 |(false,s)=>(false,s)
 |(true,s)=>match eV q x.a5 (cC (d+1)) s with
  |(false,s)=>(false,s)
  |(true,s)=>eV q x.a6 (cC (d+1)) s:=by
 cases x;simp only[kX,St.a5,St.a6]
def Ys{l:qD}(h:i<l.length)(d:Int)(s:σ):eV q (l.drop i) d s=match kX q l[i] d s with
 |(false,s)=>(false,s)
 |(true,s)=>eV q (l.drop (i+1)) d s:=by
 rw[eU h,eV]
end
mutual
def Ex.sz:Ex->Nat
 | .mk _ _ s _ L=>1+s.length+eD L
def eD:qG->Nat
 |[]=>0
 |e::es=>1+e.sz+eD es
end
mutual
def St.sz:St->Nat
 | .mk _ o z _ a v C L M=>1+o.length+z.length+a.sz+v.sz+eD C+bN L+bN M
def bN:qD->Nat
 |[]=>0
 |x::l=>1+x.sz+bN l
end
def dU:qt->Nat
 |[]=>0
 |s::l=>1+s.length+dU l
def Fu.sz(f:Fu):Nat:=1+f.name.length+dU f.params+dU f.aj+bN f.body+f.value.sz
def fw:qN->Nat
 |[]=>0
 |f::l=>1+f.sz+fw l
def gp:qP->Nat
 |[]=>0
 |a::l=>1+a.name.length+gp l
def Pr.sz(p:Pr):Nat:=1+gp p.aa+fw p.funcs
theorem ph:∀l:qG,l.length<=eD l
 |[]=>aO _
 |e::es=>by have:=ph es;simp only[eT,eD];omega
theorem tR:∀l:qD,l.length<=bN l
 |[]=>aO _
 |e::es=>by have:=tR es;simp only[eT,bN];omega
theorem jO:∀l:qt,l.length<=dU l
 |[]=>aO _
 |e::es=>by have:=jO es;simp only[eT,dU];omega
theorem nE:∀l:qN,l.length<=fw l
 |[]=>aO _
 |e::es=>by have:=nE es;simp only[eT,fw];omega
theorem nF:∀l:qP,l.length<=gp l
 |[]=>aO _
 |e::es=>by have:=nF es;simp only[eT,gp];omega
theorem ou:∀{l:qG}{x:Ex},x∈l->x.sz<eD l
 |[],_,h=>by simp at h
 |e::es,x,h=>by
  rcases gE.1 h with rfl|h
  .simp only[eD];omega
  .have:=ou h;simp only[eD];omega
theorem pi:∀{l:qD}{x:St},x∈l->x.sz<bN l
 |[],_,h=>by simp at h
 |e::es,x,h=>by
  rcases gE.1 h with rfl|h
  .simp only[bN];omega
  .have:=pi h;simp only[bN];omega
theorem Cw:∀{l:qt}{x:qw},x∈l->x.length<dU l
 |[],_,h=>by simp at h
 |e::es,x,h=>by
  rcases gE.1 h with rfl|h
  .simp only[dU];omega
  .have:=Cw h;simp only[dU];omega
theorem ow:∀{l:qN}{x:Fu},x∈l->x.sz<fw l
 |[],_,h=>by simp at h
 |e::es,x,h=>by
  rcases gE.1 h with rfl|h
  .simp only[fw];omega
  .have:=ow h;simp only[fw];omega
def Ex.aM(e:Ex):e.sz=1+e.name.length+eD e.ak:=by cases e;simp only[Ex.sz,Ex.name,Ex.ak]
def St.aM(x:St):x.sz=1+x.name.length+x.to.length+x.aW.sz+x.value.sz+eD x.args+bN x.a5+bN x.a6:=by cases x;simp only[St.sz,St.name,St.to,St.aW,St.value,St.args,St.a5,St.a6]
structure FrB (base:Nat) (H H':Hp):Prop where
 next:H.next<=H'.next
 get:∀r,base<=r->r<H.next->H'.get r=H.get r
def FrB.refl(base:Nat)(H:Hp):FrB base H H:=⟨aO _,fun _ _ _=>rfl⟩
def jc:=@FrB.refl
def FrB.trans{base:Nat}(h:FrB base a b)(k:FrB base b c):FrB base a c:=⟨dq h.next k.next,fun r i g=>(k.get r i (mZ g h.next)).trans (h.get r i g)⟩
def FrB.alloc{base:Nat}(h:FrB base a b)(x:HB):FrB base a (b.alloc x):=⟨dq h.next (dH _),fun r i g=>by
 have:=h.next
 rw[aQ,af ac];exact h.get r i g⟩
def FrB.set{base:Nat}(h:FrB base a b)(hr:a.next<=r\/r<base)(x:HB):FrB base a (b.set r x):=⟨h.next,fun k i g=>by
 rw[a1,af ac];exact h.get k i g⟩
def iM(base:Nat)(H H':Hp):Prop:=∀r,r<base->H'.get r=H.get r
theorem iM.refl(base:Nat)(H:Hp):iM base H H:=fun _ _=>rfl
def pV:=@iM.refl
def iM.trans{base:Nat}(h:iM base a b)(k:iM base b c):iM base a c:=fun r hr=>(k r hr).trans (h r hr)
def iM.alloc{base:Nat}(h:iM base a b)(o:base<=b.next)(x:HB):iM base a (b.alloc x):=fun r hr=>by rw[aQ,af ac];exact h r hr
def iM.set{base:Nat}(h:iM base a b)(hr:base<=r)(x:HB):iM base a (b.set r x):=fun k j=>by rw[a1,af ac];exact h k j
def FrB.cm{base:Nat}(h:base<=j)(k:FrB base a b):FrB j a b:=⟨k.next,fun r i g=>k.get r (dq h i) g⟩
def iM.cm{base:Nat}(h:base<=j)(k:iM j a b):iM base a b:=fun r hr=>k r (mZ hr h)
def ox(x:St)(d:Int)(s:Int×Int):Bool×(Int×Int):=
 let n:=cC (s.1+1)
 let l:=if x.am=4 then cC (s.2+1)else s.2
 (decide (d<=20)&&decide (n<=200)&&decide (l<=16),(n,l))
def sF(_:Ex)(d:Int):Bool:=decide (d<=20)
def pj(q:Ex->Int->Bool)(x:St)(_:Int)(s:Unit):Bool×Unit:=(mI q x.aW 0&&mI q x.value 0&&jb q x.args 0,s)
def pm(q:Ex->Int->Bool)(f:Fu):Bool:=mI q f.value 0&&(eV (pj q) f.body 0 ()).1
def jP(f:Fu):Bool:=decide ((f.params.length:Int)<=6)&&decide ((f.aj.length:Int)<=8)&&(eV ox f.body 0 (0,0)).1&&pm sF f
def lI(p:Pr):Bool:=!decide (4<(p.aa.length:Int)) && !decide (8<(p.funcs.length:Int))&&p.aa.all (fun a=>!decide (a.len<1) && !decide (16<a.len))&&p.funcs.all jP
def Ex.pure(x:Ex):gl x.cells:=by
 have m:∀n (x:Ex),x.sz<n->gl x.cells:=by
  intro n;induction n with
  |zero=>intro x h;omega
  |succ n ih=>
   intro x h;rw[pT];refine .cons (.int _ _) (.cons (.int _ _) (.cons (.ai _) (.cons (.int _ _) (.cons (.map fun y Y=>ih y ?_) .nil))));have:=ou Y;have:=x.aM;omega
 exact m _ x (cI _)
def Cy(l:qG):fu (.ao (l.map Ex.cells)):=.map fun x _=>x.pure
def St.pure(x:St):gl x.cells:=by
 have m:∀n (x:St),x.sz<n->gl x.cells:=by
  intro n;induction n with
  |zero=>intro x h;omega
  |succ n ih=>
   intro x h;rw[vy];have:=x.aM;refine .cons (.int _ _) (.cons (.ai _) (.cons (.ai _) (.cons (.int _ _) (.cons (.int _ _) (.cons (.int _ _) (.cons (.ai _) (.cons (.int _ _) (.cons (Cy _) (.cons (.int _ _) (.cons (.int _ _) (.cons (.ai _) (.cons (.int _ _) (.cons (Cy _) (.cons (Cy _) (.cons (.map fun y Y=>ih y ?_) (.cons (.map fun y Y=>ih y ?_) .nil))))))))))))))))
   .have:=pi Y;omega
   .have:=pi Y;omega
 exact m _ x (cI _)
def zi(l:qD):fu (.ao (l.map St.cells)):=.map fun x _=>x.pure
def tS(l:qt):fu (cM l):=.map fun x _=>.cons (.ai _) .nil
def Fu.pure(x:Fu):gl x.cells:=by
 rw[zd];exact .cons (.ai _) (.cons (tS _) (.cons (tS _) (.cons (zi _) (.cons (.int _ _) (.cons (.int _ _) (.cons (.ai _) (.cons (.int _ _) (.cons (Cy _) .nil))))))))
def Ar.pure(x:Ar):gl x.cells:=.cons (.ai _) (.cons (.int _ _) .nil)
def Pr.pure(x:Pr):gl x.cells:=.cons (.map fun x _=>x.pure) (.cons (.map fun x _=>x.pure) .nil)
theorem mJ{J β:Type}{f:J->β}:∀{a b:List J},(∀x∈a,∀y,f x=f y->x=y)->a.map f=b.map f->a=b
 |[],[],_,_=>rfl
 |[],_::_,_,h=>by simp at h
 |_::_,[],_,h=>by simp at h
 |x::a,y::b,hf,h=>by
  simp only[dS,dR]at h;rw[hf x ei y h.1,mJ (fun z I=>hf z (ej _ I)) h.2]
def Ex.ext'(O:x.am=y.am)(h1:x.n=y.n)(h2:x.name=y.name)(m:x.op=y.op)(U:x.ak=y.ak):x=y:=by
 cases x;cases y;simp only[Ex.am,Ex.n,Ex.name,Ex.op,Ex.ak]at *;simp[*]
def Ex.inj(h:x.cells=y.cells):x=y:=by
 have m:∀n (x:Ex),x.sz<n->∀y,x.cells=y.cells->x=y:=by
  intro n;induction n with
  |zero=>intro x h;omega
  |succ n ih=>
   intro x h y e;rw[pT,pT]at e;simp only[dR,AV.int.injEq,AV.ai.injEq,AV.ao.injEq,nn,aU]at e;obtain⟨Y,o,J,L,Z⟩:=e;refine Ex.ext' Y o J L (mJ (fun z I=>ih z ?_) Z);have:=ou I;have:=x.aM;omega
 exact m _ x (cI _) y h
def Cz{a b:qG}(h:a.map Ex.cells=b.map Ex.cells):a=b:=mJ (fun _ _ _=>Ex.inj) h
def St.ext'{x y:St}(O:x.am=y.am)(h1:x.name=y.name)(h2:x.to=y.to)(m:x.n=y.n)(U:x.aW=y.aW)(M:x.value=y.value)(K:x.args=y.args)(z:x.a5=y.a5)(I:x.a6=y.a6):x=y:=by
 cases x;cases y;simp only[St.am,St.name,St.to,St.n,St.aW,St.value,St.args,St.a5,St.a6]at *;simp[*]
def St.inj{x y:St}(h:x.cells=y.cells):x=y:=by
 have m:∀n (x:St),x.sz<n->∀y,x.cells=y.cells->x=y:=by
  intro n;induction n with
  |zero=>intro x h;omega
  |succ n ih=>
   intro x h y e;have hs:=x.aM;rw[vy,vy]at e;simp only[dR,AV.int.injEq,AV.ai.injEq,AV.ao.injEq,nn,aU]at e;obtain⟨Y,o,J,L,mA,bK,bW,g,Z,V,U,i,O,K,M,C,j⟩:=e;refine St.ext' Y o J L (Ex.ext' mA bK bW g (Cz Z)) (Ex.ext' V U i O (Cz K)) (Cz M) (mJ (fun z I=>ih z ?_) C) (mJ (fun z I=>ih z ?_) j)
   .have:=pi I;omega
   .have:=pi I;omega
 exact m _ x (cI _) y h
def CA{a b:qD}(h:a.map St.cells=b.map St.cells):a=b:=mJ (fun _ _ _=>St.inj) h
def vH{a b:qt}(h:(a.map fun s=>[AV.ai s])=b.map fun s=>[AV.ai s]):a=b:=mJ (fun x _ y e=>by simpa using e) h
def Fu.inj{x y:Fu}(h:x.cells=y.cells):x=y:=by
 obtain⟨n,p,l,b,v⟩:=x;obtain⟨Z,j,V,I,O⟩:=y;rw[zd,zd]at h;simp only[dR,AV.int.injEq,AV.ai.injEq,AV.ao.injEq,nn,aU]at h;obtain⟨Y,o,J,L,z,m,i,U,K⟩:=h;rw[Y,vH o,vH J,CA L,Ex.ext' z m i U (Cz K)]
def Ar.inj{x y:Ar}(h:x.cells=y.cells):x=y:=by
 obtain⟨n,p⟩:=x;obtain⟨z,j⟩:=y;simp only[Ar.cells,dR,AV.int.injEq,AV.ai.injEq,nn,aU]at h;rw[h.1,h.2]
def Pr.inj{x y:Pr}(h:x.cells=y.cells):x=y:=by
 obtain⟨n,p⟩:=x;obtain⟨z,j⟩:=y;simp only[Pr.cells,dR,AV.ao.injEq,nn,aU]at h;rw[mJ (fun _ _ _=>Ar.inj) h.1,mJ (fun _ _ _=>Fu.inj) h.2]
def zj(l:qu):fu (gh l):=.map fun x _=>.cons (.int _ _) .nil
def Nd.pure(x:Nd):gl x.cells:=.cons (.int _ _) (.cons (.int _ _) (.cons (zj _) .nil))
def zk:=@Nd.pure
def Gr.pure(x:Gr):gl x.cells:=.cons (.ai _) (.cons (.int _ _) (.cons (.map fun y _=>y.pure) (.cons (.int _ _) (.cons (.int _ _) .nil))))
def Un.pure(x:Un):gl x.cells:=.cons (.map fun y _=>y.pure) (.cons (.map fun y _=>y.pure) .nil)
def Lj{a b:qu}(h:(a.map fun n=>[AV.int .i64 n])=b.map fun n=>[AV.int .i64 n]):a=b:=mJ (fun x _ y e=>by simpa using e) h
def Nd.inj{x y:Nd}(h:x.cells=y.cells):x=y:=by
 obtain⟨n,p,k⟩:=x;obtain⟨z,j,k'⟩:=y;simp only[Nd.cells,dR,AV.int.injEq,AV.ao.injEq,nn,aU]at h;rw[h.1,h.2.1,Lj h.2.2]
def tT:=@Nd.inj
def Gr.inj{x y:Gr}(h:x.cells=y.cells):x=y:=by
 obtain⟨n,p,l,v,s⟩:=x;obtain⟨z,j,Z,Y,V⟩:=y;simp only[Gr.cells,dR,AV.int.injEq,AV.ai.injEq,AV.ao.injEq,nn,aU]at h;obtain⟨i,g,m,U,M⟩:=h;rw[i,g,mJ (fun _ _ _=>tT) m,U,M]
def Un.inj{x y:Un}(h:x.cells=y.cells):x=y:=by
 obtain⟨n,p⟩:=x;obtain⟨z,j⟩:=y;simp only[Un.cells,dR,AV.ao.injEq,nn,aU]at h;rw[mJ (fun _ _ _=>Ar.inj) h.1,mJ (fun _ _ _=>Gr.inj) h.2]
def pn(n:Int):Bool:=(decide (97<=n)&&decide (n<=122))||(decide (65<=n)&&decide (n<=90))||decide (n=95)
def nG(n:Int):Bool:=decide (48<=n)&&decide (n<=57)
def kY(b:UInt8):Bool:=pn b.toNat||nG b.toNat
def fx:qw->Nat
 |[]=>0
 |b::s=>if kY b then fx s+1 else 0
theorem Lk:∀s:qw,fx s<=s.length
 |[]=>aO _
 |b::s=>by have:=Lk s;simp only[fx,eT];split<;>omega
def jQ:qw->Nat
 |[]=>0
 |b::s=>if b.toNat=10 then 0 else jQ s+1
theorem Ll:∀s:qw,jQ s<=s.length
 |[]=>aO _
 |b::s=>by have:=Ll s;simp only[jQ,eT];split<;>omega
def ku(b:UInt8):Bool:=decide (b.toNat=32)||decide (b.toNat=9)||decide (b.toNat=10)||decide (b.toNat=13)
def fH:Bool->qw->Nat
 |_,[]=>0
 |true,b::s=>if b.toNat=10 then (if ku b then fH false s+1 else 0)else fH true s+1
 |false,b::s=>if ku b then fH false s+1 else if b.toNat=35 then fH true s+1 else 0
theorem Lm:∀s:qw,fH true s=jQ s+fH false (s.drop (jQ s))
 |[]=>rfl
 |b::s=>by
  simp only[fH,jQ];by_cases h:b.toNat=10
  .have o:ku b=true:=by unfold ku;simp[h]
   simp[h,o,fH]
  .simp only[h,bH,zg,Lm s];omega
theorem xw:∀(c:Bool) (s:qw),fH c s<=s.length
 |c,[]=>by cases c<;>exact aO _
 |true,b::s=>by have i:=xw true s;have g:=xw false s;simp only[fH,eT];split<;>(try split)<;>omega
 |false,b::s=>by have i:=xw true s;have g:=xw false s;simp only[fH,eT];split<;>(try split)<;>omega
def Ln(s:qw)(k:Tk)(e:Int):Prop:=
 k.aW=0/\(e=0->∃n,1<=n/\n<=s.length/\k.text=s.take n/\(k.am=1->n=fx s/\n<=16/\∀b,s[0]?=some b->nG b.toNat=false)) /\
 (1<=fx s->fx s<=16->(∀b,s[0]?=some b->nG b.toNat=false)->e=0/\k=⟨1,s.take (fx s),0⟩)
def tU(s:qw):Prop:=1<=fx s/\fx s=s.length/\s.length<=16/\∀b,s[0]?=some b->nG b.toNat=false
def CB(s:qw)(i:List Tk):Prop:=∀k J,i=k::J->∃k0,Ln (s.drop (fH false s)) k0 0/\k.am=k0.am/\k.text=k0.text
def xy(lo:Nat)(H:Hp)(O:AV)(i:List Tk):Prop:=(i=[]/\O=.ah)\/∃r,O=.sl r 0 i.length 3/\H.get r=some (.cells (i.flatMap Tk.cells) 0 true)/\lo<r/\r<H.next/\i≠[]
theorem Yt(h:tU s):fH false s=0:=by
 obtain⟨i,g,m,Z⟩:=h;cases s with
 |nil=>rfl
 |cons b s=>
  have hd:=Z b rfl;simp only[fx]at i;have L:kY b=true:=by
   cases o:kY b with
   |true=>rfl
   |false=>rw[o]at i;simp at i
  simp only[kY,hd,pe]at L;have U:ku b=false:=by
   unfold ku;simp only[pn,oZ,jJ]at L;simp;omega
  have V:¬b.toNat=35:=by
   simp only[pn,oZ,jJ]at L;omega
  simp only[fH,U,dC,bH,V]
theorem Lo:∀ts:List Tk,(ts.flatMap Tk.cells).length=ts.length*3
 |[]=>rfl
 |t::ts=>by rw[vD,fg,Lo ts,Tk.a9,eT];omega
def FrB.aP{base:Nat}(h:FrB base a b)(hr:a.next<=r):FrB base a (b.aP r):=⟨h.next,fun k i g=>by
 rw[hO,af ac];exact h.get k i g⟩
def lJ(s:qw):Bool:=decide (1<=fx s)&&decide (fx s=s.length)&&decide (s.length<=16)&&(match s with|b::_=>!nG b.toNat|[]=>true)
def CC(s:qw):lJ s=true↔tU s:=by
 unfold lJ tU;cases s with
 |nil=>simp[fx]
 |cons b s=>simp[and_assoc]
def tV(s:qw):Bool:=decide (s=[97,114,114,97,121])||decide (s=[102,117,110,99])||decide (s=[118,97,114])||decide (s=[114,101,116,117,114,110])||decide (s=[105,102])||decide (s=[101,108,115,101])||decide (s=[119,104,105,108,101])||decide (s=[111,117,116])||decide (s=[116,114,97,112])
def cZ(s:qw):Bool:=lJ s && !tV s
def Yu{k:Tk}{J:List Tk}(h:CB s (k::J))(j:k.am=1)(U:k.text=s):tU s:=by
 obtain⟨k0,Z,g,m⟩:=h k J rfl;obtain⟨n,dy,C,i,Y⟩:=Z.2.1 rfl;obtain⟨V,O,M⟩:=Y (by rw[<-g];exact j);rw[<-m,U]at i;have K:=jH List.length i;rw[lS,kQ]at K;rw[kQ]at C;have o:fH false s=0:=ac;rw[o,fF]at V M;have L:n=s.length:=ac;exact⟨ac,ac,ac,M⟩
end Go.Ab
