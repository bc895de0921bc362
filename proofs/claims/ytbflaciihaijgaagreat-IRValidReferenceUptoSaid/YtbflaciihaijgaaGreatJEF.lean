/- Lemmas for the last file. -/
import Derived.Test.YtbflaciihaijgaaGreatJEE
set_option linter.all false
set_option maxHeartbeats 32000000
namespace Go.Ab
set_option maxRecDepth 20000
open Go
variable{qf:Prop}
def Ea(h:qf:=by first|(dsimp only[mX,ul];first|done|exact rfl)|(dsimp only[];first|done|exact rfl)|exact rfl):=h
def vy(h:qf:=by first|(dsimp only[aU];first|done|exact rfl)|exact rfl):=h
def fd(h:qf:=by ((first|simp only[aG,Nat.reduceBEq,ne_eq,not_false_eq_true, *,-hK]|simp only[aG,Nat.reduceBEq,ne_eq,not_false_eq_true, *]|skip);first|done|with_reducible rfl)):=h
def kX(h:qf:=by ((first|simp only[aG,aR,tyF,Nat.reduceBEq,Nat.reduceAdd,Nat.reduceLeDiff,ne_eq,not_false_eq_true, *,-hK]|simp only[aG,aR,tyF,Nat.reduceBEq,Nat.reduceAdd,Nat.reduceLeDiff,ne_eq,not_false_eq_true, *]|skip);first|done|with_reducible rfl)):=h
def yT(h:qf:=by ((try simp only[aZ,br,bX,Nat.add_assoc,Nat.reduceAdd,Nat.zero_add]);with_reducible rfl)):=h
def N8(h:qf:=by ((first|simp only[aG,Nat.reduceBEq,mw,ne_eq,not_false_eq_true, *,-hK]|simp only[aG,Nat.reduceBEq,mw,ne_eq,not_false_eq_true, *]|skip);first|done|with_reducible rfl)):=h
def N9(h:qf:=by ((first|simp only[aG,Nat.reduceBEq,jx,List.cons_append,List.nil_append,ne_eq,not_false_eq_true, *,-hK]|simp only[aG,Nat.reduceBEq,jx,List.cons_append,List.nil_append,ne_eq,not_false_eq_true, *]|skip);first|done|with_reducible rfl)):=h
def Oa(h:qf:=by ((first|simp only[aG,Nat.reduceBEq,lR,ne_eq,not_false_eq_true, *,-hK]|simp only[aG,Nat.reduceBEq,lR,ne_eq,not_false_eq_true, *]|skip);first|done|with_reducible rfl)):=h
def eT(h:qf:=by ((first|simp only[aG,Nat.reduceBEq,ne_eq,not_false_eq_true,decide_true,decide_false,Int.reduceEq,Int.reduceLE,Int.reduceToNat,Nat.mul_one, *,-hK]|simp only[aG,Nat.reduceBEq,ne_eq,not_false_eq_true,decide_true,decide_false,Int.reduceEq,Int.reduceLE,Int.reduceToNat,Nat.mul_one, *]|skip);first|done|with_reducible rfl)):=h
def kY(h:qf:=by ((first|simp only[aG,aR,tyF,Nat.reduceBEq,Nat.reduceAdd,Nat.reduceLeDiff,ne_eq,not_false_eq_true,decide_true,decide_false,Int.reduceEq,Int.reduceLE,Int.reduceToNat,Nat.mul_one, *,-hK]|simp only[aG,aR,tyF,Nat.reduceBEq,Nat.reduceAdd,Nat.reduceLeDiff,ne_eq,not_false_eq_true,decide_true,decide_false,Int.reduceEq,Int.reduceLE,Int.reduceToNat,Nat.mul_one, *]|skip);first|done|with_reducible rfl)):=h
def Ob(h:qf:=by ((first|simp only[aG,Nat.reduceBEq,mw,ne_eq,not_false_eq_true,decide_true,decide_false,Int.reduceEq,Int.reduceLE,Int.reduceToNat,Nat.mul_one, *,-hK]|simp only[aG,Nat.reduceBEq,mw,ne_eq,not_false_eq_true,decide_true,decide_false,Int.reduceEq,Int.reduceLE,Int.reduceToNat,Nat.mul_one, *]|skip);first|done|with_reducible rfl)):=h
def Oc(h:qf:=by ((first|simp only[aG,Nat.reduceBEq,jx,List.cons_append,List.nil_append,ne_eq,not_false_eq_true,decide_true,decide_false,Int.reduceEq,Int.reduceLE,Int.reduceToNat,Nat.mul_one, *,-hK]|simp only[aG,Nat.reduceBEq,jx,List.cons_append,List.nil_append,ne_eq,not_false_eq_true,decide_true,decide_false,Int.reduceEq,Int.reduceLE,Int.reduceToNat,Nat.mul_one, *]|skip);first|done|with_reducible rfl)):=h
def Od(h:qf:=by ((first|simp only[aG,Nat.reduceBEq,lR,ne_eq,not_false_eq_true,decide_true,decide_false,Int.reduceEq,Int.reduceLE,Int.reduceToNat,Nat.mul_one, *,-hK]|simp only[aG,Nat.reduceBEq,lR,ne_eq,not_false_eq_true,decide_true,decide_false,Int.reduceEq,Int.reduceLE,Int.reduceToNat,Nat.mul_one, *]|skip);first|done|with_reducible rfl)):=h
def Jb(h:qf:=by first|(simp only[aG,Nat.reduceBEq, *];done)|rfl):=h
def Jc(h:qf:=by first|rfl|exact hplan _|(rw[hS.bU];rfl)):=h
def Oe(h:qf:=by simp only[jr,va,List.filterMap_cons,List.filterMap_nil,List.getElem?_cons_succ,List.getElem?_cons_zero,bt,bA,bB,Nat.blt,Nat.ble];rfl):=h
def yU(h:qf:=by simpa using e):=h
def vz:=@List.cons_append
def xm:=@List.getElem?_cons_succ
def nV:=@List.getElem?_cons_zero
def xn:=@List.drop_succ_cons
def kB:=@decide_eq_false_iff_not
def Jd:=@List.getElem?_nil
def Eb:=@Classical.choose_spec
def cC:=@Nat.lt_succ_self
def ft:=@List.drop_eq_getElem_cons
def io:=@Bool.or_false
def xo:=@List.flatMap_cons
def Ec:=And.intro @vz.{0} @nN.{0}
def jC:=And.intro Ec @bm.{0}
end Go.Ab
namespace Go.Proofs.YtbflaciihaijgaaGreat
set_option maxRecDepth 20000
open Go Go.Ab
variable{U J q1 q2 p A:Prop}{g z:Operand}{r i n s N:Nat}{cs vs:qt}{L:Array (Nat×Operand)}{c:Call}{lo C:Option Operand}{Y V:qC}{I:Array TypeId}{Z:qI}{O:Int}{tb:Bool}
def tm:=ad lX iC
def tp:=ad @kA @kB
section
variable {P:Program} {cfg:Cfg} {f:FuncId} {l:List SOp} {E:ax} {H H':Hp} {Q:ax -> Hp -> Prop} {d:Nat} {v a b:AV} {x y:Operand} {t u:TypeId}
def cJ(P:Program)(cfg:Cfg)(f:FuncId)(op:Op)(E:ax)(H:Hp)(v:AV)(H':Hp):Prop:=∃n,eR P cfg (ek P cfg n) f E H op=.val v H'
def cJ.of{op:Op}(h:∀Q:ax->Hp->Prop,aJ P cfg f [] (T.set E 0 (some v)) H' Q->aJ P cfg f [⟨some 0,op,none⟩] E H Q):cJ P cfg f op E H v H':=by
 have i:=h (fun j Z=>j.at 0=v/\Z=H') (AZ ⟨by rw[kW];rfl,rfl⟩);unfold aJ at i;simp only[]at i;unfold jz at i;obtain⟨n,w,Z,g,m⟩:=i;unfold aJ at m;obtain⟨U,rfl⟩:=m;have:(aU E (some 0) w).at 0=w:=M7;rw[this]at U;exact⟨n,by rw[g,U]⟩
def dT:=@cJ.of
def Ed{op:Op}(h:∀Q:ax->Hp->Prop,aJ P cfg f [] E H' Q->aJ P cfg f [⟨none,op,none⟩] E H Q):∃v,cJ P cfg f op E H v H':=by
 have i:=h (fun j Z=>Z=H') (AZ rfl);unfold aJ at i;simp only[]at i;unfold jz at i;obtain⟨n,w,Z,g,m⟩:=i;unfold aJ at m;subst m;exact⟨w,n,g⟩
def cJ.go{op:Op}(j:aJ P cfg f l (T.set E d (some v)) H' Q)(h:cJ P cfg f op E H v H'):aJ P cfg f (⟨some d,op,none⟩::l) E H Q:=by
 obtain⟨n,h⟩:=h;unfold aJ;show jz _ _ _ _ _ _ _;unfold jz;exact⟨n,v,H',h,j⟩
def Of{op:Op}(j:aJ P cfg f l E H' Q)(h:∃v,cJ P cfg f op E H v H'):aJ P cfg f (⟨none,op,none⟩::l) E H Q:=by
 obtain⟨v,n,h⟩:=h;unfold aJ;show jz _ _ _ _ _ _ _;unfold jz;exact⟨n,v,H',h,j⟩
attribute [irreducible] cJ
def Rx.nl{U K:ax->Hp->Prop}{R:Prop}(h:R)(hK:∀E H,U E H->K E H:=by assumption)(e:U E H=R:=by exact Ea):aJ P cfg f [] E H K:=AZ (hK _ _ (e▸h))
def aj:=@Rx.nl
def ce{R:Prop}(h:R)(e:Q E H=R:=by first|(dsimp only[];first|done|exact rfl)|exact rfl):aJ P cfg f [] E H Q:=AZ (e▸h)
def di{need:qP}{g:List Rc}{U:ax->Hp->Prop}{K:List Rc->ax->Hp->Prop}{R:Prop}(h1:uo P cfg need g H)(h:R)(hK:∀g E' H',uo P cfg need g H'->U E' H'->K g E' H':=by assumption)(e:U E H=R:=by exact Ea):ea P cfg f [] g E H K:=ea.nil (hK _ _ _ h1 (e▸h))
def Rx.k{g:FuncId}{ar:qt}{r:AV}{K:AV->Hp->Prop}{R:Prop}(c:aM P cfg g ar H fun v H'=>v=r/\H'=H)(h:R)(e:K r H=R:=by exact vy):aM P cfg g ar H K:=aY (by rintro _ _ ⟨rfl,rfl⟩;exact e▸h) c
def Ox.mv(h:aS E x=some v:=by exact fd):cJ P cfg f (.move x) E H v H:=dT fun Q j=>aJ.move h j
def Ox.as(h:aS E x=some v:=by exact fd):cJ P cfg f (.assign x) E H v H:=dT fun Q j=>aJ.assign h j
def Ox.pk{t:Bool}(h:aS E x=some (.bool t):=by exact fd)(h1:aS E y=some a:=by exact fd)(h2:aS E z=some b:=by exact fd):cJ P cfg f (.pick x y z) E H (mp t a b) H:=dT fun Q j=>aJ.pick h h1 h2 j
def Ox.ld(h:aS E x=some a:=by exact fd)(h1:gL P H t a=some v:=by exact kX):cJ P cfg f (.load t x) E H v H:=dT fun Q j=>aJ.load h h1 j
def Ox.st(h:aS E x=some a:=by exact fd)(h1:aS E y=some b:=by exact fd)(h2:mr P H t a b=some H':=by exact kX):∃v,cJ P cfg f (.store t x y) E H v H':=Ed fun Q j=>rA h h1 h2 j
def Ox.nc{o:Nat}(h:aS E x=some (.ptr r o):=by exact fd):cJ P cfg f (.nilCheck x) E H (.ptr r o) H:=dT fun Q j=>aJ.nilCheck h j
def Ox.bn{op:BinOp}(h:aS E x=some a:=by exact fd)(h1:aS E y=some b:=by exact fd)(h2:eK P cfg.cl op t a b=some v:=by exact kX):cJ P cfg f (.binOp op t x y u) E H v H:=dT fun Q j=>aJ.ca h h1 h2 j
def Ox.un{op:UnOp}(h:aS E x=some a:=by exact fd)(h2:uY op a=some v:=by exact kX):cJ P cfg f (.unOp op t x) E H v H:=dT fun Q j=>aJ.un h h2 j
def Ox.cv(h:aS E x=some a:=by exact fd)(h2:mM P H t u a=some v:=by exact kX):cJ P cfg f (.convert t u x) E H v H:=dT fun Q j=>aJ.convert h h2 j
def Ox.fa(h:aS E x=some a:=by exact fd)(h2:uV P t a i=some v:=by exact kX):cJ P cfg f (.fieldAddr t x i) E H v H:=dT fun Q j=>Nf h h2 j
def Ox.fi(h:aS E x=some a:=by exact fd)(h2:wK P t a i=some v:=by exact kX):cJ P cfg f (.field t x i) E H v H:=dT fun Q j=>aJ.field h h2 j
def Ox.ia(h:aS E x=some a:=by exact fd)(h1:aS E y=some b:=by exact fd)(h2:ej P t a b=some v:=by exact kX):cJ P cfg f (.indexAddr t x y) E H v H:=dT fun Q j=>Ng h h1 h2 j
def Ox.ix(h:aS E x=some a:=by exact fd)(h1:aS E y=some b:=by exact fd)(h2:sc P t a b=some v:=by exact kX):cJ P cfg f (.index t x y) E H v H:=dT fun Q j=>aJ.index h h1 h2 j
def Ox.ex(h:aS E x=some a:=by exact fd)(h2:Ab.extract a i=some v:=by exact kX):cJ P cfg f (.extract x i) E H v H:=dT fun Q j=>aJ.extract h h2 j
def Ox.al{z:qt}(h:cS P t=some z:=by exact kX)(I:some H.next=some n:=by exact yT):cJ P cfg f (.alloc t) E H (.ptr n 0) (H.alloc (.cells z 0 true)):=dT fun Q j=>aJ.alloc h I j
def Ox.bx(h:aS E x=some a:=by exact fd)(g:some a.cells=some cs:=by exact kX)(I:some H.next=some n:=by exact yT):cJ P cfg f (.box t x) E H (.ptr n 0) (H.alloc (.cells cs 0 true)):=dT fun Q j=>aJ.box h g I j
def Ox.bd{ps:qM}(h:mw E L.toList=some ps:=by exact N8)(h2:dU P t ps=some v:=by exact kX):cJ P cfg f (.build t L) E H v H:=dT fun Q j=>aJ.build h h2 j
def Ox.bs{ps:qM}(h:mw E L.toList=some ps:=by exact N8)(h2:et P H t n ps=some (v,H'):=by exact kX):cJ P cfg f (.buildSlice t n L) E H v H':=dT fun Q j=>Nh h h2 j
def Ox.mm(I:some H.next=some n:=by exact yT):cJ P cfg f (.makeMap t none) E H (.map n) (H.alloc (.map [])):=dT fun Q j=>aJ.makeMap I j
def Ox.ms(h:aS E x=some a:=by exact fd)(h1:aS E y=some b:=by exact fd)(h2:j9 P H t a b=some (v,H'):=by exact kX):cJ P cfg f (.makeSlice t x y) E H v H':=dT fun Q j=>Nl h h1 h2 j
def Ox.lu{ok:Bool}(h:aS E x=some a:=by exact fd)(h1:aS E y=some b:=by exact fd)(h2:mL P H t a b ok=some v:=by exact kX):cJ P cfg f (.lookup t x y ok) E H v H:=dT fun Q j=>aJ.lookup h h1 h2 j
def Ox.mu{c:AV}(h:aS E x=some a:=by exact fd)(h1:aS E y=some b:=by exact fd)(h2:aS E z=some c:=by exact fd)(m:re P H t a b c=some H':=by exact kX):∃v,cJ P cfg f (.mapUpdate t x y z) E H v H':=Ed fun Q j=>Nk h h1 h2 m j
def Ox.mf{g:FuncId}{cap:Array Operand}(h:jx E cap.toList=some vs:=by exact N9):cJ P cfg f (.makeFunc (.func g) #[] cap) E H (.bm g vs) H:=dT fun Q j=>aJ.makeFunc h j
def Ox.sl(h:aS E x=some a:=by exact fd)(h1:lR E lo=some Y:=by exact Oa)(h2:lR E C=some V:=by exact Oa)(m:ph P H t a Y V=some v:=by exact kX):cJ P cfg f (.slice t x lo C none) E H v H:=dT fun Q j=>aJ.slice h h1 h2 m j
def Ox.ln{c:AV}(h:aS E x=some a:=by exact fd)(h1:ij P H t a=some c:=by exact kX):cJ P cfg f (.call ⟨.builtin .len,#[x],#[t]⟩) E H c H:=dT fun Q j=>aJ.len h h1 j
def Ox.ap(h:aS E x=some a:=by exact fd)(h1:aS E y=some b:=by exact fd)(h2:cX P (cfg.keep f) H t u a b=some (v,H'):=by exact kX):cJ P cfg f (.call ⟨.builtin .append,#[x,y],#[t,u]⟩) E H v H':=dT fun Q j=>jP h h1 h2 j
def Ox.mi{k Z:IntKind}{i:Int}(h:aS E x=some (.int k O):=by exact fd)(h1:aS E y=some (.int Z i):=by exact fd):cJ P cfg f (.call ⟨.builtin .min,#[x,y],I⟩) E H (.int k (min O i)) H:=dT fun Q j=>aJ.min2 h h1 j
def Ox.ma{k Z:IntKind}{i:Int}(h:aS E x=some (.int k O):=by exact fd)(h1:aS E y=some (.int Z i):=by exact fd):cJ P cfg f (.call ⟨.builtin .max,#[x,y],I⟩) E H (.int k (max O i)) H:=dT fun Q j=>aJ.max2 h h1 j
def Rx.o{op:Op}(j:aJ P cfg f l (T.set E d (some v)) H' Q)(h:cJ P cfg f op E H v H':=by first|apply(Ox.mv)|apply(Ox.as)|apply(Ox.pk)|apply(Ox.ld)|apply(Ox.nc)|apply(Ox.bn)|apply(Ox.un)|apply(Ox.cv)|apply(Ox.fa)|apply(Ox.fi)|apply(Ox.ia)|apply(Ox.ix)|apply(Ox.ex)|apply(Ox.al)|apply(Ox.bx)|apply(Ox.bd)|apply(Ox.bs)|apply(Ox.mm)|apply(Ox.ms)|apply(Ox.lu)|apply(Ox.mf)|apply(Ox.sl)|apply(Ox.ln)|apply(Ox.ap)|apply(Ox.mi)|apply(Ox.ma)):aJ P cfg f (⟨some d,op,none⟩::l) E H Q:=cJ.go j h
def Rx.on{op:Op}(j:aJ P cfg f l E H' Q)(h:∃v,cJ P cfg f op E H v H':=by first|apply(Ox.st)|apply(Ox.mu)):aJ P cfg f (⟨none,op,none⟩::l) E H Q:=Of j h
theorem Rx.call{k:FuncId}{cap ar:qt}(j:aM P cfg k ar H fun v H'=>aJ P cfg f l (aU E Z v) H' Q)(Y:c.callee=.value g:=by rfl)(hg:aS E g=some (.bm k cap):=by exact fd)(V:jx E c.args.toList=some vs:=by exact N9)(C:vs++cap=ar:=by simp only[jC];first|done|exact rfl):aJ P cfg f (⟨Z,.call c,none⟩::l) E H Q:=bb Y hg V (C▸j)
def ez:=@Rx.call
def Rx.gu{op:Op}{t:Bool}{v:AV}{R:Prop}(j:R)(h:some (E.at s)=some v:=by exact fd)(V:v=dK:=by with_reducible rfl)(e:aJ P cfg f l (aU E Z dK) H Q=R:=by exact vy):aJ P cfg f (⟨Z,op,some (s,t)⟩::l) E H Q:=aJ.b0 h V (e▸j)
def Rx.gd{op:Op}{t:Bool}{R:Prop}(h1:J->q1->aJ P cfg f (⟨Z,op,none⟩::l) E H Q)(h2:U->q2->R)(h:E.at s=.bool t:=by exact fd)(Y:(t=tb)=J:=by(try simp only[tm,reduceCtorEq]);first|done|exact rfl)(m:(t=!tb)=U:=by(try simp only[tm,reduceCtorEq]);first|done|exact rfl)(M:J=q1:=by(try simp only[tp]);first|done|exact rfl)(V:U=q2:=by(try simp only[tp]);first|done|exact rfl)(e:aJ P cfg f l (aU E Z dK) H Q=R:=by exact vy):aJ P cfg f (⟨Z,op,some (s,tb)⟩::l) E H Q:=aJ.guard h (fun k=>h1 (Y▸k) (M▸Y▸k)) (fun k=>e▸h2 (m▸k) (V▸m▸k))
def cD:=@Rx.gd
def Rx.gv{op:Op}{g:List Rc}{Q:List Rc->ax->Hp->Prop}{R:Prop}(j:R)(h:E.at s=dK:=by exact fd)(e:ea P cfg f l (g++[⟨op,false,E,H,dK,H⟩]) (aU E Z dK) H Q=R:=by exact vy):ea P cfg f (⟨Z,op,some (s,tb)⟩::l) g E H Q:=ea.b0 h (e▸j)
def Rx.cd{Z L:SC}{Q:AX->ax->Hp->Prop}{t:Bool}(h1:J->q1->cb P cfg f N Z E H Q)(h2:U->q2->cb P cfg f N L E H Q)(z:aS E x=some (.bool t):=by exact fd)(Y:(t=true)=J:=by(try simp only[tm,reduceCtorEq]);first|done|exact rfl)(m:(t=false)=U:=by(try simp only[tm,reduceCtorEq]);first|done|exact rfl)(M:J=q1:=by(try simp only[tp]);first|done|exact rfl)(V:U=q2:=by(try simp only[tp]);first|done|exact rfl):cb P cfg f N (.cond x Z L) E H Q:=cb.cond z (fun k=>h1 (Y▸k) (M▸Y▸k)) (fun k=>h2 (m▸k) (V▸m▸k))
def bp:=@Rx.cd
def Oy.mv(h:aS E x=some v:=by exact eT):cJ P cfg f (.move x) E H v H:=dT fun Q j=>aJ.move h j
def Oy.as(h:aS E x=some v:=by exact eT):cJ P cfg f (.assign x) E H v H:=dT fun Q j=>aJ.assign h j
def Oy.pk{t:Bool}(h:aS E x=some (.bool t):=by exact eT)(h1:aS E y=some a:=by exact eT)(h2:aS E z=some b:=by exact eT):cJ P cfg f (.pick x y z) E H (mp t a b) H:=dT fun Q j=>aJ.pick h h1 h2 j
def Oy.ld(h:aS E x=some a:=by exact eT)(h1:gL P H t a=some v:=by exact kY):cJ P cfg f (.load t x) E H v H:=dT fun Q j=>aJ.load h h1 j
def Oy.st(h:aS E x=some a:=by exact eT)(h1:aS E y=some b:=by exact eT)(h2:mr P H t a b=some H':=by exact kY):∃v,cJ P cfg f (.store t x y) E H v H':=Ed fun Q j=>rA h h1 h2 j
def Oy.nc{o:Nat}(h:aS E x=some (.ptr r o):=by exact eT):cJ P cfg f (.nilCheck x) E H (.ptr r o) H:=dT fun Q j=>aJ.nilCheck h j
def Oy.bn{op:BinOp}(h:aS E x=some a:=by exact eT)(h1:aS E y=some b:=by exact eT)(h2:eK P cfg.cl op t a b=some v:=by exact kY):cJ P cfg f (.binOp op t x y u) E H v H:=dT fun Q j=>aJ.ca h h1 h2 j
def Oy.un{op:UnOp}(h:aS E x=some a:=by exact eT)(h2:uY op a=some v:=by exact kY):cJ P cfg f (.unOp op t x) E H v H:=dT fun Q j=>aJ.un h h2 j
def Oy.cv(h:aS E x=some a:=by exact eT)(h2:mM P H t u a=some v:=by exact kY):cJ P cfg f (.convert t u x) E H v H:=dT fun Q j=>aJ.convert h h2 j
def Oy.fa(h:aS E x=some a:=by exact eT)(h2:uV P t a i=some v:=by exact kY):cJ P cfg f (.fieldAddr t x i) E H v H:=dT fun Q j=>Nf h h2 j
def Oy.fi(h:aS E x=some a:=by exact eT)(h2:wK P t a i=some v:=by exact kY):cJ P cfg f (.field t x i) E H v H:=dT fun Q j=>aJ.field h h2 j
def Oy.ia(h:aS E x=some a:=by exact eT)(h1:aS E y=some b:=by exact eT)(h2:ej P t a b=some v:=by exact kY):cJ P cfg f (.indexAddr t x y) E H v H:=dT fun Q j=>Ng h h1 h2 j
def Oy.ix(h:aS E x=some a:=by exact eT)(h1:aS E y=some b:=by exact eT)(h2:sc P t a b=some v:=by exact kY):cJ P cfg f (.index t x y) E H v H:=dT fun Q j=>aJ.index h h1 h2 j
def Oy.ex(h:aS E x=some a:=by exact eT)(h2:Ab.extract a i=some v:=by exact kY):cJ P cfg f (.extract x i) E H v H:=dT fun Q j=>aJ.extract h h2 j
def Oy.al{z:qt}(h:cS P t=some z:=by exact kY)(I:some H.next=some n:=by exact yT):cJ P cfg f (.alloc t) E H (.ptr n 0) (H.alloc (.cells z 0 true)):=dT fun Q j=>aJ.alloc h I j
def Oy.bx(h:aS E x=some a:=by exact eT)(g:some a.cells=some cs:=by exact kY)(I:some H.next=some n:=by exact yT):cJ P cfg f (.box t x) E H (.ptr n 0) (H.alloc (.cells cs 0 true)):=dT fun Q j=>aJ.box h g I j
def Oy.bd{ps:qM}(h:mw E L.toList=some ps:=by exact Ob)(h2:dU P t ps=some v:=by exact kY):cJ P cfg f (.build t L) E H v H:=dT fun Q j=>aJ.build h h2 j
def Oy.bs{ps:qM}(h:mw E L.toList=some ps:=by exact Ob)(h2:et P H t n ps=some (v,H'):=by exact kY):cJ P cfg f (.buildSlice t n L) E H v H':=dT fun Q j=>Nh h h2 j
def Oy.mm(I:some H.next=some n:=by exact yT):cJ P cfg f (.makeMap t none) E H (.map n) (H.alloc (.map [])):=dT fun Q j=>aJ.makeMap I j
def Oy.ms(h:aS E x=some a:=by exact eT)(h1:aS E y=some b:=by exact eT)(h2:j9 P H t a b=some (v,H'):=by exact kY):cJ P cfg f (.makeSlice t x y) E H v H':=dT fun Q j=>Nl h h1 h2 j
def Oy.lu{ok:Bool}(h:aS E x=some a:=by exact eT)(h1:aS E y=some b:=by exact eT)(h2:mL P H t a b ok=some v:=by exact kY):cJ P cfg f (.lookup t x y ok) E H v H:=dT fun Q j=>aJ.lookup h h1 h2 j
def Oy.mu{c:AV}(h:aS E x=some a:=by exact eT)(h1:aS E y=some b:=by exact eT)(h2:aS E z=some c:=by exact eT)(m:re P H t a b c=some H':=by exact kY):∃v,cJ P cfg f (.mapUpdate t x y z) E H v H':=Ed fun Q j=>Nk h h1 h2 m j
def Oy.mf{g:FuncId}{cap:Array Operand}(h:jx E cap.toList=some vs:=by exact Oc):cJ P cfg f (.makeFunc (.func g) #[] cap) E H (.bm g vs) H:=dT fun Q j=>aJ.makeFunc h j
def Oy.sl(h:aS E x=some a:=by exact eT)(h1:lR E lo=some Y:=by exact Od)(h2:lR E C=some V:=by exact Od)(m:ph P H t a Y V=some v:=by exact kY):cJ P cfg f (.slice t x lo C none) E H v H:=dT fun Q j=>aJ.slice h h1 h2 m j
def Oy.ln{c:AV}(h:aS E x=some a:=by exact eT)(h1:ij P H t a=some c:=by exact kY):cJ P cfg f (.call ⟨.builtin .len,#[x],#[t]⟩) E H c H:=dT fun Q j=>aJ.len h h1 j
def Oy.ap(h:aS E x=some a:=by exact eT)(h1:aS E y=some b:=by exact eT)(h2:cX P (cfg.keep f) H t u a b=some (v,H'):=by exact kY):cJ P cfg f (.call ⟨.builtin .append,#[x,y],#[t,u]⟩) E H v H':=dT fun Q j=>jP h h1 h2 j
def Oy.mi{k Z:IntKind}{i:Int}(h:aS E x=some (.int k O):=by exact eT)(h1:aS E y=some (.int Z i):=by exact eT):cJ P cfg f (.call ⟨.builtin .min,#[x,y],I⟩) E H (.int k (min O i)) H:=dT fun Q j=>aJ.min2 h h1 j
def Oy.ma{k Z:IntKind}{i:Int}(h:aS E x=some (.int k O):=by exact eT)(h1:aS E y=some (.int Z i):=by exact eT):cJ P cfg f (.call ⟨.builtin .max,#[x,y],I⟩) E H (.int k (max O i)) H:=dT fun Q j=>aJ.max2 h h1 j
def Ry.o{op:Op}(j:aJ P cfg f l (T.set E d (some v)) H' Q)(h:cJ P cfg f op E H v H':=by first|apply(Oy.mv)|apply(Oy.as)|apply(Oy.pk)|apply(Oy.ld)|apply(Oy.nc)|apply(Oy.bn)|apply(Oy.un)|apply(Oy.cv)|apply(Oy.fa)|apply(Oy.fi)|apply(Oy.ia)|apply(Oy.ix)|apply(Oy.ex)|apply(Oy.al)|apply(Oy.bx)|apply(Oy.bd)|apply(Oy.bs)|apply(Oy.mm)|apply(Oy.ms)|apply(Oy.lu)|apply(Oy.mf)|apply(Oy.sl)|apply(Oy.ln)|apply(Oy.ap)|apply(Oy.mi)|apply(Oy.ma)):aJ P cfg f (⟨some d,op,none⟩::l) E H Q:=cJ.go j h
def Ry.on{op:Op}(j:aJ P cfg f l E H' Q)(h:∃v,cJ P cfg f op E H v H':=by first|apply(Oy.st)|apply(Oy.mu)):aJ P cfg f (⟨none,op,none⟩::l) E H Q:=Of j h
theorem Ry.call{k:FuncId}{cap ar:qt}(j:aM P cfg k ar H fun v H'=>aJ P cfg f l (aU E Z v) H' Q)(Y:c.callee=.value g:=by rfl)(hg:aS E g=some (.bm k cap):=by exact eT)(V:jx E c.args.toList=some vs:=by exact Oc)(C:vs++cap=ar:=by simp only[jC];first|done|exact rfl):aJ P cfg f (⟨Z,.call c,none⟩::l) E H Q:=bb Y hg V (C▸j)
def ch:=@Ry.call
def Ry.gu{op:Op}{t:Bool}{v:AV}{R:Prop}(j:R)(h:some (E.at s)=some v:=by exact eT)(V:v=dK:=by with_reducible rfl)(e:aJ P cfg f l (aU E Z dK) H Q=R:=by exact vy):aJ P cfg f (⟨Z,op,some (s,t)⟩::l) E H Q:=aJ.b0 h V (e▸j)
def Ry.gd{op:Op}{t:Bool}{R:Prop}(h1:J->q1->aJ P cfg f (⟨Z,op,none⟩::l) E H Q)(h2:U->q2->R)(h:E.at s=.bool t:=by exact eT)(Y:(t=tb)=J:=by(try simp only[tm,reduceCtorEq]);first|done|exact rfl)(m:(t=!tb)=U:=by(try simp only[tm,reduceCtorEq]);first|done|exact rfl)(M:J=q1:=by(try simp only[tp]);first|done|exact rfl)(V:U=q2:=by(try simp only[tp]);first|done|exact rfl)(e:aJ P cfg f l (aU E Z dK) H Q=R:=by exact vy):aJ P cfg f (⟨Z,op,some (s,tb)⟩::l) E H Q:=aJ.guard h (fun k=>h1 (Y▸k) (M▸Y▸k)) (fun k=>e▸h2 (m▸k) (V▸m▸k))
def bT:=@Ry.gd
def rD{op:Op}{t:Bool}{g:List Rc}{Q:List Rc->ax->Hp->Prop}{R:Prop}(h1:J->q1->ea P cfg f (⟨Z,op,none⟩::l) g E H Q)(h2:U->q2->R)(h:E.at s=.bool t:=by exact eT)(Y:(t=tb)=J:=by(try simp only[tm,reduceCtorEq]);first|done|exact rfl)(m:(t=!tb)=U:=by(try simp only[tm,reduceCtorEq]);first|done|exact rfl)(M:J=q1:=by(try simp only[tp]);first|done|exact rfl)(V:U=q2:=by(try simp only[tp]);first|done|exact rfl)(e:ea P cfg f l (g++[⟨op,false,E,H,dK,H⟩]) (aU E Z dK) H Q=R:=by exact vy):ea P cfg f (⟨Z,op,some (s,tb)⟩::l) g E H Q:=ea.guard h (fun k=>h1 (Y▸k) (M▸Y▸k)) (fun k=>e▸h2 (m▸k) (V▸m▸k))
def Ry.gv{op:Op}{g:List Rc}{Q:List Rc->ax->Hp->Prop}{R:Prop}(j:R)(h:E.at s=dK:=by exact eT)(e:ea P cfg f l (g++[⟨op,false,E,H,dK,H⟩]) (aU E Z dK) H Q=R:=by exact vy):ea P cfg f (⟨Z,op,some (s,tb)⟩::l) g E H Q:=ea.b0 h (e▸j)
def Ry.cd{Z L:SC}{Q:AX->ax->Hp->Prop}{t:Bool}(h1:J->q1->cb P cfg f N Z E H Q)(h2:U->q2->cb P cfg f N L E H Q)(z:aS E x=some (.bool t):=by exact eT)(Y:(t=true)=J:=by(try simp only[tm,reduceCtorEq]);first|done|exact rfl)(m:(t=false)=U:=by(try simp only[tm,reduceCtorEq]);first|done|exact rfl)(M:J=q1:=by(try simp only[tp]);first|done|exact rfl)(V:U=q2:=by(try simp only[tp]);first|done|exact rfl):cb P cfg f N (.cond x Z L) E H Q:=cb.cond z (fun k=>h1 (Y▸k) (M▸Y▸k)) (fun k=>h2 (m▸k) (V▸m▸k))
def aV:=@Ry.cd
def eE(h:p:=by exact Jb):p:=h
def Ba(h:p:=by first|(simp only[aG,aR,tyF,Nat.reduceBEq,Nat.reduceAdd,Nat.reduceLeDiff, *];done)|rfl):p:=h
def cV(h:p:=by((try simp only[aG,Nat.reduceBEq, *]);first|done|with_reducible rfl)):p:=h
def xp(h:p:=by((try simp only[aG,aR,tyF,Nat.reduceBEq,Nat.reduceAdd,Nat.reduceLeDiff, *]);first|done|with_reducible rfl)):p:=h
def aF(h:p:=by((try simp only[aG,Nat.reduceBEq,cL,cY, *]);first|done|with_reducible rfl)):p:=h
def fN(h:p:=by((try simp only[aG,aR,tyF,Nat.reduceBEq,Nat.reduceAdd,Nat.reduceLeDiff,cL,cY, *]);first|done|with_reducible rfl)):p:=h
def bi(h:p:=by((try simp only[aG,Nat.reduceBEq, *,-hK]);first|done|with_reducible rfl)):p:=h
def bj(h:p:=by((try simp only[aG,Nat.reduceBEq,jx,Ec, *,-hK]);first|done|with_reducible rfl)):p:=h
def qe{P:Program}{cfg:Cfg}{f:FuncId}{E:ax}{H:Hp}{Q:ax->Hp->Prop}{d:qI}{k:FuncId}{cap ws:qt}{l:List SOp}(h:aM P cfg k ws H fun v H'=>aJ P cfg f l (aU E d v) H' Q)(i:c.callee=.value g:=by exact rfl)(j:aS E g=some (.bm k cap):=by exact bi)(m:jx E c.args.toList=some vs:=by exact bj)(e:vs++cap=ws:=by(try simp only[jC]);first|done|exact rfl):aJ P cfg f (⟨d,.call c,none⟩::l) E H Q:=bb i j m (e▸h)
def qd{P:Program}{cfg:Cfg}{f:FuncId}{E:ax}{H:Hp}{Q:ax->Hp->Prop}{d:qI}{k:FuncId}{cap ws:qt}{l:List SOp}(h:aM P cfg k ws H fun v H'=>aJ P cfg f l (aU E d v) H' Q)(i:c.callee=.value g:=by exact rfl)(j:aS E g=some (.bm k cap):=by exact bi)(m:jx E c.args.toList=some vs:=by exact bj)(e:vs++cap=ws:=by(try simp only[bm]);first|done|exact rfl):aJ P cfg f (⟨d,.call c,none⟩::l) E H Q:=bb i j m (e▸h)
def aq(h:p:=by first|exact .inl rfl|exact .inr rfl|exact .inl trivial|exact .inr trivial):p:=h
def qc{a:Option qt}{v:qt}{R:qt->Prop}{T:Prop}(h:T)(i:A:=by exact aq)(j:a=some v:=by exact fN)(k:R v=T:=by(try simp only[am]);first|done|exact rfl):A/\∃vs,a=some vs/\R vs:=⟨i,v,j,k▸h⟩
def qq{a:Option qt}{v:qt}{R:qt->Prop}{T:Prop}(h:T)(i:A:=by exact aq)(j:a=some v:=by exact aF)(k:R v=T:=by(try simp only[am]);first|done|exact rfl):A/\∃vs,a=some vs/\R vs:=⟨i,v,j,k▸h⟩
def aK(h:p:=by simp only[bq,aT,aN,aG,aR,tyF,Nat.reduceBEq,Nat.reduceAdd,Nat.reduceLeDiff, *]):p:=h
def bG(h:p:=by(try simp only[aZ,br,bX,bK,Nat.reduceAdd]);omega):p:=h
def Je{Q:AX->ax->Hp->Prop}{R:Prop}(h:R)(e:Q .normal E H=R:=by exact Ea):cb P cfg f N .skip E H Q:=cb.skip (e▸h)
def Rx.rt{Q:AX->ax->Hp->Prop}{R:Prop}(h:R)(e:Q .ret E H=R:=by exact Ea):cb P cfg f N .ret E H Q:=cb.ret (e▸h)
def Rx.xt{id:Nat}{Q:AX->ax->Hp->Prop}{R:Prop}(h:R)(e:Q (.exit id) E H=R:=by first|(simp only[mX,ul,reduceIte];first|done|exact rfl)|(dsimp only[];first|done|exact rfl)|exact rfl):cb P cfg f N (.exit id) E H Q:=cb.exit (e▸h)
def bN(h:p:=by(refine⟨?_,?_⟩<;>simp only[nN,vz,lU,xm,nV,Jd,DN,aZ,br,aH,jy,aN]<;>(repeat' apply ad)<;>first
 |(intro r hr;cases hr;done)
 |(refine Zf (by simp only[nN,vz,lU,xm,nV,Jd];rfl) (fun hd=>?_)
   simp only[A1,nN,vz,lU,xm,nV,Jd]at hd⊢;first
   |(cases hd;done)
   |exact Y9 cV xp
   |exact Za cV cV xp
   |exact Zb cV xp
   |exact Zc cV xp
   |exact Zd cV (by simp only[lR];first|rfl|simp only[aG,Nat.reduceBEq, *]) (by simp only[lR];first|rfl|simp only[aG,Nat.reduceBEq, *]) xp
   |exact Ze rfl xp xp)
 |exact aH _
 |assumption
 |omega)):p:=h
variable {N:Nat} {ops:qA} {Q2:AX -> ax -> Hp -> Prop}
def da(id:Nat)(need:qP)(h:∀K:List Rc->ax->Hp->Prop,(∀g E' H',uo P cfg need g H'->Q2 .normal E' H'->K g E' H')->ea P cfg f l [] E H K)(I:cfg.bU f id=.text:=by exact Jc)(i:sW ops=true:=by kernel_rfl)(M:bt N ops ops=some l:=by simp only[bt,bA,bB,Nat.blt,Nat.ble];rfl)(Z:rj ops=need:=by kernel_rfl):cb P cfg f N (.bT id ops) E H Q2:=Y8 I i M Z h
def Rx.dP(id:Nat)(ord:qD)(need:qP)(h:∀K:List Rc->ax->Hp->Prop,(∀g E' H',uo P cfg need g H'->Q2 .normal E' H'->K g E' H')->ea P cfg f l [] E H K)(I:cfg.bU f id=.bA ord:=by exact Jc)(hb:Al ord ops=true:=by kernel_rfl)(i:sW (jr ord ops)=true:=by kernel_rfl)(M:bt N (jr ord ops) (jr ord ops)=some l:=by exact Oe)(Z:rj (jr ord ops)=need:=by kernel_rfl):cb P cfg f N (.bT id ops) E H Q2:=Nx I hb i M Z h
def Bb(id:Nat)(h:∀K:ax->Hp->Prop,(∀E' H',Q2 .normal E' H'->K E' H')->aJ P cfg f l E H K)(I:cfg.bU f id=.text:=by exact Jc)(i:DX ops=true:=by kernel_rfl)(M:bt N ops ops=some l:=by simp only[bt,bA,bB,Nat.blt,Nat.ble];rfl):cb P cfg f N (.bT id ops) E H Q2:=cb.bT I i M h
end
end Go.Proofs.YtbflaciihaijgaaGreat
namespace Go.Ab
set_option maxRecDepth 20000
open Go
variable{O:qt}{P:Program}{cfg:Cfg}{g:FuncId}{I:Type}{r i L:Nat}{H a b c:Hp}{x y:Ex}{s:qx}
def fY(v:AV):Prop:=∃k,∀m,k<=m->∀H,iceV H m v=some v
def ip(l:qt):Prop:=∀v∈l,fY v
def ip.nil:ip []:=fun _ h=>mS
def ip.cons{v:AV}{l:qt}(h:fY v)(J:ip l):ip (v::l):=fun w L=>by
 rcases gE.1 L with rfl|L
 .exact h
 .exact J _ L
theorem ip.cm:∀{l:qt},ip l->∃k,∀m,k<=m->∀H,iceL (iceV H m) l=some l
 |[],_=>⟨0,fun _ _ _=>rfl⟩
 |v::l,h=>by
  obtain⟨i,Z⟩:=h v ei;obtain⟨J,g⟩:=ip.cm (l:=l) fun w L=>h w (ev _ L)
  exact⟨max i J,fun m O H=>by simp only[iceL,Z m ac H,g m ac H]⟩
theorem Og:∀{l:List qt},(∀L∈l,ip L)->∃k,∀m,k<=m->∀H,vb (iceV H m) l=some l
 |[],_=>⟨0,fun _ _ _=>rfl⟩
 |v::l,h=>by
  obtain⟨i,Y⟩:=(h v ei).cm;obtain⟨J,g⟩:=Og (l:=l) fun w Z=>h w (ev _ Z)
  exact⟨max i J,fun m O H=>by simp only[vb,Y m ac H,g m ac H]⟩
def fY.one{v:AV}(h:∀m H,iceV H (m+1) v=some v):fY v:=⟨1,fun m O H=>by
 obtain⟨m,rfl⟩:∃k,m=k+1:=⟨m-1,ac⟩;exact h m H⟩
theorem fY.int(k:IntKind)(n:Int):fY (.int k n):=.one fun _ _=>rfl
theorem fY.bool(b:Bool):fY (.bool b):=.one fun _ _=>rfl
theorem fY.aq(s:qx):fY (.aq s):=.one fun _ _=>rfl
theorem fY.ak:fY .ak:=.one fun _ _=>rfl
def fY.aE{l:List qt}(h:∀L∈l,ip L):fY (.aE l):=by
 obtain⟨k,j⟩:=Og h;refine⟨k+1,fun m O H=>?_⟩;obtain⟨m,rfl⟩:∃k,m=k+1:=⟨m-1,ac⟩;simp only[iceV,j m ac H]
def fY.agg{l:qt}(h:ip l):fY (.agg l):=by
 obtain⟨k,j⟩:=h.cm;refine⟨k+1,fun m O H=>?_⟩;obtain⟨m,rfl⟩:∃k,m=k+1:=⟨m-1,ac⟩;simp only[iceV,j m ac H]
def fY.aX{l:qt}(h:ip l):fY (.aX l):=by
 obtain⟨k,j⟩:=h.cm;refine⟨k+1,fun m O H=>?_⟩;obtain⟨m,rfl⟩:∃k,m=k+1:=⟨m-1,ac⟩;simp only[iceV,j m ac H]
def fY.map{I:Type}{l:List I}{f:I->qt}(h:∀x∈l,ip (f x)):fY (.aE (l.map f)):=.aE fun L hr=>by
 obtain⟨x,z,rfl⟩:=mT.1 hr;exact h x z
def Oh(h:ip O):∃k,vc k O=true:=by
 obtain⟨k,j⟩:=h.cm;exact⟨k,by unfold vc;rw[j k (aH _) bM];exact um O⟩
def Oi(fit:Fit P){ρ:Nat->Int}(Z:ru cfg.cl ρ)(Y:∀f O r,cfg.call f O=some r->bF P ρ f O r){O:qt}{r:AV}
 (i:ip O) (hr:fY r) (h:aM P cfg g O bM fun v _=>v=r):bF P ρ g O r:=by
 obtain⟨k,j⟩:=Oh i;obtain⟨m,V⟩:=hr;exact Nc (m:=m) fit Z Y j (aY (fun v H' e=>by rw[e];exact V m (aH _) H') h)
def ur(fit:Fit P){ρ:Nat->Int}(Z:ru cfg.cl ρ)(Y:∀f O r,cfg.call f O=some r->bF P ρ f O r){O:qt}{r:AV}{m:Nat}
 (i:ip O) (h:aM P cfg g O bM fun v H'=>iceV H' m v=some r):bF P ρ g O r:=by
 obtain⟨k,j⟩:=Oh i;exact Nc (m:=m) fit Z Y j h
structure En where
 f:FuncId
 aG:Bool
 sp:qt->qC
variable{f:FuncId}
abbrev qB:=List En
variable{l:qB}
def cM:qB->FuncId->qt->qC
 |[],_,_=>none
 |e::l,f,args=>match Nat.beq e.f f with
  |true=>e.sp args
  |false=>cM l f args
def jt:qB->FuncId->Bool
 |[],_=>false
 |e::l,f=>match Nat.beq e.f f with
  |true=>e.aG
  |false=>jt l f
noncomputable def ay(pls:List (Nat×Nat×zf0))(l:qB):Cfg:={keep:=fun _=>false,call:=cM l,aG:=jt l,bU:=AS pls}
def co(P:Program)(ρ:Nat->Int)(e:En):Prop:=∀O r,e.sp O=some r->bF P ρ e.f O r
def eU(P:Program)(ρ:Nat->Int):qB->Prop
 |[]=>True
 |e::l=>co P ρ e/\eU P ρ l
theorem eU.bR{P:Program}{ρ:Nat->Int}:∀{l:qB},eU P ρ l->∀f O r,cM l f O=some r->bF P ρ f O r
 |[],_,_,_,_,h=>by simp[cM]at h
 |e::l,hl,f,O,r,h=>by
  simp only[cM]at h;split at h
  .rename_i C;rw[<-kh C];exact hl.1 O r h
  .exact eU.bR hl.2 f O r h
noncomputable def bQ(ok:I->Prop)(enc:I->qt)(out:I->AV)(O:qt):qC:=open Classical in
 if h:∃x,ok x/\enc x=O then some (out (Classical.choose h))else none
def Ee{I:Type}{ok:I->Prop}{enc:I->qt}{out:I->AV}(O:∀x y,enc x=enc y->x=y){x:I}(z:ok x):bQ ok enc out (enc x)=some (out x):=by
 unfold bQ;have h:∃y,ok y/\enc y=enc x:=⟨x,z,rfl⟩;rw[dif_pos h];rw[O _ _ (Eb h).2]
def Jf{I:Type}{ok:I->Prop}{enc:I->qt}{out:I->AV}(h:∀x,ok x->enc x≠O):bQ ok enc out O=none:=by
 unfold bQ;rw[dif_neg];rintro⟨x,z,e⟩;exact h x z e
def cz{ρ:Nat->Int}{I:Type}{ok:I->Prop}{ice:Bool}{enc:I->qt}{out:I->AV}(h:∀x,ok x->bF P ρ f (enc x) (out x)):co P ρ ⟨f,ice,bQ ok enc out⟩:=fun O r hr=>by
 change bQ ok enc out O=some r at hr;unfold bQ at hr;split at hr
 .rename_i z;simp only[aI]at hr;subst hr;have:=h (Classical.choose z) (Eb z).1;rw[(Eb z).2]at this;exact this
 .simp at hr
attribute [irreducible] bQ
def Jg{r:AV}(h:cfg.call g O=some r):aM P cfg g O H fun v H'=>v=r/\H'=H:=Yc h ⟨rfl,rfl⟩
def bZ{pls:List (Nat×Nat×zf0)}{I:Type}{ok:I->Prop}{enc:I->qt}{out:I->AV}(O:∀x y,enc x=enc y->x=y){x:I}(J:cM l g (enc x)=bQ ok enc out (enc x))(z:ok x):
 aM P (ay pls l) g (enc x) H fun v H'=>v=out x/\H'=H:=Jg (by show cM l g (enc x)=_;rw[J];exact Ee O z)
def Ef{pls:List (Nat×Nat×zf0)}{I:Type}{ok:I->Prop}{enc:I->qt}{out:I->AV}(Y:∀x y,enc x=enc y->x=y){x:I}(J:∀Z,cM l g Z=bQ ok enc out Z)(C:jt l g=true)(z:ok x){H':Hp}
 (V:∀y,ok y->enc y≠O) (U:iA (fF 100) O H=some (enc x,H')) :
 aM P (ay pls l) g O H fun v i=>v=out x/\i=H':=Nb (by show cM l g O=none;rw[J];exact Jf V) C rfl U (by show cM l g (enc x)=_;rw[J];exact Ee Y z) ⟨rfl,rfl⟩
def xq{ρ:Nat->Int}(fit:Fit P){pls:List (Nat×Nat×zf0)}(J:eU P ρ l)(sz:I->Nat){ok:I->Prop}{enc:I->qt}{out:I->AV}
 (i:∀x,ok x->ip (enc x)) (hr:∀x,ok x->fY (out x))
 (h:∀x,ok x->aM P (ay pls (⟨f,false,bQ (fun y=>ok y/\sz y<sz x) enc out⟩::l)) f (enc x) bM fun v _=>v=out x):∀x,ok x->bF P ρ f (enc x) (out x):=by
 have Y:∀n x,sz x<n->ok x->bF P ρ f (enc x) (out x):=by
  intro n;induction n with
  |zero=>intro x z;omega
  |succ n ih=>
   intro x z Z;exact Oi (cfg:=ay pls (⟨f,false,bQ (fun y=>ok y/\sz y<sz x) enc out⟩::l)) fit (nU ρ) (fun g O r hg=>eU.bR (l:=⟨f,false,bQ (fun y=>ok y/\sz y<sz x) enc out⟩::l) ⟨cz fun y V=>ih y ac V.1,J⟩ g O r hg) (i x Z) (hr x Z) (h x Z)
 exact fun x=>Y (sz x+1) x (cC _)
def dE{ρ:Nat->Int}(fit:Fit P){pls:List (Nat×Nat×zf0)}(J:eU P ρ l){r:AV}(i:ip O)(hr:fY r)(h:aM P (ay pls l) f O bM fun v _=>v=r):bF P ρ f O r:=
 Oi fit (nU ρ) (fun g Z r hg=>eU.bR J g Z r hg) i hr h
abbrev bS(n:Int):Int:=IntKind.wrap .i64 n
section
variable (q:Ex -> Int -> Bool)
mutual
def nW:Ex->Int->Bool
 | .mk k n s o z,d=>q (.mk k n s o z) d&&jQ z (bS (d+1))
def jQ:qH->Int->Bool
 |[],_=>true
 |e::es,d=>nW e d&&jQ es d
end
def Jh(e:Ex)(d:Int):nW q e d=(q e d&&jQ q e.aj (bS (d+1))):=by
 cases e;simp only[nW,Ex.aj]
def Eg{l:qH}(h:i<l.length)(d:Int):jQ q (l.drop i) d=(nW q l[i] d&&jQ q (l.drop (i+1)) d):=by
 rw[ft h,jQ]
end
section
variable {σ:Type} (q:St -> Int -> σ -> Bool × σ)
mutual
def lZ:St->Int->σ->Bool×σ
 | .mk k J Z n a v O j m,d,s=>match q (.mk k J Z n a v O j m) d s with
   |(false,s)=>(false,s)
   |(true,s)=>match fC j (bS (d+1)) s with
    |(false,s)=>(false,s)
    |(true,s)=>fC m (bS (d+1)) s
def fC:qE->Int->σ->Bool×σ
 |[],_,s=>(true,s)
 |x::l,d,s=>match lZ x d s with
  |(false,s)=>(false,s)
  |(true,s)=>fC l d s
end
def zck(x:St)(d:Int)(s:σ):lZ q x d s=match q x d s with
 |(false,s)=>(false,s)
 |(true,s)=>match fC q x.a9 (bS (d+1)) s with
  |(false,s)=>(false,s)
  |(true,s)=>fC q x.bl (bS (d+1)) s:=by
 cases x;simp only[lZ,St.a9,St.bl]
def zcl{l:qE}(h:i<l.length)(d:Int)(s:σ):fC q (l.drop i) d s=match lZ q l[i] d s with
 |(false,s)=>(false,s)
 |(true,s)=>fC q (l.drop (i+1)) d s:=by
 rw[ft h,fC]
end
mutual
def Ex.sz:Ex->Nat
 | .mk _ _ s _ z=>1+s.length+fu z
def fu:qH->Nat
 |[]=>0
 |e::es=>1+e.sz+fu es
end
mutual
def St.sz:St->Nat
 | .mk _ J Z _ a v O j m=>1+J.length+Z.length+a.sz+v.sz+fu O+bH j+bH m
def bH:qE->Nat
 |[]=>0
 |x::l=>1+x.sz+bH l
end
def dB:qw->Nat
 |[]=>0
 |s::l=>1+s.length+dB l
def Fu.sz(f:Fu):Nat:=1+f.name.length+dB f.params+dB f.ao+bH f.body+f.value.sz
def fg:qQ->Nat
 |[]=>0
 |f::l=>1+f.sz+fg l
def eV:qR->Nat
 |[]=>0
 |a::l=>1+a.name.length+eV l
def Pr.sz(p:Pr):Nat:=1+eV p.aa+fg p.funcs
theorem rE:∀l:qH,l.length<=fu l
 |[]=>aH _
 |e::es=>by have:=rE es;simp only[eF,fu];omega
theorem vA:∀l:qE,l.length<=bH l
 |[]=>aH _
 |e::es=>by have:=vA es;simp only[eF,bH];omega
theorem jR:∀l:qw,l.length<=dB l
 |[]=>aH _
 |e::es=>by have:=jR es;simp only[eF,dB];omega
theorem nX:∀l:qQ,l.length<=fg l
 |[]=>aH _
 |e::es=>by have:=nX es;simp only[eF,fg];omega
theorem mC:∀l:qR,l.length<=eV l
 |[]=>aH _
 |e::es=>by have:=mC es;simp only[eF,eV];omega
theorem py:∀{l:qH}{x:Ex},x∈l->x.sz<fu l
 |[],_,h=>by simp at h
 |e::es,x,h=>by
  rcases gE.1 h with rfl|h
  .simp only[fu];omega
  .have:=py h;simp only[fu];omega
theorem rF:∀{l:qE}{x:St},x∈l->x.sz<bH l
 |[],_,h=>by simp at h
 |e::es,x,h=>by
  rcases gE.1 h with rfl|h
  .simp only[bH];omega
  .have:=rF h;simp only[bH];omega
theorem Eh:∀{l:qw}{x:qx},x∈l->x.length<dB l
 |[],_,h=>by simp at h
 |e::es,x,h=>by
  rcases gE.1 h with rfl|h
  .simp only[dB];omega
  .have:=Eh h;simp only[dB];omega
theorem nY:∀{l:qQ}{x:Fu},x∈l->x.sz<fg l
 |[],_,h=>by simp at h
 |e::es,x,h=>by
  rcases gE.1 h with rfl|h
  .simp only[fg];omega
  .have:=nY h;simp only[fg];omega
def Ex.aT(e:Ex):e.sz=1+e.name.length+fu e.aj:=by cases e;simp only[Ex.sz,Ex.name,Ex.aj]
def St.aT(x:St):x.sz=1+x.name.length+x.to.length+x.a6.sz+x.value.sz+fu x.args+bH x.a9+bH x.bl:=by cases x;simp only[St.sz,St.name,St.to,St.a6,St.value,St.args,St.a9,St.bl]
structure FrB (base:Nat) (H H':Hp):Prop where
 next:H.next<=H'.next
 get:∀r,base<=r->r<H.next->H'.get r=H.get r
def FrB.refl(base:Nat)(H:Hp):FrB base H H:=⟨aH _,fun _ _ _=>rfl⟩
def jS:=@FrB.refl
def FrB.trans{base:Nat}(h:FrB base a b)(k:FrB base b c):FrB base a c:=⟨dz h.next k.next,fun r i g=>(k.get r i (oD g h.next)).trans (h.get r i g)⟩
def FrB.alloc{base:Nat}(h:FrB base a b)(x:HB):FrB base a (b.alloc x):=⟨dz h.next (dA _),fun r i g=>by
 have:=h.next
 rw[aD,af ac];exact h.get r i g⟩
def FrB.set{base:Nat}(h:FrB base a b)(hr:a.next<=r\/r<base)(x:HB):FrB base a (b.set r x):=⟨h.next,fun k i g=>by
 rw[aA,af ac];exact h.get k i g⟩
def ju(base:Nat)(H H':Hp):Prop:=∀r,r<base->H'.get r=H.get r
theorem ju.refl(base:Nat)(H:Hp):ju base H H:=fun _ _=>rfl
def sq:=@ju.refl
def ju.trans{base:Nat}(h:ju base a b)(k:ju base b c):ju base a c:=fun r hr=>(k r hr).trans (h r hr)
def ju.alloc{base:Nat}(h:ju base a b)(hb:base<=b.next)(x:HB):ju base a (b.alloc x):=fun r hr=>by rw[aD,af ac];exact h r hr
def ju.set{base:Nat}(h:ju base a b)(hr:base<=r)(x:HB):ju base a (b.set r x):=fun k j=>by rw[aA,af ac];exact h k j
def FrB.cD{base:Nat}(h:base<=L)(k:FrB base a b):FrB L a b:=⟨k.next,fun r i g=>k.get r (dz h i) g⟩
def ju.cD{base:Nat}(h:base<=L)(k:ju L a b):ju base a b:=fun r hr=>k r (oD hr h)
def pz(x:St)(d:Int)(s:Int×Int):Bool×(Int×Int):=
 let n:=bS (s.1+1)
 let l:=if x.aw=4 then bS (s.2+1)else s.2
 (decide (d<=20)&&decide (n<=200)&&decide (l<=16),(n,l))
def ut(_:Ex)(d:Int):Bool:=decide (d<=20)
def rG(q:Ex->Int->Bool)(x:St)(_:Int)(s:Unit):Bool×Unit:=(nW q x.a6 0&&nW q x.value 0&&jQ q x.args 0,s)
def rH(q:Ex->Int->Bool)(f:Fu):Bool:=nW q f.value 0&&(fC (rG q) f.body 0 ()).1
def kZ(f:Fu):Bool:=decide ((f.params.length:Int)<=6)&&decide ((f.ao.length:Int)<=8)&&(fC pz f.body 0 (0,0)).1&&rH ut f
def mD(p:Pr):Bool:=!decide (4<(p.aa.length:Int)) && !decide (8<(p.funcs.length:Int))&&p.aa.all (fun a=>!decide (a.len<1) && !decide (16<a.len))&&p.funcs.all kZ
def Ex.pure(x:Ex):ip x.cells:=by
 have Y:∀n (x:Ex),x.sz<n->ip x.cells:=by
  intro n;induction n with
  |zero=>intro x h;omega
  |succ n ih=>
   intro x h;rw[so];refine .cons (.int _ _) (.cons (.int _ _) (.cons (.aq _) (.cons (.int _ _) (.cons (.map fun y Z=>ih y ?_) .nil))));have:=py Z;have:=x.aT;omega
 exact Y _ x (cC _)
def Ei(l:qH):fY (.aE (l.map Ex.cells)):=.map fun x _=>x.pure
def St.pure(x:St):ip x.cells:=by
 have Z:∀n (x:St),x.sz<n->ip x.cells:=by
  intro n;induction n with
  |zero=>intro x h;omega
  |succ n ih=>
   intro x h;rw[xh];have:=x.aT;refine .cons (.int _ _) (.cons (.aq _) (.cons (.aq _) (.cons (.int _ _) (.cons (.int _ _) (.cons (.int _ _) (.cons (.aq _) (.cons (.int _ _) (.cons (Ei _) (.cons (.int _ _) (.cons (.int _ _) (.cons (.aq _) (.cons (.int _ _) (.cons (Ei _) (.cons (Ei _) (.cons (.map fun y Y=>ih y ?_) (.cons (.map fun y Y=>ih y ?_) .nil))))))))))))))))
   .have:=rF Y;omega
   .have:=rF Y;omega
 exact Z _ x (cC _)
def Bc(l:qE):fY (.aE (l.map St.cells)):=.map fun x _=>x.pure
def vB(l:qw):fY (cZ l):=.map fun x _=>.cons (.aq _) .nil
def Fu.pure(x:Fu):ip x.cells:=by
 rw[A3];exact .cons (.aq _) (.cons (vB _) (.cons (vB _) (.cons (Bc _) (.cons (.int _ _) (.cons (.int _ _) (.cons (.aq _) (.cons (.int _ _) (.cons (Ei _) .nil))))))))
def Ar.pure(x:Ar):ip x.cells:=.cons (.aq _) (.cons (.int _ _) .nil)
def Pr.pure(x:Pr):ip x.cells:=.cons (.map fun x _=>x.pure) (.cons (.map fun x _=>x.pure) .nil)
theorem nZ{I β:Type}{f:I->β}:∀{a b:List I},(∀x∈a,∀y,f x=f y->x=y)->a.map f=b.map f->a=b
 |[],[],_,_=>rfl
 |[],_::_,_,h=>by simp at h
 |_::_,[],_,h=>by simp at h
 |x::a,y::b,hf,h=>by
  simp only[dZ,dN]at h;rw[hf x ei y h.1,nZ (fun z Z=>hf z (ev _ Z)) h.2]
def Ex.ext'(U:x.aw=y.aw)(h1:x.n=y.n)(h2:x.name=y.name)(m:x.op=y.op)(Z:x.aj=y.aj):x=y:=by
 cases x;cases y;simp only[Ex.aw,Ex.n,Ex.name,Ex.op,Ex.aj]at *;simp[*]
def Ex.inj(h:x.cells=y.cells):x=y:=by
 have Y:∀n (x:Ex),x.sz<n->∀y,x.cells=y.cells->x=y:=by
  intro n;induction n with
  |zero=>intro x h;omega
  |succ n ih=>
   intro x h y e;rw[so,so]at e;simp only[dN,AV.int.injEq,AV.aq.injEq,AV.aE.injEq,jy,aN]at e;obtain⟨Z,V,m,M,J⟩:=e;refine Ex.ext' Z V m M (nZ (fun z I=>ih z ?_) J);have:=py I;have:=x.aT;omega
 exact Y _ x (cC _) y h
def Ej{a b:qH}(h:a.map Ex.cells=b.map Ex.cells):a=b:=nZ (fun _ _ _=>Ex.inj) h
def St.ext'{x y:St}(U:x.aw=y.aw)(h1:x.name=y.name)(h2:x.to=y.to)(m:x.n=y.n)(Z:x.a6=y.a6)(M:x.value=y.value)(Y:x.args=y.args)(i:x.a9=y.a9)(O:x.bl=y.bl):x=y:=by
 cases x;cases y;simp only[St.aw,St.name,St.to,St.n,St.a6,St.value,St.args,St.a9,St.bl]at *;simp[*]
def St.inj{x y:St}(h:x.cells=y.cells):x=y:=by
 have Y:∀n (x:St),x.sz<n->∀y,x.cells=y.cells->x=y:=by
  intro n;induction n with
  |zero=>intro x h;omega
  |succ n ih=>
   intro x h y e;have hs:=x.aT;rw[xh,xh]at e;simp only[dN,AV.int.injEq,AV.aq.injEq,AV.aE.injEq,jy,aN]at e;obtain⟨Z,V,m,M,jI,U,O,j,J,L,C,i,g,b4,e6,e7,e8⟩:=e;refine St.ext' Z V m M (Ex.ext' jI U O j (Ej J)) (Ex.ext' L C i g (Ej b4)) (Ej e6) (nZ (fun z I=>ih z ?_) e7) (nZ (fun z I=>ih z ?_) e8)
   .have:=rF I;omega
   .have:=rF I;omega
 exact Y _ x (cC _) y h
def Ek{a b:qE}(h:a.map St.cells=b.map St.cells):a=b:=nZ (fun _ _ _=>St.inj) h
def xr{a b:qw}(h:(a.map fun s=>[AV.aq s])=b.map fun s=>[AV.aq s]):a=b:=nZ (fun x _ y e=>yU) h
def Fu.inj{x y:Fu}(h:x.cells=y.cells):x=y:=by
 obtain⟨n,p,l,b,v⟩:=x;obtain⟨g,O,L,J,j⟩:=y;rw[A3,A3]at h;simp only[dN,AV.int.injEq,AV.aq.injEq,AV.aE.injEq,jy,aN]at h;obtain⟨I,Y,m,M,U,z,C,Z,V⟩:=h;rw[I,xr Y,xr m,Ek M,Ex.ext' U z C Z (Ej V)]
def Ar.inj{x y:Ar}(h:x.cells=y.cells):x=y:=by
 obtain⟨n,p⟩:=x;obtain⟨g,O⟩:=y;simp only[Ar.cells,dN,AV.int.injEq,AV.aq.injEq,jy,aN]at h;rw[h.1,h.2]
def Pr.inj{x y:Pr}(h:x.cells=y.cells):x=y:=by
 obtain⟨n,p⟩:=x;obtain⟨g,O⟩:=y;simp only[Pr.cells,dN,AV.aE.injEq,aN]at h;rw[nZ (fun _ _ _=>Ar.inj) h.1,nZ (fun _ _ _=>Fu.inj) h.2]
def uu(l:qu):fY (dJ l):=.map fun x _=>.cons (.int _ _) .nil
def Nd.pure(x:Nd):ip x.cells:=.cons (.int _ _) (.cons (.int _ _) (.cons (uu _) .nil))
def yV:=@Nd.pure
def Gr.pure(x:Gr):ip x.cells:=.cons (.aq _) (.cons (.int _ _) (.cons (.map fun y _=>y.pure) (.cons (.int _ _) (.cons (.int _ _) .nil))))
def Un.pure(x:Un):ip x.cells:=.cons (.map fun y _=>y.pure) (.cons (.map fun y _=>y.pure) .nil)
def xu:=@Un.pure
def Oj{a b:qu}(h:(a.map fun n=>[AV.int .i64 n])=b.map fun n=>[AV.int .i64 n]):a=b:=nZ (fun x _ y e=>yU) h
def Nd.inj{x y:Nd}(h:x.cells=y.cells):x=y:=by
 obtain⟨n,p,k⟩:=x;obtain⟨g,O,k'⟩:=y;simp only[Nd.cells,dN,AV.int.injEq,AV.aE.injEq,jy,aN]at h;rw[h.1,h.2.1,Oj h.2.2]
def uw:=@Nd.inj
def Gr.inj{x y:Gr}(h:x.cells=y.cells):x=y:=by
 obtain⟨n,p,l,v,s⟩:=x;obtain⟨Z,O,C,Y,V⟩:=y;simp only[Gr.cells,dN,AV.int.injEq,AV.aq.injEq,AV.aE.injEq,jy,aN]at h;obtain⟨i,g,m,U,M⟩:=h;rw[i,g,nZ (fun _ _ _=>uw) m,U,M]
def Un.inj{x y:Un}(h:x.cells=y.cells):x=y:=by
 obtain⟨n,p⟩:=x;obtain⟨g,O⟩:=y;simp only[Un.cells,dN,AV.aE.injEq,aN]at h;rw[nZ (fun _ _ _=>Ar.inj) h.1,nZ (fun _ _ _=>Gr.inj) h.2]
def rI(n:Int):Bool:=(decide (97<=n)&&decide (n<=122))||(decide (65<=n)&&decide (n<=90))||decide (n=95)
def oI(n:Int):Bool:=decide (48<=n)&&decide (n<=57)
def l0(b:UInt8):Bool:=rI b.toNat||oI b.toNat
def fZ:qx->Nat
 |[]=>0
 |b::s=>if l0 b then fZ s+1 else 0
theorem Ok:∀s:qx,fZ s<=s.length
 |[]=>aH _
 |b::s=>by have:=Ok s;simp only[fZ,eF];split<;>omega
def lh:qx->Nat
 |[]=>0
 |b::s=>if b.toNat=10 then 0 else lh s+1
theorem Ol:∀s:qx,lh s<=s.length
 |[]=>aH _
 |b::s=>by have:=Ol s;simp only[lh,eF];split<;>omega
def lK(b:UInt8):Bool:=decide (b.toNat=32)||decide (b.toNat=9)||decide (b.toNat=10)||decide (b.toNat=13)
def gG:Bool->qx->Nat
 |_,[]=>0
 |true,b::s=>if b.toNat=10 then (if lK b then gG false s+1 else 0)else gG true s+1
 |false,b::s=>if lK b then gG false s+1 else if b.toNat=35 then gG true s+1 else 0
theorem Om:∀s:qx,gG true s=lh s+gG false (s.drop (lh s))
 |[]=>rfl
 |b::s=>by
  simp only[gG,lh];by_cases h:b.toNat=10
  .have hb:lK b=true:=by unfold lK;simp[h]
   simp[h,hb,gG]
  .simp only[h,dD,xn,Om s];omega
theorem yW:∀(c:Bool) (s:qx),gG c s<=s.length
 |c,[]=>by cases c<;>exact aH _
 |true,b::s=>by have i:=yW true s;have g:=yW false s;simp only[gG,eF];split<;>(try split)<;>omega
 |false,b::s=>by have i:=yW true s;have g:=yW false s;simp only[gG,eF];split<;>(try split)<;>omega
def On(s:qx)(k:Tk)(e:Int):Prop:=
 k.a6=0/\(e=0->∃n,1<=n/\n<=s.length/\k.text=s.take n/\(k.aw=1->n=fZ s/\n<=16/\∀b,s[0]?=some b->oI b.toNat=false)) /\
 (1<=fZ s->fZ s<=16->(∀b,s[0]?=some b->oI b.toNat=false)->e=0/\k=⟨1,s.take (fZ s),0⟩)
def vC(s:qx):Prop:=1<=fZ s/\fZ s=s.length/\s.length<=16/\∀b,s[0]?=some b->oI b.toNat=false
def El(s:qx)(I:List Tk):Prop:=∀k U,I=k::U->∃k0,On (s.drop (gG false s)) k0 0/\k.aw=k0.aw/\k.text=k0.text
def yX(lo:Nat)(H:Hp)(Y:AV)(I:List Tk):Prop:=(I=[]/\Y=.ak)\/∃r,Y=.sl r 0 I.length 3/\H.get r=some (.cells (I.flatMap Tk.cells) 0 true)/\lo<r/\r<H.next/\I≠[]
theorem zcm(h:vC s):gG false s=0:=by
 obtain⟨i,g,m,U⟩:=h;cases s with
 |nil=>rfl
 |cons b s=>
  have hd:=U b rfl;simp only[fZ]at i;have L:l0 b=true:=by
   cases hb:l0 b with
   |true=>rfl
   |false=>rw[hb]at i;simp at i
  simp only[l0,hd,io]at L;have Z:lK b=false:=by
   unfold lK;simp only[rI,rx,jN]at L;simp;omega
  have O:¬b.toNat=35:=by
   simp only[rI,rx,jN]at L;omega
  simp only[gG,Z,dI,dD,O]
theorem Oo:∀ts:List Tk,(ts.flatMap Tk.cells).length=ts.length*3
 |[]=>rfl
 |t::ts=>by rw[xo,fB,Oo ts,Tk.bh,eF];omega
def FrB.aR{base:Nat}(h:FrB base a b)(hr:a.next<=r):FrB base a (b.aR r):=⟨h.next,fun k i g=>by
 rw[gN,af ac];exact h.get k i g⟩
def mE(s:qx):Bool:=decide (1<=fZ s)&&decide (fZ s=s.length)&&decide (s.length<=16)&&(match s with|b::_=>!oI b.toNat|[]=>true)
def Em(s:qx):mE s=true↔vC s:=by
 unfold mE vC;cases s with
 |nil=>simp[fZ]
 |cons b s=>simp[and_assoc]
def vD(s:qx):Bool:=decide (s=[97,114,114,97,121])||decide (s=[102,117,110,99])||decide (s=[118,97,114])||decide (s=[114,101,116,117,114,110])||decide (s=[105,102])||decide (s=[101,108,115,101])||decide (s=[119,104,105,108,101])||decide (s=[111,117,116])||decide (s=[116,114,97,112])
def ci(s:qx):Bool:=mE s && !vD s
def zcn{k:Tk}{U:List Tk}(h:El s (k::U))(Z:k.aw=1)(Y:k.text=s):vC s:=by
 obtain⟨k0,i,V,m⟩:=h k U rfl;obtain⟨n,cF,O,j,L⟩:=i.2.1 rfl;obtain⟨M,C,g⟩:=L (by rw[<-V];exact Z);rw[<-m,Y]at j;have I:=kV List.length j;rw[mP,kT]at I;rw[kT]at O;have J:gG false s=0:=ac;rw[J,eS]at M g;have z:n=s.length:=ac;exact⟨ac,ac,ac,g⟩
end Go.Ab
