/- Parts: Rules, AbPure, Spec4, TreeP, Lex. -/
import Derived.Test.YtpbcimfiofmoeaaGreatRCF
set_option linter.unusedSimpArgs false
set_option linter.unusedVariables false
set_option linter.unusedSectionVars false
set_option linter.defProp false
set_option maxHeartbeats 32000000
namespace Go.Ab
set_option maxRecDepth 20000
open Go
theorem z6{P:Prop}(h:P:=by first|(dsimp only[lA,tG];first|done|exact rfl)|(dsimp only[];first|done|exact rfl)|exact rfl):P:=h
theorem vt{P:Prop}(h:P:=by first|(dsimp only[zd4];first|done|exact rfl)|exact rfl):P:=h
theorem eA{P:Prop}(h:P:=by ((first|simp only[zdX,Nat.reduceBEq,ne_eq,not_false_eq_true, *,-hK]|simp only[zdX,Nat.reduceBEq,ne_eq,not_false_eq_true, *]|skip);first|done|with_reducible rfl)):P:=h
theorem jj{P:Prop}(h:P:=by ((first|simp only[zdX,zd2,tyF,Nat.reduceBEq,Nat.reduceAdd,Nat.reduceLeDiff,ne_eq,not_false_eq_true, *,-hK]|simp only[zdX,zd2,tyF,Nat.reduceBEq,Nat.reduceAdd,Nat.reduceLeDiff,ne_eq,not_false_eq_true, *]|skip);first|done|with_reducible rfl)):P:=h
theorem vu{P:Prop}(h:P:=by ((try simp only[zea,zef,zeB,Nat.add_assoc,Nat.reduceAdd,Nat.zero_add]);with_reducible rfl)):P:=h
theorem IZ{P:Prop}(h:P:=by ((first|simp only[zdX,Nat.reduceBEq,zgd,ne_eq,not_false_eq_true, *,-hK]|simp only[zdX,Nat.reduceBEq,zgd,ne_eq,not_false_eq_true, *]|skip);first|done|with_reducible rfl)):P:=h
theorem I0{P:Prop}(h:P:=by ((first|simp only[zdX,Nat.reduceBEq,zfV,List.cons_append,List.nil_append,ne_eq,not_false_eq_true, *,-hK]|simp only[zdX,Nat.reduceBEq,zfV,List.cons_append,List.nil_append,ne_eq,not_false_eq_true, *]|skip);first|done|with_reducible rfl)):P:=h
theorem I4{P:Prop}(h:P:=by ((first|simp only[zdX,Nat.reduceBEq,zf5,ne_eq,not_false_eq_true, *,-hK]|simp only[zdX,Nat.reduceBEq,zf5,ne_eq,not_false_eq_true, *]|skip);first|done|with_reducible rfl)):P:=h
theorem et{P:Prop}(h:P:=by ((first|simp only[zdX,Nat.reduceBEq,ne_eq,not_false_eq_true,decide_true,decide_false,Int.reduceEq,Int.reduceLE,Int.reduceToNat,Nat.mul_one, *,-hK]|simp only[zdX,Nat.reduceBEq,ne_eq,not_false_eq_true,decide_true,decide_false,Int.reduceEq,Int.reduceLE,Int.reduceToNat,Nat.mul_one, *]|skip);first|done|with_reducible rfl)):P:=h
theorem jk{P:Prop}(h:P:=by ((first|simp only[zdX,zd2,tyF,Nat.reduceBEq,Nat.reduceAdd,Nat.reduceLeDiff,ne_eq,not_false_eq_true,decide_true,decide_false,Int.reduceEq,Int.reduceLE,Int.reduceToNat,Nat.mul_one, *,-hK]|simp only[zdX,zd2,tyF,Nat.reduceBEq,Nat.reduceAdd,Nat.reduceLeDiff,ne_eq,not_false_eq_true,decide_true,decide_false,Int.reduceEq,Int.reduceLE,Int.reduceToNat,Nat.mul_one, *]|skip);first|done|with_reducible rfl)):P:=h
theorem I5{P:Prop}(h:P:=by ((first|simp only[zdX,Nat.reduceBEq,zgd,ne_eq,not_false_eq_true,decide_true,decide_false,Int.reduceEq,Int.reduceLE,Int.reduceToNat,Nat.mul_one, *,-hK]|simp only[zdX,Nat.reduceBEq,zgd,ne_eq,not_false_eq_true,decide_true,decide_false,Int.reduceEq,Int.reduceLE,Int.reduceToNat,Nat.mul_one, *]|skip);first|done|with_reducible rfl)):P:=h
theorem I6{P:Prop}(h:P:=by ((first|simp only[zdX,Nat.reduceBEq,zfV,List.cons_append,List.nil_append,ne_eq,not_false_eq_true,decide_true,decide_false,Int.reduceEq,Int.reduceLE,Int.reduceToNat,Nat.mul_one, *,-hK]|simp only[zdX,Nat.reduceBEq,zfV,List.cons_append,List.nil_append,ne_eq,not_false_eq_true,decide_true,decide_false,Int.reduceEq,Int.reduceLE,Int.reduceToNat,Nat.mul_one, *]|skip);first|done|with_reducible rfl)):P:=h
theorem I7{P:Prop}(h:P:=by ((first|simp only[zdX,Nat.reduceBEq,zf5,ne_eq,not_false_eq_true,decide_true,decide_false,Int.reduceEq,Int.reduceLE,Int.reduceToNat,Nat.mul_one, *,-hK]|simp only[zdX,Nat.reduceBEq,zf5,ne_eq,not_false_eq_true,decide_true,decide_false,Int.reduceEq,Int.reduceLE,Int.reduceToNat,Nat.mul_one, *]|skip);first|done|with_reducible rfl)):P:=h
theorem I8{P:Prop}(h:P:=by simp only[List.nil_append,List.cons_append,List.append_assoc,List.getElem?_cons_succ,List.getElem?_cons_zero,List.getElem?_nil];rfl):P:=h
theorem DK{P:Prop}(h:P:=by first|rfl|exact hplan _|(rw[hS.plan];rfl)):P:=h
theorem I9{P:Prop}(h:P:=by simp only[ip,rQ,List.filterMap_cons,List.filterMap_nil,List.getElem?_cons_succ,List.getElem?_cons_zero,zel,zeu,zev,Nat.blt,Nat.ble];rfl):P:=h
theorem Ja{P:Prop}(h:P:=by show zeN l g (enc x)=_;rw[hl];exact DN inj hx):P:=h
theorem xD{P:Prop}(h:P:=by simpa using e):P:=h
def r8:=@List.cons_append
def sc:=@List.getElem?_cons_succ
def nP:=@List.getElem?_cons_zero
def nQ:=@decide_eq_false_iff_not
def z7:=@List.getElem?_nil
def DL:=@Classical.choose_spec
def cL:=@Nat.lt_succ_self
def DM:=And.intro @r8.{0} @nH.{0}
def bB:=And.intro DM @ll.{0}
end Go.Ab
namespace Go.Proofs.YtpbcimfiofmoeaaGreat
set_option maxRecDepth 20000
open Go Go.Ab
def zgz:=ad uZ tL
def zgA:=ad @jt @nQ
section
variable {P:Program} {cfg:Cfg} {f:FuncId} {l:List SOp} {E:aG} {H H':Hp} {Q:aG -> Hp -> Prop} {d:Nat} {v a b:AV} {x y:Operand} {t u:TypeId}
def cM(P:Program)(cfg:Cfg)(f:FuncId)(op:Op)(E:aG)(H:Hp)(v:AV)(H':Hp):Prop:=∃n,zfk P cfg (ze8 P cfg n) f E H op=.val v H'
theorem cM.of{op:Op}(h:∀Q:aG->Hp->Prop,aO P cfg f [] (T.set E 0 (some v)) H' Q->aO P cfg f [⟨some 0,op,none⟩] E H Q):cM P cfg f op E H v H':=by
 have h1:=h (fun E2 H2=>E2.at 0=v/\H2=H') (xw ⟨by rw[Dr];rfl,rfl⟩);unfold aO at h1;simp only[]at h1;unfold iF at h1;obtain⟨n,w,H2,h2,h3⟩:=h1;unfold aO at h3;obtain⟨h4,rfl⟩:=h3;have:(zd4 E (some 0) w).at 0=w:=HM;rw[this]at h4;exact⟨n,by rw[h2,h4]⟩
def dG:=@cM.of
theorem z8{op:Op}(h:∀Q:aG->Hp->Prop,aO P cfg f [] E H' Q->aO P cfg f [⟨none,op,none⟩] E H Q):∃v,cM P cfg f op E H v H':=by
 have h1:=h (fun E2 H2=>H2=H') (xw rfl);unfold aO at h1;simp only[]at h1;unfold iF at h1;obtain⟨n,w,H2,h2,h3⟩:=h1;unfold aO at h3;subst h3;exact⟨w,n,h2⟩
theorem cM.go{op:Op}(hk:aO P cfg f l (T.set E d (some v)) H' Q)(h:cM P cfg f op E H v H'):aO P cfg f (⟨some d,op,none⟩::l) E H Q:=by
 obtain⟨n,h⟩:=h;unfold aO;show iF _ _ _ _ _ _ _;unfold iF;exact⟨n,v,H',h,hk⟩
theorem Jb{op:Op}(hk:aO P cfg f l E H' Q)(h:∃v,cM P cfg f op E H v H'):aO P cfg f (⟨none,op,none⟩::l) E H Q:=by
 obtain⟨v,n,h⟩:=h;unfold aO;show iF _ _ _ _ _ _ _;unfold iF;exact⟨n,v,H',h,hk⟩
attribute [irreducible] cM
theorem Rx.nl{Q2 K:aG->Hp->Prop}{R:Prop}(h:R)(hK:∀E H,Q2 E H->K E H:=by assumption)(e:Q2 E H=R:=by exact z6):aO P cfg f [] E H K:=xw (hK _ _ (e▸h))
def au:=@Rx.nl
theorem zdU{R:Prop}(h:R)(e:Q E H=R:=by first|(dsimp only[];first|done|exact rfl)|exact rfl):aO P cfg f [] E H Q:=xw (e▸h)
theorem zdV{need:List (Nat×Nat)}{tr:List Rc}{Q2:aG->Hp->Prop}{K:List Rc->aG->Hp->Prop}{R:Prop}(h1:qN P cfg need tr H)(h:R)(hK:∀tr E' H',qN P cfg need tr H'->Q2 E' H'->K tr E' H':=by assumption)(e:Q2 E H=R:=by exact z6):eG P cfg f [] tr E H K:=eG.nil (hK _ _ _ h1 (e▸h))
theorem Rx.k{g:FuncId}{ar:List AV}{r:AV}{K:AV->Hp->Prop}{R:Prop}(c:zd5 P cfg g ar H fun v H'=>v=r/\H'=H)(h:R)(e:K r H=R:=by exact vt):zd5 P cfg g ar H K:=bp (by rintro _ _ ⟨rfl,rfl⟩;exact e▸h) c
theorem Ox.mv(h:zd0 E x=some v:=by exact eA):cM P cfg f (.move x) E H v H:=dG fun Q hk=>aO.move h hk
theorem Ox.as(h:zd0 E x=some v:=by exact eA):cM P cfg f (.assign x) E H v H:=dG fun Q hk=>aO.assign h hk
theorem Ox.pk{z:Operand}{t:Bool}(h:zd0 E x=some (.bool t):=by exact eA)(h1:zd0 E y=some a:=by exact eA)(h2:zd0 E z=some b:=by exact eA):cM P cfg f (.pick x y z) E H (jG t a b) H:=dG fun Q hk=>aO.pick h h1 h2 hk
theorem Ox.ld(h:zd0 E x=some a:=by exact eA)(h1:zfC P H t a=some v:=by exact jj):cM P cfg f (.load t x) E H v H:=dG fun Q hk=>aO.load h h1 hk
theorem Ox.st(h:zd0 E x=some a:=by exact eA)(h1:zd0 E y=some b:=by exact eA)(h2:j5 P H t a b=some H':=by exact jj):∃v,cM P cfg f (.store t x y) E H v H':=z8 fun Q hk=>oS h h1 h2 hk
theorem Ox.nc{r o:Nat}(h:zd0 E x=some (.ptr r o):=by exact eA):cM P cfg f (.nilCheck x) E H (.ptr r o) H:=dG fun Q hk=>aO.nilCheck h hk
theorem Ox.bn{op:BinOp}(h:zd0 E x=some a:=by exact eA)(h1:zd0 E y=some b:=by exact eA)(h2:jS P cfg.dec op t a b=some v:=by exact jj):cM P cfg f (.binOp op t x y u) E H v H:=dG fun Q hk=>aO.bin h h1 h2 hk
theorem Ox.un{op:UnOp}(h:zd0 E x=some a:=by exact eA)(h2:rN op a=some v:=by exact jj):cM P cfg f (.unOp op t x) E H v H:=dG fun Q hk=>aO.un h h2 hk
theorem Ox.cv(h:zd0 E x=some a:=by exact eA)(h2:jq P H t u a=some v:=by exact jj):cM P cfg f (.convert t u x) E H v H:=dG fun Q hk=>aO.convert h h2 hk
theorem Ox.fa{i:Nat}(h:zd0 E x=some a:=by exact eA)(h2:zeg P t a i=some v:=by exact jj):cM P cfg f (.fieldAddr t x i) E H v H:=dG fun Q hk=>HY h h2 hk
theorem Ox.fi{i:Nat}(h:zd0 E x=some a:=by exact eA)(h2:zeU P t a i=some v:=by exact jj):cM P cfg f (.field t x i) E H v H:=dG fun Q hk=>aO.field h h2 hk
theorem Ox.ia(h:zd0 E x=some a:=by exact eA)(h1:zd0 E y=some b:=by exact eA)(h2:zeE P t a b=some v:=by exact jj):cM P cfg f (.indexAddr t x y) E H v H:=dG fun Q hk=>HZ h h1 h2 hk
theorem Ox.ix(h:zd0 E x=some a:=by exact eA)(h1:zd0 E y=some b:=by exact eA)(h2:pI P t a b=some v:=by exact jj):cM P cfg f (.index t x y) E H v H:=dG fun Q hk=>aO.index h h1 h2 hk
theorem Ox.ex{i:Nat}(h:zd0 E x=some a:=by exact eA)(h2:Ab.extract a i=some v:=by exact jj):cM P cfg f (.extract x i) E H v H:=dG fun Q hk=>aO.extract h h2 hk
theorem Ox.al{z:List AV}{n:Nat}(h:ze5 P t=some z:=by exact jj)(hn:some H.next=some n:=by exact vu):cM P cfg f (.alloc t) E H (.ptr n 0) (H.alloc (.cells z 0 true)):=dG fun Q hk=>aO.alloc h hn hk
theorem Ox.bx{cs:List AV}{n:Nat}(h:zd0 E x=some a:=by exact eA)(hc:some a.cells=some cs:=by exact jj)(hn:some H.next=some n:=by exact vu):cM P cfg f (.box t x) E H (.ptr n 0) (H.alloc (.cells cs 0 true)):=dG fun Q hk=>aO.box h hc hn hk
theorem Ox.bd{parts:Array (Nat×Operand)}{ps:List (Nat×AV)}(h:zgd E parts.toList=some ps:=by exact IZ)(h2:zfy P t ps=some v:=by exact jj):cM P cfg f (.build t parts) E H v H:=dG fun Q hk=>aO.build h h2 hk
theorem Ox.bs{n:Nat}{parts:Array (Nat×Operand)}{ps:List (Nat×AV)}(h:zgd E parts.toList=some ps:=by exact IZ)(h2:zfn P H t n ps=some (v,H'):=by exact jj):cM P cfg f (.buildSlice t n parts) E H v H':=dG fun Q hk=>H0 h h2 hk
theorem Ox.mm{n:Nat}(hn:some H.next=some n:=by exact vu):cM P cfg f (.makeMap t none) E H (.map n) (H.alloc (.map [])):=dG fun Q hk=>aO.makeMap hn hk
theorem Ox.ms(h:zd0 E x=some a:=by exact eA)(h1:zd0 E y=some b:=by exact eA)(h2:zf9 P H t a b=some (v,H'):=by exact jj):cM P cfg f (.makeSlice t x y) E H v H':=dG fun Q hk=>Ib h h1 h2 hk
theorem Ox.lu{ok:Bool}(h:zd0 E x=some a:=by exact eA)(h1:zd0 E y=some b:=by exact eA)(h2:zge P H t a b ok=some v:=by exact jj):cM P cfg f (.lookup t x y ok) E H v H:=dG fun Q hk=>aO.lookup h h1 h2 hk
theorem Ox.mu{z:Operand}{c:AV}(h:zd0 E x=some a:=by exact eA)(h1:zd0 E y=some b:=by exact eA)(h2:zd0 E z=some c:=by exact eA)(h3:zgu P H t a b c=some H':=by exact jj):∃v,cM P cfg f (.mapUpdate t x y z) E H v H':=z8 fun Q hk=>Ia h h1 h2 h3 hk
theorem Ox.mf{g:FuncId}{cap:Array Operand}{vs:List AV}(h:zfV E cap.toList=some vs:=by exact I0):cM P cfg f (.makeFunc (.func g) #[] cap) E H (.clo g vs) H:=dG fun Q hk=>aO.makeFunc h hk
theorem Ox.sl{lo hi:Option Operand}{lv hv:Option AV}(h:zd0 E x=some a:=by exact eA)(h1:zf5 E lo=some lv:=by exact I4)(h2:zf5 E hi=some hv:=by exact I4)(h3:my P H t a lv hv=some v:=by exact jj):cM P cfg f (.slice t x lo hi none) E H v H:=dG fun Q hk=>aO.slice h h1 h2 h3 hk
theorem Ox.ln{c:AV}(h:zd0 E x=some a:=by exact eA)(h1:zeR P H t a=some c:=by exact jj):cM P cfg f (.call ⟨.builtin .len,#[x],#[t]⟩) E H c H:=dG fun Q hk=>aO.len h h1 hk
theorem Ox.ap(h:zd0 E x=some a:=by exact eA)(h1:zd0 E y=some b:=by exact eA)(h2:zeZ P (cfg.keep f) H t u a b=some (v,H'):=by exact jj):cM P cfg f (.call ⟨.builtin .append,#[x,y],#[t,u]⟩) E H v H':=dG fun Q hk=>ji h h1 h2 hk
theorem Ox.mi{ts:Array TypeId}{k k':IntKind}{na nb:Int}(h:zd0 E x=some (.int k na):=by exact eA)(h1:zd0 E y=some (.int k' nb):=by exact eA):cM P cfg f (.call ⟨.builtin .min,#[x,y],ts⟩) E H (.int k (min na nb)) H:=dG fun Q hk=>aO.min2 h h1 hk
theorem Ox.ma{ts:Array TypeId}{k k':IntKind}{na nb:Int}(h:zd0 E x=some (.int k na):=by exact eA)(h1:zd0 E y=some (.int k' nb):=by exact eA):cM P cfg f (.call ⟨.builtin .max,#[x,y],ts⟩) E H (.int k (max na nb)) H:=dG fun Q hk=>aO.max2 h h1 hk
theorem Rx.o{op:Op}(hk:aO P cfg f l (T.set E d (some v)) H' Q)(h:cM P cfg f op E H v H':=by first|apply(Ox.mv)|apply(Ox.as)|apply(Ox.pk)|apply(Ox.ld)|apply(Ox.nc)|apply(Ox.bn)|apply(Ox.un)|apply(Ox.cv)|apply(Ox.fa)|apply(Ox.fi)|apply(Ox.ia)|apply(Ox.ix)|apply(Ox.ex)|apply(Ox.al)|apply(Ox.bx)|apply(Ox.bd)|apply(Ox.bs)|apply(Ox.mm)|apply(Ox.ms)|apply(Ox.lu)|apply(Ox.mf)|apply(Ox.sl)|apply(Ox.ln)|apply(Ox.ap)|apply(Ox.mi)|apply(Ox.ma)):aO P cfg f (⟨some d,op,none⟩::l) E H Q:=cM.go hk h
theorem Rx.on{op:Op}(hk:aO P cfg f l E H' Q)(h:∃v,cM P cfg f op E H v H':=by first|apply(Ox.st)|apply(Ox.mu)):aO P cfg f (⟨none,op,none⟩::l) E H Q:=Jb hk h
def ba:=@Rx.on
theorem Rx.call{dd:Option Nat}{c:Call}{g:Operand}{k:FuncId}{cap vs ar:List AV}(hk:zd5 P cfg k ar H fun v H'=>aO P cfg f l (zd4 E dd v) H' Q)(hc:c.callee=.value g:=by rfl)(hg:zd0 E g=some (.clo k cap):=by exact eA)(hv:zfV E c.args.toList=some vs:=by exact I0)(ea:vs++cap=ar:=by simp only[bB];first|done|exact rfl):aO P cfg f (⟨dd,.call c,none⟩::l) E H Q:=bA hc hg hv (ea▸hk)
def eu:=@Rx.call
theorem Rx.gu{dd:Option Nat}{op:Op}{s:Nat}{t:Bool}{v:AV}{R:Prop}(hk:R)(h:some (E.at s)=some v:=by exact eA)(hv:v=zff:=by with_reducible rfl)(e:aO P cfg f l (zd4 E dd zff) H Q=R:=by exact vt):aO P cfg f (⟨dd,op,some (s,t)⟩::l) E H Q:=HV h hv (e▸hk)
def eJ:=@Rx.gu
theorem Rx.gd{dd:Option Nat}{op:Op}{s:Nat}{tb t:Bool}{p1 p2 q1 q2 R:Prop}(h1:p1->q1->aO P cfg f (⟨dd,op,none⟩::l) E H Q)(h2:p2->q2->R)(h:E.at s=.bool t:=by exact eA)(e1:(t=tb)=p1:=by(try simp only[zgz,reduceCtorEq]);first|done|exact rfl)(e2:(t=!tb)=p2:=by(try simp only[zgz,reduceCtorEq]);first|done|exact rfl)(e3:p1=q1:=by(try simp only[zgA]);first|done|exact rfl)(e4:p2=q2:=by(try simp only[zgA]);first|done|exact rfl)(e:aO P cfg f l (zd4 E dd zff) H Q=R:=by exact vt):aO P cfg f (⟨dd,op,some (s,tb)⟩::l) E H Q:=aO.guard h (fun k=>h1 (e1▸k) (e3▸e1▸k)) (fun k=>e▸h2 (e2▸k) (e4▸e2▸k))
def bQ:=@Rx.gd
theorem Rx.cd{N:Nat}{ca cb:SC}{Q:AX->aG->Hp->Prop}{t:Bool}{p1 p2 q1 q2:Prop}(h1:p1->q1->zex P cfg f N ca E H Q)(h2:p2->q2->zex P cfg f N cb E H Q)(hx:zd0 E x=some (.bool t):=by exact eA)(e1:(t=true)=p1:=by(try simp only[zgz,reduceCtorEq]);first|done|exact rfl)(e2:(t=false)=p2:=by(try simp only[zgz,reduceCtorEq]);first|done|exact rfl)(e3:p1=q1:=by(try simp only[zgA]);first|done|exact rfl)(e4:p2=q2:=by(try simp only[zgA]);first|done|exact rfl):zex P cfg f N (.cond x ca cb) E H Q:=zex.cond hx (fun k=>h1 (e1▸k) (e3▸e1▸k)) (fun k=>h2 (e2▸k) (e4▸e2▸k))
def aT:=@Rx.cd
theorem Oy.mv(h:zd0 E x=some v:=by exact et):cM P cfg f (.move x) E H v H:=dG fun Q hk=>aO.move h hk
theorem Oy.as(h:zd0 E x=some v:=by exact et):cM P cfg f (.assign x) E H v H:=dG fun Q hk=>aO.assign h hk
theorem Oy.pk{z:Operand}{t:Bool}(h:zd0 E x=some (.bool t):=by exact et)(h1:zd0 E y=some a:=by exact et)(h2:zd0 E z=some b:=by exact et):cM P cfg f (.pick x y z) E H (jG t a b) H:=dG fun Q hk=>aO.pick h h1 h2 hk
theorem Oy.ld(h:zd0 E x=some a:=by exact et)(h1:zfC P H t a=some v:=by exact jk):cM P cfg f (.load t x) E H v H:=dG fun Q hk=>aO.load h h1 hk
theorem Oy.st(h:zd0 E x=some a:=by exact et)(h1:zd0 E y=some b:=by exact et)(h2:j5 P H t a b=some H':=by exact jk):∃v,cM P cfg f (.store t x y) E H v H':=z8 fun Q hk=>oS h h1 h2 hk
theorem Oy.nc{r o:Nat}(h:zd0 E x=some (.ptr r o):=by exact et):cM P cfg f (.nilCheck x) E H (.ptr r o) H:=dG fun Q hk=>aO.nilCheck h hk
theorem Oy.bn{op:BinOp}(h:zd0 E x=some a:=by exact et)(h1:zd0 E y=some b:=by exact et)(h2:jS P cfg.dec op t a b=some v:=by exact jk):cM P cfg f (.binOp op t x y u) E H v H:=dG fun Q hk=>aO.bin h h1 h2 hk
theorem Oy.un{op:UnOp}(h:zd0 E x=some a:=by exact et)(h2:rN op a=some v:=by exact jk):cM P cfg f (.unOp op t x) E H v H:=dG fun Q hk=>aO.un h h2 hk
theorem Oy.cv(h:zd0 E x=some a:=by exact et)(h2:jq P H t u a=some v:=by exact jk):cM P cfg f (.convert t u x) E H v H:=dG fun Q hk=>aO.convert h h2 hk
theorem Oy.fa{i:Nat}(h:zd0 E x=some a:=by exact et)(h2:zeg P t a i=some v:=by exact jk):cM P cfg f (.fieldAddr t x i) E H v H:=dG fun Q hk=>HY h h2 hk
theorem Oy.fi{i:Nat}(h:zd0 E x=some a:=by exact et)(h2:zeU P t a i=some v:=by exact jk):cM P cfg f (.field t x i) E H v H:=dG fun Q hk=>aO.field h h2 hk
theorem Oy.ia(h:zd0 E x=some a:=by exact et)(h1:zd0 E y=some b:=by exact et)(h2:zeE P t a b=some v:=by exact jk):cM P cfg f (.indexAddr t x y) E H v H:=dG fun Q hk=>HZ h h1 h2 hk
theorem Oy.ix(h:zd0 E x=some a:=by exact et)(h1:zd0 E y=some b:=by exact et)(h2:pI P t a b=some v:=by exact jk):cM P cfg f (.index t x y) E H v H:=dG fun Q hk=>aO.index h h1 h2 hk
theorem Oy.ex{i:Nat}(h:zd0 E x=some a:=by exact et)(h2:Ab.extract a i=some v:=by exact jk):cM P cfg f (.extract x i) E H v H:=dG fun Q hk=>aO.extract h h2 hk
theorem Oy.al{z:List AV}{n:Nat}(h:ze5 P t=some z:=by exact jk)(hn:some H.next=some n:=by exact vu):cM P cfg f (.alloc t) E H (.ptr n 0) (H.alloc (.cells z 0 true)):=dG fun Q hk=>aO.alloc h hn hk
theorem Oy.bx{cs:List AV}{n:Nat}(h:zd0 E x=some a:=by exact et)(hc:some a.cells=some cs:=by exact jk)(hn:some H.next=some n:=by exact vu):cM P cfg f (.box t x) E H (.ptr n 0) (H.alloc (.cells cs 0 true)):=dG fun Q hk=>aO.box h hc hn hk
theorem Oy.bd{parts:Array (Nat×Operand)}{ps:List (Nat×AV)}(h:zgd E parts.toList=some ps:=by exact I5)(h2:zfy P t ps=some v:=by exact jk):cM P cfg f (.build t parts) E H v H:=dG fun Q hk=>aO.build h h2 hk
theorem Oy.bs{n:Nat}{parts:Array (Nat×Operand)}{ps:List (Nat×AV)}(h:zgd E parts.toList=some ps:=by exact I5)(h2:zfn P H t n ps=some (v,H'):=by exact jk):cM P cfg f (.buildSlice t n parts) E H v H':=dG fun Q hk=>H0 h h2 hk
theorem Oy.mm{n:Nat}(hn:some H.next=some n:=by exact vu):cM P cfg f (.makeMap t none) E H (.map n) (H.alloc (.map [])):=dG fun Q hk=>aO.makeMap hn hk
theorem Oy.ms(h:zd0 E x=some a:=by exact et)(h1:zd0 E y=some b:=by exact et)(h2:zf9 P H t a b=some (v,H'):=by exact jk):cM P cfg f (.makeSlice t x y) E H v H':=dG fun Q hk=>Ib h h1 h2 hk
theorem Oy.lu{ok:Bool}(h:zd0 E x=some a:=by exact et)(h1:zd0 E y=some b:=by exact et)(h2:zge P H t a b ok=some v:=by exact jk):cM P cfg f (.lookup t x y ok) E H v H:=dG fun Q hk=>aO.lookup h h1 h2 hk
theorem Oy.mu{z:Operand}{c:AV}(h:zd0 E x=some a:=by exact et)(h1:zd0 E y=some b:=by exact et)(h2:zd0 E z=some c:=by exact et)(h3:zgu P H t a b c=some H':=by exact jk):∃v,cM P cfg f (.mapUpdate t x y z) E H v H':=z8 fun Q hk=>Ia h h1 h2 h3 hk
theorem Oy.mf{g:FuncId}{cap:Array Operand}{vs:List AV}(h:zfV E cap.toList=some vs:=by exact I6):cM P cfg f (.makeFunc (.func g) #[] cap) E H (.clo g vs) H:=dG fun Q hk=>aO.makeFunc h hk
theorem Oy.sl{lo hi:Option Operand}{lv hv:Option AV}(h:zd0 E x=some a:=by exact et)(h1:zf5 E lo=some lv:=by exact I7)(h2:zf5 E hi=some hv:=by exact I7)(h3:my P H t a lv hv=some v:=by exact jk):cM P cfg f (.slice t x lo hi none) E H v H:=dG fun Q hk=>aO.slice h h1 h2 h3 hk
theorem Oy.ln{c:AV}(h:zd0 E x=some a:=by exact et)(h1:zeR P H t a=some c:=by exact jk):cM P cfg f (.call ⟨.builtin .len,#[x],#[t]⟩) E H c H:=dG fun Q hk=>aO.len h h1 hk
theorem Oy.ap(h:zd0 E x=some a:=by exact et)(h1:zd0 E y=some b:=by exact et)(h2:zeZ P (cfg.keep f) H t u a b=some (v,H'):=by exact jk):cM P cfg f (.call ⟨.builtin .append,#[x,y],#[t,u]⟩) E H v H':=dG fun Q hk=>ji h h1 h2 hk
theorem Oy.mi{ts:Array TypeId}{k k':IntKind}{na nb:Int}(h:zd0 E x=some (.int k na):=by exact et)(h1:zd0 E y=some (.int k' nb):=by exact et):cM P cfg f (.call ⟨.builtin .min,#[x,y],ts⟩) E H (.int k (min na nb)) H:=dG fun Q hk=>aO.min2 h h1 hk
theorem Oy.ma{ts:Array TypeId}{k k':IntKind}{na nb:Int}(h:zd0 E x=some (.int k na):=by exact et)(h1:zd0 E y=some (.int k' nb):=by exact et):cM P cfg f (.call ⟨.builtin .max,#[x,y],ts⟩) E H (.int k (max na nb)) H:=dG fun Q hk=>aO.max2 h h1 hk
theorem Ry.o{op:Op}(hk:aO P cfg f l (T.set E d (some v)) H' Q)(h:cM P cfg f op E H v H':=by first|apply(Oy.mv)|apply(Oy.as)|apply(Oy.pk)|apply(Oy.ld)|apply(Oy.nc)|apply(Oy.bn)|apply(Oy.un)|apply(Oy.cv)|apply(Oy.fa)|apply(Oy.fi)|apply(Oy.ia)|apply(Oy.ix)|apply(Oy.ex)|apply(Oy.al)|apply(Oy.bx)|apply(Oy.bd)|apply(Oy.bs)|apply(Oy.mm)|apply(Oy.ms)|apply(Oy.lu)|apply(Oy.mf)|apply(Oy.sl)|apply(Oy.ln)|apply(Oy.ap)|apply(Oy.mi)|apply(Oy.ma)):aO P cfg f (⟨some d,op,none⟩::l) E H Q:=cM.go hk h
theorem Ry.on{op:Op}(hk:aO P cfg f l E H' Q)(h:∃v,cM P cfg f op E H v H':=by first|apply(Oy.st)|apply(Oy.mu)):aO P cfg f (⟨none,op,none⟩::l) E H Q:=Jb hk h
def cD:=@Ry.on
theorem Ry.call{dd:Option Nat}{c:Call}{g:Operand}{k:FuncId}{cap vs ar:List AV}(hk:zd5 P cfg k ar H fun v H'=>aO P cfg f l (zd4 E dd v) H' Q)(hc:c.callee=.value g:=by rfl)(hg:zd0 E g=some (.clo k cap):=by exact et)(hv:zfV E c.args.toList=some vs:=by exact I6)(ea:vs++cap=ar:=by simp only[bB];first|done|exact rfl):aO P cfg f (⟨dd,.call c,none⟩::l) E H Q:=bA hc hg hv (ea▸hk)
def dq:=@Ry.call
theorem Ry.gu{dd:Option Nat}{op:Op}{s:Nat}{t:Bool}{v:AV}{R:Prop}(hk:R)(h:some (E.at s)=some v:=by exact et)(hv:v=zff:=by with_reducible rfl)(e:aO P cfg f l (zd4 E dd zff) H Q=R:=by exact vt):aO P cfg f (⟨dd,op,some (s,t)⟩::l) E H Q:=HV h hv (e▸hk)
def jw:=@Ry.gu
theorem Ry.gd{dd:Option Nat}{op:Op}{s:Nat}{tb t:Bool}{p1 p2 q1 q2 R:Prop}(h1:p1->q1->aO P cfg f (⟨dd,op,none⟩::l) E H Q)(h2:p2->q2->R)(h:E.at s=.bool t:=by exact et)(e1:(t=tb)=p1:=by(try simp only[zgz,reduceCtorEq]);first|done|exact rfl)(e2:(t=!tb)=p2:=by(try simp only[zgz,reduceCtorEq]);first|done|exact rfl)(e3:p1=q1:=by(try simp only[zgA]);first|done|exact rfl)(e4:p2=q2:=by(try simp only[zgA]);first|done|exact rfl)(e:aO P cfg f l (zd4 E dd zff) H Q=R:=by exact vt):aO P cfg f (⟨dd,op,some (s,tb)⟩::l) E H Q:=aO.guard h (fun k=>h1 (e1▸k) (e3▸e1▸k)) (fun k=>e▸h2 (e2▸k) (e4▸e2▸k))
def bS:=@Ry.gd
theorem lD{dd:Option Nat}{op:Op}{s:Nat}{tb t:Bool}{tr:List Rc}{Q:List Rc->aG->Hp->Prop}{p1 p2 q1 q2 R:Prop}(h1:p1->q1->eG P cfg f (⟨dd,op,none⟩::l) tr E H Q)(h2:p2->q2->R)(h:E.at s=.bool t:=by exact et)(e1:(t=tb)=p1:=by(try simp only[zgz,reduceCtorEq]);first|done|exact rfl)(e2:(t=!tb)=p2:=by(try simp only[zgz,reduceCtorEq]);first|done|exact rfl)(e3:p1=q1:=by(try simp only[zgA]);first|done|exact rfl)(e4:p2=q2:=by(try simp only[zgA]);first|done|exact rfl)(e:eG P cfg f l (tr++[⟨op,false,E,H,zff,H⟩]) (zd4 E dd zff) H Q=R:=by exact vt):eG P cfg f (⟨dd,op,some (s,tb)⟩::l) tr E H Q:=eG.guard h (fun k=>h1 (e1▸k) (e3▸e1▸k)) (fun k=>e▸h2 (e2▸k) (e4▸e2▸k))
theorem Ry.cd{N:Nat}{ca cb:SC}{Q:AX->aG->Hp->Prop}{t:Bool}{p1 p2 q1 q2:Prop}(h1:p1->q1->zex P cfg f N ca E H Q)(h2:p2->q2->zex P cfg f N cb E H Q)(hx:zd0 E x=some (.bool t):=by exact et)(e1:(t=true)=p1:=by(try simp only[zgz,reduceCtorEq]);first|done|exact rfl)(e2:(t=false)=p2:=by(try simp only[zgz,reduceCtorEq]);first|done|exact rfl)(e3:p1=q1:=by(try simp only[zgA]);first|done|exact rfl)(e4:p2=q2:=by(try simp only[zgA]);first|done|exact rfl):zex P cfg f N (.cond x ca cb) E H Q:=zex.cond hx (fun k=>h1 (e1▸k) (e3▸e1▸k)) (fun k=>h2 (e2▸k) (e4▸e2▸k))
def aV:=@Ry.cd
theorem eE{p:Prop}(h:p:=by first|(simp only[zdX,Nat.reduceBEq, *];done)|rfl):p:=h
theorem zgK{p:Prop}(h:p:=by first|(simp only[zdX,zd2,tyF,Nat.reduceBEq,Nat.reduceAdd,Nat.reduceLeDiff, *];done)|rfl):p:=h
theorem eV{p:Prop}(h:p:=by((try simp only[zdX,Nat.reduceBEq, *]);first|done|with_reducible rfl)):p:=h
theorem zgF{p:Prop}(h:p:=by((try simp only[zdX,zd2,tyF,Nat.reduceBEq,Nat.reduceAdd,Nat.reduceLeDiff, *]);first|done|with_reducible rfl)):p:=h
theorem zd6{p:Prop}(h:p:=by((try simp only[zdX,Nat.reduceBEq,zfD,zfI, *]);first|done|with_reducible rfl)):p:=h
theorem fo{p:Prop}(h:p:=by((try simp only[zdX,zd2,tyF,Nat.reduceBEq,Nat.reduceAdd,Nat.reduceLeDiff,zfD,zfI, *]);first|done|with_reducible rfl)):p:=h
theorem bE{p:Prop}(h:p:=by((try simp only[zdX,Nat.reduceBEq, *,-hK]);first|done|with_reducible rfl)):p:=h
theorem bF{p:Prop}(h:p:=by((try simp only[zdX,Nat.reduceBEq,zfV,DM, *,-hK]);first|done|with_reducible rfl)):p:=h
theorem zdZ{p:Prop}(h:p:=by first|exact .inl rfl|exact .inr rfl|exact .inl trivial|exact .inr trivial):p:=h
theorem zd7{p:Prop}(h:p:=by simp only[zec,zeb,aX,zdX,zd2,tyF,Nat.reduceBEq,Nat.reduceAdd,Nat.reduceLeDiff, *]):p:=h
theorem eN{p:Prop}(h:p:=by(try simp only[zea,zef,zeB,bT,Nat.reduceAdd]);omega):p:=h
theorem zdR{N:Nat}{Q:AX->aG->Hp->Prop}{R:Prop}(h:R)(e:Q .normal E H=R:=by exact z6):zex P cfg f N .skip E H Q:=zex.skip (e▸h)
theorem Rx.rt{N:Nat}{Q:AX->aG->Hp->Prop}{R:Prop}(h:R)(e:Q .ret E H=R:=by exact z6):zex P cfg f N .ret E H Q:=zex.ret (e▸h)
def aB:=@Rx.rt
theorem zdT{N id:Nat}{Q:AX->aG->Hp->Prop}{R:Prop}(h:R)(e:Q (.exit id) E H=R:=by first|(simp only[lA,tG,reduceIte];first|done|exact rfl)|(dsimp only[];first|done|exact rfl)|exact rfl):zex P cfg f N (.exit id) E H Q:=zex.exit (e▸h)
theorem eK{p:Prop}(h:p:=by(refine⟨?_,?_⟩<;>simp only[nH,r8,kH,sc,nP,z7,Dw,zea,zef,aM,mJ,aX]<;>(repeat' apply ad)<;>first
 |(intro r hr;cases hr;done)
 |(refine Iq I8 (fun hd=>?_)
   simp only[vm,nH,r8,kH,sc,nP,z7]at hd⊢;first
   |(cases hd;done)
   |exact Ik eV zgF
   |exact Il eV eV zgF
   |exact Im eV zgF
   |exact In eV zgF
   |exact Io eV (by simp only[zf5];first|rfl|simp only[zdX,Nat.reduceBEq, *]) (by simp only[zf5];first|rfl|simp only[zdX,Nat.reduceBEq, *]) zgF
   |exact Ip rfl zgF zgF)
 |exact aM _
 |assumption
 |omega)):p:=h
variable {N:Nat} {ops:List Oper} {Q2:AX -> aG -> Hp -> Prop}
theorem zdP(id:Nat)(need:List (Nat×Nat))(h:∀K:List Rc->aG->Hp->Prop,(∀tr E' H',qN P cfg need tr H'->Q2 .normal E' H'->K tr E' H')->eG P cfg f l [] E H K)(hpl:cfg.plan f id=.text:=by exact DK)(hp:pL ops=true:=by kernel_rfl)(hs:zel N ops ops=some l:=by simp only[zel,zeu,zev,Nat.blt,Nat.ble];rfl)(hn:nD ops=need:=by kernel_rfl):zex P cfg f N (.draw id ops) E H Q2:=Rp hpl hp hs hn h
theorem l7(id:Nat)(ord:List Nat)(need:List (Nat×Nat))(h:∀K:List Rc->aG->Hp->Prop,(∀tr E' H',qN P cfg need tr H'->Q2 .normal E' H'->K tr E' H')->eG P cfg f l [] E H K)(hpl:cfg.plan f id=.perm ord:=by exact DK)(hb:wP ord ops=true:=by kernel_rfl)(hp:pL (ip ord ops)=true:=by kernel_rfl)(hs:zel N (ip ord ops) (ip ord ops)=some l:=by exact I9)(hn:nD (ip ord ops)=need:=by kernel_rfl):zex P cfg f N (.draw id ops) E H Q2:=Ij hpl hb hp hs hn h
theorem vy(id:Nat)(h:∀K:aG->Hp->Prop,(∀E' H',Q2 .normal E' H'->K E' H')->aO P cfg f l E H K)(hpl:cfg.plan f id=.text:=by exact DK)(hp:zX ops=true:=by kernel_rfl)(hs:zel N ops ops=some l:=by simp only[zel,zeu,zev,Nat.blt,Nat.ble];rfl):zex P cfg f N (.draw id ops) E H Q2:=zex.draw hpl hp hs h
end
end Go.Proofs.YtpbcimfiofmoeaaGreat
namespace Go.Ab
set_option maxRecDepth 20000
open Go
def fG(v:AV):Prop:=∃k,∀m,k<=m->∀H,iceV H m v=some v
def fX(l:List AV):Prop:=∀v∈l,fG v
theorem fX.nil:fX []:=fun _ h=>pS
theorem fX.cons{v:AV}{l:List AV}(h:fG v)(hl:fX l):fX (v::l):=fun w hw=>by
 rcases iu.1 hw with rfl|hw
 .exact h
 .exact hl _ hw
theorem fX.bound:∀{l:List AV},fX l->∃k,∀m,k<=m->∀H,iceL (iceV H m) l=some l
 |[],_=>⟨0,fun _ _ _=>rfl⟩
 |v::l,h=>by
  obtain⟨k1,h1⟩:=h v fm;obtain⟨k2,h2⟩:=fX.bound (l:=l) fun w hw=>h w (gF _ hw)
  exact⟨max k1 k2,fun m hm H=>by simp only[iceL,h1 m ac H,h2 m ac H]⟩
theorem Jd:∀{l:List (List AV)},(∀row∈l,fX row)->∃k,∀m,k<=m->∀H,rR (iceV H m) l=some l
 |[],_=>⟨0,fun _ _ _=>rfl⟩
 |v::l,h=>by
  obtain⟨k1,h1⟩:=(h v fm).bound;obtain⟨k2,h2⟩:=Jd (l:=l) fun w hw=>h w (gF _ hw)
  exact⟨max k1 k2,fun m hm H=>by simp only[rR,h1 m ac H,h2 m ac H]⟩
theorem fG.one{v:AV}(h:∀m H,iceV H (m+1) v=some v):fG v:=⟨1,fun m hm H=>by
 obtain⟨m,rfl⟩:∃k,m=k+1:=⟨m-1,ac⟩;exact h m H⟩
theorem fG.int(k:IntKind)(n:Int):fG (.int k n):=.one fun _ _=>rfl
theorem fG.bool(b:Bool):fG (.bool b):=.one fun _ _=>rfl
theorem fG.str(s:List UInt8):fG (.str s):=.one fun _ _=>rfl
theorem fG.nilS:fG .nilS:=.one fun _ _=>rfl
theorem fG.lst{l:List (List AV)}(h:∀row∈l,fX row):fG (.lst l):=by
 obtain⟨k,hk⟩:=Jd h;refine⟨k+1,fun m hm H=>?_⟩;obtain⟨m,rfl⟩:∃k,m=k+1:=⟨m-1,ac⟩;simp only[iceV,hk m ac H]
theorem fG.agg{l:List AV}(h:fX l):fG (.agg l):=by
 obtain⟨k,hk⟩:=h.bound;refine⟨k+1,fun m hm H=>?_⟩;obtain⟨m,rfl⟩:∃k,m=k+1:=⟨m-1,ac⟩;simp only[iceV,hk m ac H]
theorem fG.tup{l:List AV}(h:fX l):fG (.tup l):=by
 obtain⟨k,hk⟩:=h.bound;refine⟨k+1,fun m hm H=>?_⟩;obtain⟨m,rfl⟩:∃k,m=k+1:=⟨m-1,ac⟩;simp only[iceV,hk m ac H]
theorem fG.map{α:Type}{l:List α}{f:α->List AV}(h:∀x∈l,fX (f x)):fG (.lst (l.map f)):=.lst fun row hr=>by
 obtain⟨x,hx,rfl⟩:=l0.1 hr;exact h x hx
theorem Je{args:List AV}(h:fX args):∃k,qC k args=true:=by
 obtain⟨k,hk⟩:=h.bound;exact⟨k,by unfold qC;rw[hk k (aM _) zeo];exact zgE args⟩
theorem Jf{P:Program}{cfg:Cfg}(fit:Fit P){ρ:Nat->Int}(hD:mG cfg.dec ρ)(hc:∀f args r,cfg.call f args=some r->bV P ρ f args r){g:FuncId}{args:List AV}{r:AV}
 (hp:fX args) (hr:fG r) (h:zd5 P cfg g args zeo fun v _=>v=r):bV P ρ g args r:=by
 obtain⟨k,hk⟩:=Je hp;obtain⟨m,hm⟩:=hr;exact HX (m:=m) fit hD hc hk (bp (fun v H' e=>by rw[e];exact hm m (aM _) H') h)
theorem se{P:Program}{cfg:Cfg}(fit:Fit P){ρ:Nat->Int}(hD:mG cfg.dec ρ)(hc:∀f args r,cfg.call f args=some r->bV P ρ f args r){g:FuncId}{args:List AV}{r:AV}{m:Nat}
 (hp:fX args) (h:zd5 P cfg g args zeo fun v H'=>iceV H' m v=some r):bV P ρ g args r:=by
 obtain⟨k,hk⟩:=Je hp;exact HX (m:=m) fit hD hc hk h
structure En where
 f:FuncId
 ice:Bool
 sp:List AV->Option AV
def zeN:List En->FuncId->List AV->Option AV
 |[],_,_=>none
 |e::l,f,args=>match Nat.beq e.f f with
  |true=>e.sp args
  |false=>zeN l f args
def jx:List En->FuncId->Bool
 |[],_=>false
 |e::l,f=>match Nat.beq e.f f with
  |true=>e.ice
  |false=>jx l f
noncomputable def zdW(pls:List (Nat×Nat×Plan))(l:List En):Cfg:={keep:=fun _=>false,call:=zeN l,ice:=jx l,plan:=vd pls}
def zeO(P:Program)(ρ:Nat->Int)(e:En):Prop:=∀args r,e.sp args=some r->bV P ρ e.f args r
def fH(P:Program)(ρ:Nat->Int):List En->Prop
 |[]=>True
 |e::l=>zeO P ρ e/\fH P ρ l
theorem fH.look{P:Program}{ρ:Nat->Int}:∀{l:List En},fH P ρ l->∀f args r,zeN l f args=some r->bV P ρ f args r
 |[],_,_,_,_,h=>by simp[zeN]at h
 |e::l,hl,f,args,r,h=>by
  simp only[zeN]at h;split at h
  .rename_i hf;rw[<-iV hf];exact hl.1 args r h
  .exact fH.look hl.2 f args r h
noncomputable def cy{α:Type}(ok:α->Prop)(enc:α->List AV)(out:α->AV)(args:List AV):Option AV:=open Classical in
 if h:∃x,ok x/\enc x=args then some (out (Classical.choose h))else none
theorem DN{α:Type}{ok:α->Prop}{enc:α->List AV}{out:α->AV}(inj:∀x y,enc x=enc y->x=y){x:α}(hx:ok x):cy ok enc out (enc x)=some (out x):=by
 unfold cy;have h:∃y,ok y/\enc y=enc x:=⟨x,hx,rfl⟩;rw[dif_pos h];rw[inj _ _ (DL h).2]
theorem DO{α:Type}{ok:α->Prop}{enc:α->List AV}{out:α->AV}{args:List AV}(h:∀x,ok x->enc x≠args):cy ok enc out args=none:=by
 unfold cy;rw[dif_neg];rintro⟨x,hx,e⟩;exact h x hx e
theorem zeV{P:Program}{ρ:Nat->Int}{α:Type}{ok:α->Prop}{f:FuncId}{ice:Bool}{enc:α->List AV}{out:α->AV}(h:∀x,ok x->bV P ρ f (enc x) (out x)):zeO P ρ ⟨f,ice,cy ok enc out⟩:=fun args r hr=>by
 change cy ok enc out args=some r at hr;unfold cy at hr;split at hr
 .rename_i hx;simp only[aQ]at hr;subst hr;have:=h (Classical.choose hx) (DL hx).1;rw[(DL hx).2]at this;exact this
 .simp at hr
attribute [irreducible] cy
theorem DP{P:Program}{cfg:Cfg}{g:FuncId}{args:List AV}{r:AV}{H:Hp}(h:cfg.call g args=some r):zd5 P cfg g args H fun v H'=>v=r/\H'=H:=Qn h ⟨rfl,rfl⟩
theorem zeJ{P:Program}{pls:List (Nat×Nat×Plan)}{l:List En}{α:Type}{ok:α->Prop}{enc:α->List AV}{out:α->AV}(inj:∀x y,enc x=enc y->x=y){g:FuncId}{x:α}(hl:zeN l g (enc x)=cy ok enc out (enc x))(hx:ok x){H:Hp}:
 zd5 P (zdW pls l) g (enc x) H fun v H'=>v=out x/\H'=H:=DP Ja
theorem DQ{P:Program}{pls:List (Nat×Nat×Plan)}{l:List En}{α:Type}{ok:α->Prop}{enc:α->List AV}{out:α->AV}(inj:∀x y,enc x=enc y->x=y){g:FuncId}{x:α}(hl:∀asx,zeN l g asx=cy ok enc out asx)(hi:jx l g=true)(hx:ok x){args:List AV}{H H':Hp}
 (hn:∀y,ok y->enc y≠args) (ha:jY (eY 100) args H=some (enc x,H')) :
 zd5 P (zdW pls l) g args H fun v H2=>v=out x/\H2=H':=HW (by show zeN l g args=none;rw[hl];exact DO hn) hi rfl ha Ja ⟨rfl,rfl⟩
theorem tS{P:Program}{ρ:Nat->Int}(fit:Fit P){pls:List (Nat×Nat×Plan)}{l:List En}(hl:fH P ρ l){α:Type}(sz:α->Nat){f:FuncId}{ok:α->Prop}{enc:α->List AV}{out:α->AV}
 (hp:∀x,ok x->fX (enc x)) (hr:∀x,ok x->fG (out x))
 (h:∀x,ok x->zd5 P (zdW pls (⟨f,false,cy (fun y=>ok y/\sz y<sz x) enc out⟩::l)) f (enc x) zeo fun v _=>v=out x):∀x,ok x->bV P ρ f (enc x) (out x):=by
 have key:∀n x,sz x<n->ok x->bV P ρ f (enc x) (out x):=by
  intro n;induction n with
  |zero=>intro x hx;omega
  |succ n ih=>
   intro x hx hok;exact Jf (cfg:=zdW pls (⟨f,false,cy (fun y=>ok y/\sz y<sz x) enc out⟩::l)) fit (ly ρ) (fun g args r hg=>fH.look (l:=⟨f,false,cy (fun y=>ok y/\sz y<sz x) enc out⟩::l) ⟨zeV fun y hy=>ih y ac hy.1,hl⟩ g args r hg) (hp x hok) (hr x hok) (h x hok)
 exact fun x=>key (sz x+1) x (cL _)
theorem zfq{P:Program}{ρ:Nat->Int}(fit:Fit P){pls:List (Nat×Nat×Plan)}{l:List En}(hl:fH P ρ l){f:FuncId}{args:List AV}{r:AV}(hp:fX args)(hr:fG r)(h:zd5 P (zdW pls l) f args zeo fun v _=>v=r):bV P ρ f args r:=
 Jf fit (ly ρ) (fun g asx r hg=>fH.look hl g asx r hg) hp hr h
abbrev cq(n:Int):Int:=IntKind.wrap .i64 n
section
variable (q:Ex -> Int -> Bool)
end
section
variable {σ:Type} (q:St -> Int -> σ -> Bool × σ)
end
mutual
def Ex.sz:Ex->Nat
 | .mk _ _ s _ ks=>1+s.length+zfs ks
def zfs:List Ex->Nat
 |[]=>0
 |e::es=>1+e.sz+zfs es
end
mutual
def St.sz:St->Nat
 | .mk _ nm to _ a v args th el=>1+nm.length+to.length+a.sz+v.sz+zfs args+zep th+zep el
def zep:List St->Nat
 |[]=>0
 |x::l=>1+x.sz+zep l
end
def zfR:List (List UInt8)->Nat
 |[]=>0
 |s::l=>1+s.length+zfR l
def Fu.sz(f:Fu):Nat:=1+f.name.length+zfR f.params+zfR f.locals+zep f.body+f.value.sz
def iZ:List Fu->Nat
 |[]=>0
 |f::l=>1+f.sz+iZ l
def zf2:List Ar->Nat
 |[]=>0
 |a::l=>1+a.name.length+zf2 l
def Pr.sz(p:Pr):Nat:=1+zf2 p.arrays+iZ p.funcs
theorem sf:∀l:List Ex,l.length<=zfs l
 |[]=>aM _
 |e::es=>by have:=sf es;simp only[fj,zfs];omega
theorem tT:∀l:List St,l.length<=zep l
 |[]=>aM _
 |e::es=>by have:=tT es;simp only[fj,zep];omega
theorem zgm:∀l:List (List UInt8),l.length<=zfR l
 |[]=>aM _
 |e::es=>by have:=zgm es;simp only[fj,zfR];omega
theorem qQ:∀l:List Fu,l.length<=iZ l
 |[]=>aM _
 |e::es=>by have:=qQ es;simp only[fj,iZ];omega
theorem qR:∀l:List Ar,l.length<=zf2 l
 |[]=>aM _
 |e::es=>by have:=qR es;simp only[fj,zf2];omega
theorem zgB:∀{l:List Ex}{x:Ex},x∈l->x.sz<zfs l
 |[],_,h=>by simp at h
 |e::es,x,h=>by
  rcases iu.1 h with rfl|h
  .simp only[zfs];omega
  .have:=zgB h;simp only[zfs];omega
theorem zgw:∀{l:List St}{x:St},x∈l->x.sz<zep l
 |[],_,h=>by simp at h
 |e::es,x,h=>by
  rcases iu.1 h with rfl|h
  .simp only[zep];omega
  .have:=zgw h;simp only[zep];omega
theorem DR:∀{l:List (List UInt8)}{x:List UInt8},x∈l->x.length<zfR l
 |[],_,h=>by simp at h
 |e::es,x,h=>by
  rcases iu.1 h with rfl|h
  .simp only[zfR];omega
  .have:=DR h;simp only[zfR];omega
theorem sg:∀{l:List Fu}{x:Fu},x∈l->x.sz<iZ l
 |[],_,h=>by simp at h
 |e::es,x,h=>by
  rcases iu.1 h with rfl|h
  .simp only[iZ];omega
  .have:=sg h;simp only[iZ];omega
theorem Ex.sz_eq(e:Ex):e.sz=1+e.name.length+zfs e.kids:=by cases e;simp only[Ex.sz,Ex.name,Ex.kids]
theorem St.sz_eq(x:St):x.sz=1+x.name.length+x.to.length+x.at_.sz+x.value.sz+zfs x.args+zep x.thn+zep x.els:=by cases x;simp only[St.sz,St.name,St.to,St.at_,St.value,St.args,St.thn,St.els]
theorem Ex.pure(x:Ex):fX x.cells:=by
 have key:∀n (x:Ex),x.sz<n->fX x.cells:=by
  intro n;induction n with
  |zero=>intro x h;omega
  |succ n ih=>
   intro x h;rw[oV];refine .cons (.int _ _) (.cons (.int _ _) (.cons (.str _) (.cons (.int _ _) (.cons (.map fun y hy=>ih y ?_) .nil))));have:=zgB hy;have:=x.sz_eq;omega
 exact key _ x (cL _)
theorem z9(l:List Ex):fG (.lst (l.map Ex.cells)):=.map fun x _=>x.pure
theorem St.pure(x:St):fX x.cells:=by
 have key:∀n (x:St),x.sz<n->fX x.cells:=by
  intro n;induction n with
  |zero=>intro x h;omega
  |succ n ih=>
   intro x h;rw[tK];have:=x.sz_eq;refine .cons (.int _ _) (.cons (.str _) (.cons (.str _) (.cons (.int _ _) (.cons (.int _ _) (.cons (.int _ _) (.cons (.str _) (.cons (.int _ _) (.cons (z9 _) (.cons (.int _ _) (.cons (.int _ _) (.cons (.str _) (.cons (.int _ _) (.cons (z9 _) (.cons (z9 _) (.cons (.map fun y hy=>ih y ?_) (.cons (.map fun y hy=>ih y ?_) .nil))))))))))))))))
   .have:=zgw hy;omega
   .have:=zgw hy;omega
 exact key _ x (cL _)
theorem xE(l:List St):fG (.lst (l.map St.cells)):=.map fun x _=>x.pure
theorem xF(l:List (List UInt8)):fG (fL l):=.map fun x _=>.cons (.str _) .nil
theorem Fu.pure(x:Fu):fX x.cells:=by
 rw[xA];exact .cons (.str _) (.cons (xF _) (.cons (xF _) (.cons (xE _) (.cons (.int _ _) (.cons (.int _ _) (.cons (.str _) (.cons (.int _ _) (.cons (z9 _) .nil))))))))
theorem Ar.pure(x:Ar):fX x.cells:=.cons (.str _) (.cons (.int _ _) .nil)
theorem Pr.pure(x:Pr):fX x.cells:=.cons (.map fun x _=>x.pure) (.cons (.map fun x _=>x.pure) .nil)
theorem oY{α β:Type}{f:α->β}:∀{a b:List α},(∀x∈a,∀y,f x=f y->x=y)->a.map f=b.map f->a=b
 |[],[],_,_=>rfl
 |[],_::_,_,h=>by simp at h
 |_::_,[],_,h=>by simp at h
 |x::a,y::b,hf,h=>by
  simp only[eF,eD]at h;rw[hf x fm y h.1,oY (fun z hz=>hf z (gF _ hz)) h.2]
theorem Ex.ext'{x y:Ex}(h0:x.kind=y.kind)(h1:x.n=y.n)(h2:x.name=y.name)(h3:x.op=y.op)(h4:x.kids=y.kids):x=y:=by
 cases x;cases y;simp only[Ex.kind,Ex.n,Ex.name,Ex.op,Ex.kids]at *;simp[*]
theorem Ex.inj{x y:Ex}(h:x.cells=y.cells):x=y:=by
 have key:∀n (x:Ex),x.sz<n->∀y,x.cells=y.cells->x=y:=by
  intro n;induction n with
  |zero=>intro x h;omega
  |succ n ih=>
   intro x h y e;rw[oV,oV]at e;simp only[eD,AV.int.injEq,AV.str.injEq,AV.lst.injEq,mJ,aX]at e;obtain⟨e0,e1,e2,e3,e4⟩:=e;refine Ex.ext' e0 e1 e2 e3 (oY (fun z hz=>ih z ?_) e4);have:=zgB hz;have:=x.sz_eq;omega
 exact key _ x (cL _) y h
theorem Ac{a b:List Ex}(h:a.map Ex.cells=b.map Ex.cells):a=b:=oY (fun _ _ _=>Ex.inj) h
theorem St.ext'{x y:St}(h0:x.kind=y.kind)(h1:x.name=y.name)(h2:x.to=y.to)(h3:x.n=y.n)(h4:x.at_=y.at_)(h5:x.value=y.value)(h6:x.args=y.args)(h7:x.thn=y.thn)(h8:x.els=y.els):x=y:=by
 cases x;cases y;simp only[St.kind,St.name,St.to,St.n,St.at_,St.value,St.args,St.thn,St.els]at *;simp[*]
theorem St.inj{x y:St}(h:x.cells=y.cells):x=y:=by
 have key:∀n (x:St),x.sz<n->∀y,x.cells=y.cells->x=y:=by
  intro n;induction n with
  |zero=>intro x h;omega
  |succ n ih=>
   intro x h y e;have hs:=x.sz_eq;rw[tK,tK]at e;simp only[eD,AV.int.injEq,AV.str.injEq,AV.lst.injEq,mJ,aX]at e;obtain⟨e0,e1,e2,e3,a0,a1,a2,a3,a4,b0,b1,b2,b3,b4,e6,e7,e8⟩:=e;refine St.ext' e0 e1 e2 e3 (Ex.ext' a0 a1 a2 a3 (Ac a4)) (Ex.ext' b0 b1 b2 b3 (Ac b4)) (Ac e6) (oY (fun z hz=>ih z ?_) e7) (oY (fun z hz=>ih z ?_) e8)
   .have:=zgw hz;omega
   .have:=zgw hz;omega
 exact key _ x (cL _) y h
theorem Ad{a b:List St}(h:a.map St.cells=b.map St.cells):a=b:=oY (fun _ _ _=>St.inj) h
theorem xG{a b:List (List UInt8)}(h:(a.map fun s=>[AV.str s])=b.map fun s=>[AV.str s]):a=b:=oY (fun x _ y e=>xD) h
theorem Fu.inj{x y:Fu}(h:x.cells=y.cells):x=y:=by
 obtain⟨n,p,l,b,v⟩:=x;obtain⟨n',p',l',b',v'⟩:=y;rw[xA,xA]at h;simp only[eD,AV.int.injEq,AV.str.injEq,AV.lst.injEq,mJ,aX]at h;obtain⟨e0,e1,e2,e3,b0,b1,b2,b3,b4⟩:=h;rw[e0,xG e1,xG e2,Ad e3,Ex.ext' b0 b1 b2 b3 (Ac b4)]
theorem Ar.inj{x y:Ar}(h:x.cells=y.cells):x=y:=by
 obtain⟨n,p⟩:=x;obtain⟨n',p'⟩:=y;simp only[Ar.cells,eD,AV.int.injEq,AV.str.injEq,mJ,aX]at h;rw[h.1,h.2]
theorem Pr.inj{x y:Pr}(h:x.cells=y.cells):x=y:=by
 obtain⟨n,p⟩:=x;obtain⟨n',p'⟩:=y;simp only[Pr.cells,eD,AV.lst.injEq,mJ,aX]at h;rw[oY (fun _ _ _=>Ar.inj) h.1,oY (fun _ _ _=>Fu.inj) h.2]
theorem zgt(l:List Int):fG (zeG l):=.map fun x _=>.cons (.int _ _) .nil
theorem Nd.pure(x:Nd):fX x.cells:=.cons (.int _ _) (.cons (.int _ _) (.cons (zgt _) .nil))
def vz:=@Nd.pure
theorem Gr.pure(x:Gr):fX x.cells:=.cons (.str _) (.cons (.int _ _) (.cons (.map fun y _=>y.pure) (.cons (.int _ _) (.cons (.int _ _) .nil))))
theorem Un.pure(x:Un):fX x.cells:=.cons (.map fun y _=>y.pure) (.cons (.map fun y _=>y.pure) .nil)
theorem Jg{a b:List Int}(h:(a.map fun n=>[AV.int .i64 n])=b.map fun n=>[AV.int .i64 n]):a=b:=oY (fun x _ y e=>xD) h
theorem Nd.inj{x y:Nd}(h:x.cells=y.cells):x=y:=by
 obtain⟨n,p,k⟩:=x;obtain⟨n',p',k'⟩:=y;simp only[Nd.cells,eD,AV.int.injEq,AV.lst.injEq,mJ,aX]at h;rw[h.1,h.2.1,Jg h.2.2]
def vA:=@Nd.inj
def sh(n:Int):Bool:=(decide (97<=n)&&decide (n<=122))||(decide (65<=n)&&decide (n<=90))||decide (n=95)
def qS(n:Int):Bool:=decide (48<=n)&&decide (n<=57)
def sk(b:UInt8):Bool:=sh b.toNat||qS b.toNat
def p9:List UInt8->Nat
 |[]=>0
 |b::s=>if sk b then p9 s+1 else 0
def sm(s:List UInt8):Bool:=decide (1<=p9 s)&&decide (p9 s=s.length)&&decide (s.length<=16)&&(match s with|b::_=>!qS b.toNat|[]=>true)
def tU(s:List UInt8):Bool:=decide (s=[97,114,114,97,121])||decide (s=[102,117,110,99])||decide (s=[118,97,114])||decide (s=[114,101,116,117,114,110])||decide (s=[105,102])||decide (s=[101,108,115,101])||decide (s=[119,104,105,108,101])||decide (s=[111,117,116])||decide (s=[116,114,97,112])
def zfG(s:List UInt8):Bool:=sm s && !tU s
end Go.Ab
