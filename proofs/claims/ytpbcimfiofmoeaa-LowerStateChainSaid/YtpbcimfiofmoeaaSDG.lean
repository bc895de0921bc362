/- Parts: Rules, AbPure, Spec4, TreeP, Lex. -/
import Derived.Test.YtpbcimfiofmoeaaSDF
set_option linter.unusedSimpArgs false
set_option linter.unusedVariables false
set_option linter.unusedSectionVars false
set_option linter.defProp false
set_option maxHeartbeats 32000000
namespace Go.Proofs.Ytpbcimfiofmoeaa
set_option maxRecDepth 20000
open Go Go.Ab
def sN:=And.intro Bool.not_true Bool.not_false
def sD:=And.intro @decide_eq_true_eq @decide_eq_false_iff_not
section
variable {P:Program} {cfg:Cfg} {f:FuncId} {l:List SOp} {E:Env} {H H':Hp} {Q:Env → Hp → Prop} {d:Nat} {v a b:AV} {x y:Operand} {t u:TypeId}
def OpV (P:Program) (cfg:Cfg) (f:FuncId) (op:Op) (E:Env) (H:Hp) (v:AV) (H':Hp):Prop:=∃ n,yI P cfg (ev P cfg n) f E H op=.val v H'
theorem OpV.of {op:Op} (h:∀ Q:Env→Hp→Prop,WpL P cfg f [] (T.set E 0 (some v)) H' Q→WpL P cfg f [⟨some 0,op,none⟩] E H Q):OpV P cfg f op E H v H':=by
 have h1:=h (fun E2 H2=>E2.at 0=v∧H2=H') (WpL.nil ⟨by rw[at_set];rfl,rfl⟩)
 unfold WpL at h1
 simp only[]at h1
 unfold zdT at h1
 obtain⟨n,w,H2,h2,h3⟩:=h1
 unfold WpL at h3
 obtain⟨h4,rfl⟩:=h3
 have:(zA E (some 0) w).at 0=w:=by simp only[zA,at_set,beq_self_eq_true,cond_true]
 rw[this]at h4
 exact⟨n,by rw[h2,h4]⟩
theorem zhi {op:Op} (h:∀ Q:Env→Hp→Prop,WpL P cfg f [] E H' Q→WpL P cfg f [⟨none,op,none⟩] E H Q):∃ v,OpV P cfg f op E H v H':=by
 have h1:=h (fun E2 H2=>H2=H') (WpL.nil rfl)
 unfold WpL at h1
 simp only[]at h1
 unfold zdT at h1
 obtain⟨n,w,H2,h2,h3⟩:=h1
 unfold WpL at h3
 subst h3
 exact⟨w,n,h2⟩
theorem OpV.go {op:Op} (hk:WpL P cfg f l (T.set E d (some v)) H' Q) (h:OpV P cfg f op E H v H'):WpL P cfg f (⟨some d,op,none⟩::l) E H Q:=by
 obtain⟨n,h⟩:=h
 unfold WpL
 show zdT _ _ _ _ _ _ _
 unfold zdT
 exact⟨n,v,H',h,hk⟩
theorem znL {op:Op} (hk:WpL P cfg f l E H' Q) (h:∃ v,OpV P cfg f op E H v H'):WpL P cfg f (⟨none,op,none⟩::l) E H Q:=by
 obtain⟨v,n,h⟩:=h
 unfold WpL
 show zdT _ _ _ _ _ _ _
 unfold zdT
 exact⟨n,v,H',h,hk⟩
attribute [irreducible] OpV
theorem Rx.nl {Q2 K:Env→Hp→Prop}{R:Prop} (h:R) (hK:∀ E H,Q2 E H→K E H:=by assumption) (e:Q2 E H=R:=by first|(dsimp only[zb9,zca];first|done|exact rfl)|(dsimp only[];first|done|exact rfl)|exact rfl):WpL P cfg f [] E H K:=WpL.nil (hK _ _ (e ▸ h))
theorem zw {R:Prop} (h:R) (e:Q E H=R:=by first|(dsimp only[];first|done|exact rfl)|exact rfl):WpL P cfg f [] E H Q:=WpL.nil (e ▸ h)
theorem zx {need:List (Nat×Nat)}{tr:List Rc}{Q2:Env→Hp→Prop}{K:List Rc→Env→Hp→Prop}{R:Prop} (h1:zdl P cfg need tr H) (h:R) (hK:∀ tr E' H',zdl P cfg need tr H'→Q2 E' H'→K tr E' H':=by assumption) (e:Q2 E H=R:=by first|(dsimp only[zb9,zca];first|done|exact rfl)|(dsimp only[];first|done|exact rfl)|exact rfl):WpT P cfg f [] tr E H K:=WpT.nil (hK _ _ _ h1 (e ▸ h))
theorem zaF {g:FuncId}{ar:List AV}{r:AV}{K:AV→Hp→Prop}{R:Prop} (c:zr P cfg g ar H fun v H'=>v=r∧H'=H) (h:R) (e:K r H=R:=by first|(dsimp only[zA];first|done|exact rfl)|exact rfl):zr P cfg g ar H K:=zr.mono (by rintro _ _ ⟨rfl,rfl⟩;exact e ▸ h) c
theorem Ox.mv (h:zn E x=some v:=by((first|simp only[sB,Nat.reduceBEq,ne_eq,not_false_eq_true, *,-hK]|simp only[sB,Nat.reduceBEq,ne_eq,not_false_eq_true, *]|skip);first|done|with_reducible rfl)):OpV P cfg f (.move x) E H v H:=OpV.of fun Q hk=>WpL.move h hk
theorem Ox.as (h:zn E x=some v:=by((first|simp only[sB,Nat.reduceBEq,ne_eq,not_false_eq_true, *,-hK]|simp only[sB,Nat.reduceBEq,ne_eq,not_false_eq_true, *]|skip);first|done|with_reducible rfl)):OpV P cfg f (.assign x) E H v H:=OpV.of fun Q hk=>WpL.assign h hk
theorem Ox.pk {z:Operand}{t:Bool} (h:zn E x=some (.bool t):=by((first|simp only[sB,Nat.reduceBEq,ne_eq,not_false_eq_true, *,-hK]|simp only[sB,Nat.reduceBEq,ne_eq,not_false_eq_true, *]|skip);first|done|with_reducible rfl)) (h1:zn E y=some a:=by((first|simp only[sB,Nat.reduceBEq,ne_eq,not_false_eq_true, *,-hK]|simp only[sB,Nat.reduceBEq,ne_eq,not_false_eq_true, *]|skip);first|done|with_reducible rfl)) (h2:zn E z=some b:=by((first|simp only[sB,Nat.reduceBEq,ne_eq,not_false_eq_true, *,-hK]|simp only[sB,Nat.reduceBEq,ne_eq,not_false_eq_true, *]|skip);first|done|with_reducible rfl)):OpV P cfg f (.pick x y z) E H (zdD t a b) H:=OpV.of fun Q hk=>WpL.pick h h1 h2 hk
theorem Ox.ld (h:zn E x=some a:=by((first|simp only[sB,Nat.reduceBEq,ne_eq,not_false_eq_true, *,-hK]|simp only[sB,Nat.reduceBEq,ne_eq,not_false_eq_true, *]|skip);first|done|with_reducible rfl)) (h1:zaZ P H t a=some v:=by((first|simp only[sB,sO,tyF,Nat.reduceBEq,Nat.reduceAdd,Nat.reduceLeDiff,ne_eq,not_false_eq_true, *,-hK]|simp only[sB,sO,tyF,Nat.reduceBEq,Nat.reduceAdd,Nat.reduceLeDiff,ne_eq,not_false_eq_true, *]|skip);first|done|with_reducible rfl)):OpV P cfg f (.load t x) E H v H:=OpV.of fun Q hk=>WpL.load h h1 hk
theorem Ox.st (h:zn E x=some a:=by((first|simp only[sB,Nat.reduceBEq,ne_eq,not_false_eq_true, *,-hK]|simp only[sB,Nat.reduceBEq,ne_eq,not_false_eq_true, *]|skip);first|done|with_reducible rfl)) (h1:zn E y=some b:=by((first|simp only[sB,Nat.reduceBEq,ne_eq,not_false_eq_true, *,-hK]|simp only[sB,Nat.reduceBEq,ne_eq,not_false_eq_true, *]|skip);first|done|with_reducible rfl)) (h2:zbr P H t a b=some H':=by((first|simp only[sB,sO,tyF,Nat.reduceBEq,Nat.reduceAdd,Nat.reduceLeDiff,ne_eq,not_false_eq_true, *,-hK]|simp only[sB,sO,tyF,Nat.reduceBEq,Nat.reduceAdd,Nat.reduceLeDiff,ne_eq,not_false_eq_true, *]|skip);first|done|with_reducible rfl)):∃ v,OpV P cfg f (.store t x y) E H v H':=zhi fun Q hk=>WpL.store h h1 h2 hk
theorem Ox.nc {r o:Nat} (h:zn E x=some (.ptr r o):=by((first|simp only[sB,Nat.reduceBEq,ne_eq,not_false_eq_true, *,-hK]|simp only[sB,Nat.reduceBEq,ne_eq,not_false_eq_true, *]|skip);first|done|with_reducible rfl)):OpV P cfg f (.nilCheck x) E H (.ptr r o) H:=OpV.of fun Q hk=>WpL.nilCheck h hk
theorem Ox.bn {op:BinOp} (h:zn E x=some a:=by((first|simp only[sB,Nat.reduceBEq,ne_eq,not_false_eq_true, *,-hK]|simp only[sB,Nat.reduceBEq,ne_eq,not_false_eq_true, *]|skip);first|done|with_reducible rfl)) (h1:zn E y=some b:=by((first|simp only[sB,Nat.reduceBEq,ne_eq,not_false_eq_true, *,-hK]|simp only[sB,Nat.reduceBEq,ne_eq,not_false_eq_true, *]|skip);first|done|with_reducible rfl)) (h2:jJ P cfg.dec op t a b=some v:=by((first|simp only[sB,sO,tyF,Nat.reduceBEq,Nat.reduceAdd,Nat.reduceLeDiff,ne_eq,not_false_eq_true, *,-hK]|simp only[sB,sO,tyF,Nat.reduceBEq,Nat.reduceAdd,Nat.reduceLeDiff,ne_eq,not_false_eq_true, *]|skip);first|done|with_reducible rfl)):OpV P cfg f (.binOp op t x y u) E H v H:=OpV.of fun Q hk=>WpL.bin h h1 h2 hk
theorem Ox.un {op:UnOp} (h:zn E x=some a:=by((first|simp only[sB,Nat.reduceBEq,ne_eq,not_false_eq_true, *,-hK]|simp only[sB,Nat.reduceBEq,ne_eq,not_false_eq_true, *]|skip);first|done|with_reducible rfl)) (h2:unA op a=some v:=by((first|simp only[sB,sO,tyF,Nat.reduceBEq,Nat.reduceAdd,Nat.reduceLeDiff,ne_eq,not_false_eq_true, *,-hK]|simp only[sB,sO,tyF,Nat.reduceBEq,Nat.reduceAdd,Nat.reduceLeDiff,ne_eq,not_false_eq_true, *]|skip);first|done|with_reducible rfl)):OpV P cfg f (.unOp op t x) E H v H:=OpV.of fun Q hk=>WpL.un h h2 hk
theorem Ox.cv (h:zn E x=some a:=by((first|simp only[sB,Nat.reduceBEq,ne_eq,not_false_eq_true, *,-hK]|simp only[sB,Nat.reduceBEq,ne_eq,not_false_eq_true, *]|skip);first|done|with_reducible rfl)) (h2:jo P H t u a=some v:=by((first|simp only[sB,sO,tyF,Nat.reduceBEq,Nat.reduceAdd,Nat.reduceLeDiff,ne_eq,not_false_eq_true, *,-hK]|simp only[sB,sO,tyF,Nat.reduceBEq,Nat.reduceAdd,Nat.reduceLeDiff,ne_eq,not_false_eq_true, *]|skip);first|done|with_reducible rfl)):OpV P cfg f (.convert t u x) E H v H:=OpV.of fun Q hk=>WpL.convert h h2 hk
theorem Ox.fa {i:Nat} (h:zn E x=some a:=by((first|simp only[sB,Nat.reduceBEq,ne_eq,not_false_eq_true, *,-hK]|simp only[sB,Nat.reduceBEq,ne_eq,not_false_eq_true, *]|skip);first|done|with_reducible rfl)) (h2:zg P t a i=some v:=by((first|simp only[sB,sO,tyF,Nat.reduceBEq,Nat.reduceAdd,Nat.reduceLeDiff,ne_eq,not_false_eq_true, *,-hK]|simp only[sB,sO,tyF,Nat.reduceBEq,Nat.reduceAdd,Nat.reduceLeDiff,ne_eq,not_false_eq_true, *]|skip);first|done|with_reducible rfl)):OpV P cfg f (.fieldAddr t x i) E H v H:=OpV.of fun Q hk=>WpL.fieldAddr h h2 hk
theorem Ox.fi {i:Nat} (h:zn E x=some a:=by((first|simp only[sB,Nat.reduceBEq,ne_eq,not_false_eq_true, *,-hK]|simp only[sB,Nat.reduceBEq,ne_eq,not_false_eq_true, *]|skip);first|done|with_reducible rfl)) (h2:zN P t a i=some v:=by((first|simp only[sB,sO,tyF,Nat.reduceBEq,Nat.reduceAdd,Nat.reduceLeDiff,ne_eq,not_false_eq_true, *,-hK]|simp only[sB,sO,tyF,Nat.reduceBEq,Nat.reduceAdd,Nat.reduceLeDiff,ne_eq,not_false_eq_true, *]|skip);first|done|with_reducible rfl)):OpV P cfg f (.field t x i) E H v H:=OpV.of fun Q hk=>WpL.field h h2 hk
theorem Ox.ia (h:zn E x=some a:=by((first|simp only[sB,Nat.reduceBEq,ne_eq,not_false_eq_true, *,-hK]|simp only[sB,Nat.reduceBEq,ne_eq,not_false_eq_true, *]|skip);first|done|with_reducible rfl)) (h1:zn E y=some b:=by((first|simp only[sB,Nat.reduceBEq,ne_eq,not_false_eq_true, *,-hK]|simp only[sB,Nat.reduceBEq,ne_eq,not_false_eq_true, *]|skip);first|done|with_reducible rfl)) (h2:zq P t a b=some v:=by((first|simp only[sB,sO,tyF,Nat.reduceBEq,Nat.reduceAdd,Nat.reduceLeDiff,ne_eq,not_false_eq_true, *,-hK]|simp only[sB,sO,tyF,Nat.reduceBEq,Nat.reduceAdd,Nat.reduceLeDiff,ne_eq,not_false_eq_true, *]|skip);first|done|with_reducible rfl)):OpV P cfg f (.indexAddr t x y) E H v H:=OpV.of fun Q hk=>WpL.indexAddr h h1 h2 hk
theorem Ox.ix (h:zn E x=some a:=by((first|simp only[sB,Nat.reduceBEq,ne_eq,not_false_eq_true, *,-hK]|simp only[sB,Nat.reduceBEq,ne_eq,not_false_eq_true, *]|skip);first|done|with_reducible rfl)) (h1:zn E y=some b:=by((first|simp only[sB,Nat.reduceBEq,ne_eq,not_false_eq_true, *,-hK]|simp only[sB,Nat.reduceBEq,ne_eq,not_false_eq_true, *]|skip);first|done|with_reducible rfl)) (h2:zbX P t a b=some v:=by((first|simp only[sB,sO,tyF,Nat.reduceBEq,Nat.reduceAdd,Nat.reduceLeDiff,ne_eq,not_false_eq_true, *,-hK]|simp only[sB,sO,tyF,Nat.reduceBEq,Nat.reduceAdd,Nat.reduceLeDiff,ne_eq,not_false_eq_true, *]|skip);first|done|with_reducible rfl)):OpV P cfg f (.index t x y) E H v H:=OpV.of fun Q hk=>WpL.index h h1 h2 hk
theorem Ox.ex {i:Nat} (h:zn E x=some a:=by((first|simp only[sB,Nat.reduceBEq,ne_eq,not_false_eq_true, *,-hK]|simp only[sB,Nat.reduceBEq,ne_eq,not_false_eq_true, *]|skip);first|done|with_reducible rfl)) (h2:Ab.extract a i=some v:=by((first|simp only[sB,sO,tyF,Nat.reduceBEq,Nat.reduceAdd,Nat.reduceLeDiff,ne_eq,not_false_eq_true, *,-hK]|simp only[sB,sO,tyF,Nat.reduceBEq,Nat.reduceAdd,Nat.reduceLeDiff,ne_eq,not_false_eq_true, *]|skip);first|done|with_reducible rfl)):OpV P cfg f (.extract x i) E H v H:=OpV.of fun Q hk=>WpL.extract h h2 hk
theorem Ox.al {z:List AV}{n:Nat} (h:yl P t=some z:=by((first|simp only[sB,sO,tyF,Nat.reduceBEq,Nat.reduceAdd,Nat.reduceLeDiff,ne_eq,not_false_eq_true, *,-hK]|simp only[sB,sO,tyF,Nat.reduceBEq,Nat.reduceAdd,Nat.reduceLeDiff,ne_eq,not_false_eq_true, *]|skip);first|done|with_reducible rfl)) (hn:some H.next=some n:=by((try simp only[zb,ze,zH,Nat.add_assoc,Nat.reduceAdd,Nat.zero_add]);with_reducible rfl)):OpV P cfg f (.alloc t) E H (.ptr n 0) (H.alloc (.cells z 0 true)):=OpV.of fun Q hk=>WpL.alloc h hn hk
theorem Ox.bx {cs:List AV}{n:Nat} (h:zn E x=some a:=by((first|simp only[sB,Nat.reduceBEq,ne_eq,not_false_eq_true, *,-hK]|simp only[sB,Nat.reduceBEq,ne_eq,not_false_eq_true, *]|skip);first|done|with_reducible rfl)) (hc:some a.cells=some cs:=by((first|simp only[sB,sO,tyF,Nat.reduceBEq,Nat.reduceAdd,Nat.reduceLeDiff,ne_eq,not_false_eq_true, *,-hK]|simp only[sB,sO,tyF,Nat.reduceBEq,Nat.reduceAdd,Nat.reduceLeDiff,ne_eq,not_false_eq_true, *]|skip);first|done|with_reducible rfl)) (hn:some H.next=some n:=by((try simp only[zb,ze,zH,Nat.add_assoc,Nat.reduceAdd,Nat.zero_add]);with_reducible rfl)):OpV P cfg f (.box t x) E H (.ptr n 0) (H.alloc (.cells cs 0 true)):=OpV.of fun Q hk=>WpL.box h hc hn hk
theorem Ox.bd {parts:Array (Nat×Operand)}{ps:List (Nat×AV)} (h:jS E parts.toList=some ps:=by((first|simp only[sB,Nat.reduceBEq,jS,ne_eq,not_false_eq_true, *,-hK]|simp only[sB,Nat.reduceBEq,jS,ne_eq,not_false_eq_true, *]|skip);first|done|with_reducible rfl)) (h2:yj P t ps=some v:=by((first|simp only[sB,sO,tyF,Nat.reduceBEq,Nat.reduceAdd,Nat.reduceLeDiff,ne_eq,not_false_eq_true, *,-hK]|simp only[sB,sO,tyF,Nat.reduceBEq,Nat.reduceAdd,Nat.reduceLeDiff,ne_eq,not_false_eq_true, *]|skip);first|done|with_reducible rfl)):OpV P cfg f (.build t parts) E H v H:=OpV.of fun Q hk=>WpL.build h h2 hk
theorem Ox.bs {n:Nat}{parts:Array (Nat×Operand)}{ps:List (Nat×AV)} (h:jS E parts.toList=some ps:=by((first|simp only[sB,Nat.reduceBEq,jS,ne_eq,not_false_eq_true, *,-hK]|simp only[sB,Nat.reduceBEq,jS,ne_eq,not_false_eq_true, *]|skip);first|done|with_reducible rfl)) (h2:zI P H t n ps=some (v,H'):=by((first|simp only[sB,sO,tyF,Nat.reduceBEq,Nat.reduceAdd,Nat.reduceLeDiff,ne_eq,not_false_eq_true, *,-hK]|simp only[sB,sO,tyF,Nat.reduceBEq,Nat.reduceAdd,Nat.reduceLeDiff,ne_eq,not_false_eq_true, *]|skip);first|done|with_reducible rfl)):OpV P cfg f (.buildSlice t n parts) E H v H':=OpV.of fun Q hk=>WpL.buildSlice h h2 hk
theorem Ox.mm {n:Nat} (hn:some H.next=some n:=by((try simp only[zb,ze,zH,Nat.add_assoc,Nat.reduceAdd,Nat.zero_add]);with_reducible rfl)):OpV P cfg f (.makeMap t none) E H (.map n) (H.alloc (.map [])):=OpV.of fun Q hk=>WpL.makeMap hn hk
theorem Ox.ms (h:zn E x=some a:=by((first|simp only[sB,Nat.reduceBEq,ne_eq,not_false_eq_true, *,-hK]|simp only[sB,Nat.reduceBEq,ne_eq,not_false_eq_true, *]|skip);first|done|with_reducible rfl)) (h1:zn E y=some b:=by((first|simp only[sB,Nat.reduceBEq,ne_eq,not_false_eq_true, *,-hK]|simp only[sB,Nat.reduceBEq,ne_eq,not_false_eq_true, *]|skip);first|done|with_reducible rfl)) (h2:jB P H t a b=some (v,H'):=by((first|simp only[sB,sO,tyF,Nat.reduceBEq,Nat.reduceAdd,Nat.reduceLeDiff,ne_eq,not_false_eq_true, *,-hK]|simp only[sB,sO,tyF,Nat.reduceBEq,Nat.reduceAdd,Nat.reduceLeDiff,ne_eq,not_false_eq_true, *]|skip);first|done|with_reducible rfl)):OpV P cfg f (.makeSlice t x y) E H v H':=OpV.of fun Q hk=>WpL.makeSlice h h1 h2 hk
theorem Ox.lu {ok:Bool} (h:zn E x=some a:=by((first|simp only[sB,Nat.reduceBEq,ne_eq,not_false_eq_true, *,-hK]|simp only[sB,Nat.reduceBEq,ne_eq,not_false_eq_true, *]|skip);first|done|with_reducible rfl)) (h1:zn E y=some b:=by((first|simp only[sB,Nat.reduceBEq,ne_eq,not_false_eq_true, *,-hK]|simp only[sB,Nat.reduceBEq,ne_eq,not_false_eq_true, *]|skip);first|done|with_reducible rfl)) (h2:ji P H t a b ok=some v:=by((first|simp only[sB,sO,tyF,Nat.reduceBEq,Nat.reduceAdd,Nat.reduceLeDiff,ne_eq,not_false_eq_true, *,-hK]|simp only[sB,sO,tyF,Nat.reduceBEq,Nat.reduceAdd,Nat.reduceLeDiff,ne_eq,not_false_eq_true, *]|skip);first|done|with_reducible rfl)):OpV P cfg f (.lookup t x y ok) E H v H:=OpV.of fun Q hk=>WpL.lookup h h1 h2 hk
theorem Ox.mu {z:Operand}{c:AV} (h:zn E x=some a:=by((first|simp only[sB,Nat.reduceBEq,ne_eq,not_false_eq_true, *,-hK]|simp only[sB,Nat.reduceBEq,ne_eq,not_false_eq_true, *]|skip);first|done|with_reducible rfl)) (h1:zn E y=some b:=by((first|simp only[sB,Nat.reduceBEq,ne_eq,not_false_eq_true, *,-hK]|simp only[sB,Nat.reduceBEq,ne_eq,not_false_eq_true, *]|skip);first|done|with_reducible rfl)) (h2:zn E z=some c:=by((first|simp only[sB,Nat.reduceBEq,ne_eq,not_false_eq_true, *,-hK]|simp only[sB,Nat.reduceBEq,ne_eq,not_false_eq_true, *]|skip);first|done|with_reducible rfl)) (h3:yZ P H t a b c=some H':=by((first|simp only[sB,sO,tyF,Nat.reduceBEq,Nat.reduceAdd,Nat.reduceLeDiff,ne_eq,not_false_eq_true, *,-hK]|simp only[sB,sO,tyF,Nat.reduceBEq,Nat.reduceAdd,Nat.reduceLeDiff,ne_eq,not_false_eq_true, *]|skip);first|done|with_reducible rfl)):∃ v,OpV P cfg f (.mapUpdate t x y z) E H v H':=zhi fun Q hk=>WpL.mapUpdate h h1 h2 h3 hk
theorem Ox.mf {g:FuncId}{cap:Array Operand}{vs:List AV} (h:yO E cap.toList=some vs:=by((first|simp only[sB,Nat.reduceBEq,yO,List.cons_append,List.nil_append,ne_eq,not_false_eq_true, *,-hK]|simp only[sB,Nat.reduceBEq,yO,List.cons_append,List.nil_append,ne_eq,not_false_eq_true, *]|skip);first|done|with_reducible rfl)):OpV P cfg f (.makeFunc (.func g) #[] cap) E H (.clo g vs) H:=OpV.of fun Q hk=>WpL.makeFunc h hk
theorem Ox.sl {lo hi:Option Operand}{lv hv:Option AV} (h:zn E x=some a:=by((first|simp only[sB,Nat.reduceBEq,ne_eq,not_false_eq_true, *,-hK]|simp only[sB,Nat.reduceBEq,ne_eq,not_false_eq_true, *]|skip);first|done|with_reducible rfl)) (h1:jK E lo=some lv:=by((first|simp only[sB,Nat.reduceBEq,jK,ne_eq,not_false_eq_true, *,-hK]|simp only[sB,Nat.reduceBEq,jK,ne_eq,not_false_eq_true, *]|skip);first|done|with_reducible rfl)) (h2:jK E hi=some hv:=by((first|simp only[sB,Nat.reduceBEq,jK,ne_eq,not_false_eq_true, *,-hK]|simp only[sB,Nat.reduceBEq,jK,ne_eq,not_false_eq_true, *]|skip);first|done|with_reducible rfl)) (h3:zaP P H t a lv hv=some v:=by((first|simp only[sB,sO,tyF,Nat.reduceBEq,Nat.reduceAdd,Nat.reduceLeDiff,ne_eq,not_false_eq_true, *,-hK]|simp only[sB,sO,tyF,Nat.reduceBEq,Nat.reduceAdd,Nat.reduceLeDiff,ne_eq,not_false_eq_true, *]|skip);first|done|with_reducible rfl)):OpV P cfg f (.slice t x lo hi none) E H v H:=OpV.of fun Q hk=>WpL.slice h h1 h2 h3 hk
theorem Ox.ln {c:AV} (h:zn E x=some a:=by((first|simp only[sB,Nat.reduceBEq,ne_eq,not_false_eq_true, *,-hK]|simp only[sB,Nat.reduceBEq,ne_eq,not_false_eq_true, *]|skip);first|done|with_reducible rfl)) (h1:ye P H t a=some c:=by((first|simp only[sB,sO,tyF,Nat.reduceBEq,Nat.reduceAdd,Nat.reduceLeDiff,ne_eq,not_false_eq_true, *,-hK]|simp only[sB,sO,tyF,Nat.reduceBEq,Nat.reduceAdd,Nat.reduceLeDiff,ne_eq,not_false_eq_true, *]|skip);first|done|with_reducible rfl)):OpV P cfg f (.call ⟨.builtin .len,#[x],#[t]⟩) E H c H:=OpV.of fun Q hk=>WpL.len h h1 hk
theorem Ox.ap (h:zn E x=some a:=by((first|simp only[sB,Nat.reduceBEq,ne_eq,not_false_eq_true, *,-hK]|simp only[sB,Nat.reduceBEq,ne_eq,not_false_eq_true, *]|skip);first|done|with_reducible rfl)) (h1:zn E y=some b:=by((first|simp only[sB,Nat.reduceBEq,ne_eq,not_false_eq_true, *,-hK]|simp only[sB,Nat.reduceBEq,ne_eq,not_false_eq_true, *]|skip);first|done|with_reducible rfl)) (h2:zX P (cfg.keep f) H t u a b=some (v,H'):=by((first|simp only[sB,sO,tyF,Nat.reduceBEq,Nat.reduceAdd,Nat.reduceLeDiff,ne_eq,not_false_eq_true, *,-hK]|simp only[sB,sO,tyF,Nat.reduceBEq,Nat.reduceAdd,Nat.reduceLeDiff,ne_eq,not_false_eq_true, *]|skip);first|done|with_reducible rfl)):OpV P cfg f (.call ⟨.builtin .append,#[x,y],#[t,u]⟩) E H v H':=OpV.of fun Q hk=>WpL.append h h1 h2 hk
theorem Ox.mi {ts:Array TypeId}{k k':IntKind}{na nb:Int} (h:zn E x=some (.int k na):=by((first|simp only[sB,Nat.reduceBEq,ne_eq,not_false_eq_true, *,-hK]|simp only[sB,Nat.reduceBEq,ne_eq,not_false_eq_true, *]|skip);first|done|with_reducible rfl)) (h1:zn E y=some (.int k' nb):=by((first|simp only[sB,Nat.reduceBEq,ne_eq,not_false_eq_true, *,-hK]|simp only[sB,Nat.reduceBEq,ne_eq,not_false_eq_true, *]|skip);first|done|with_reducible rfl)):OpV P cfg f (.call ⟨.builtin .min,#[x,y],ts⟩) E H (.int k (min na nb)) H:=OpV.of fun Q hk=>WpL.min2 h h1 hk
theorem Ox.ma {ts:Array TypeId}{k k':IntKind}{na nb:Int} (h:zn E x=some (.int k na):=by((first|simp only[sB,Nat.reduceBEq,ne_eq,not_false_eq_true, *,-hK]|simp only[sB,Nat.reduceBEq,ne_eq,not_false_eq_true, *]|skip);first|done|with_reducible rfl)) (h1:zn E y=some (.int k' nb):=by((first|simp only[sB,Nat.reduceBEq,ne_eq,not_false_eq_true, *,-hK]|simp only[sB,Nat.reduceBEq,ne_eq,not_false_eq_true, *]|skip);first|done|with_reducible rfl)):OpV P cfg f (.call ⟨.builtin .max,#[x,y],ts⟩) E H (.int k (max na nb)) H:=OpV.of fun Q hk=>WpL.max2 h h1 hk
theorem Rx.o {op:Op} (hk:WpL P cfg f l (T.set E d (some v)) H' Q) (h:OpV P cfg f op E H v H':=by first|apply(Ox.mv)|apply(Ox.as)|apply(Ox.pk)|apply(Ox.ld)|apply(Ox.nc)|apply(Ox.bn)|apply(Ox.un)|apply(Ox.cv)|apply(Ox.fa)|apply(Ox.fi)|apply(Ox.ia)|apply(Ox.ix)|apply(Ox.ex)|apply(Ox.al)|apply(Ox.bx)|apply(Ox.bd)|apply(Ox.bs)|apply(Ox.mm)|apply(Ox.ms)|apply(Ox.lu)|apply(Ox.mf)|apply(Ox.sl)|apply(Ox.ln)|apply(Ox.ap)|apply(Ox.mi)|apply(Ox.ma)):WpL P cfg f (⟨some d,op,none⟩::l) E H Q:=OpV.go hk h
theorem Rx.on {op:Op} (hk:WpL P cfg f l E H' Q) (h:∃ v,OpV P cfg f op E H v H':=by first|apply(Ox.st)|apply(Ox.mu)):WpL P cfg f (⟨none,op,none⟩::l) E H Q:=znL hk h
theorem Rx.call {dd:Option Nat}{c:Call}{g:Operand}{k:FuncId}{cap vs ar:List AV} (hk:zr P cfg k ar H fun v H'=>WpL P cfg f l (zA E dd v) H' Q) (hc:c.callee=.value g:=by rfl) (hg:zn E g=some (.clo k cap):=by((first|simp only[sB,Nat.reduceBEq,ne_eq,not_false_eq_true, *,-hK]|simp only[sB,Nat.reduceBEq,ne_eq,not_false_eq_true, *]|skip);first|done|with_reducible rfl)) (hv:yO E c.args.toList=some vs:=by((first|simp only[sB,Nat.reduceBEq,yO,List.cons_append,List.nil_append,ne_eq,not_false_eq_true, *,-hK]|simp only[sB,Nat.reduceBEq,yO,List.cons_append,List.nil_append,ne_eq,not_false_eq_true, *]|skip);first|done|with_reducible rfl)) (ea:vs++cap=ar:=by simp only[List.cons_append,List.nil_append,List.append_nil];first|done|exact rfl):WpL P cfg f (⟨dd,.call c,none⟩::l) E H Q:=WpL.call hc hg hv (ea ▸ hk)
theorem Rx.gu {dd:Option Nat}{op:Op}{s:Nat}{t:Bool}{v:AV}{R:Prop} (hk:R) (h:some (E.at s)=some v:=by((first|simp only[sB,Nat.reduceBEq,ne_eq,not_false_eq_true, *,-hK]|simp only[sB,Nat.reduceBEq,ne_eq,not_false_eq_true, *]|skip);first|done|with_reducible rfl)) (hv:v=yp:=by with_reducible rfl) (e:WpL P cfg f l (zA E dd yp) H Q=R:=by first|(dsimp only[zA];first|done|exact rfl)|exact rfl):WpL P cfg f (⟨dd,op,some (s,t)⟩::l) E H Q:=zh1 h hv (e ▸ hk)
theorem Rx.gd {dd:Option Nat}{op:Op}{s:Nat}{tb t:Bool}{p1 p2 q1 q2 R:Prop} (h1:p1→q1→WpL P cfg f (⟨dd,op,none⟩::l) E H Q) (h2:p2→q2→R) (h:E.at s=.bool t:=by((first|simp only[sB,Nat.reduceBEq,ne_eq,not_false_eq_true, *,-hK]|simp only[sB,Nat.reduceBEq,ne_eq,not_false_eq_true, *]|skip);first|done|with_reducible rfl)) (e1:(t=tb)=p1:=by(try simp only[sN,reduceCtorEq]);first|done|exact rfl) (e2:(t=!tb)=p2:=by(try simp only[sN,reduceCtorEq]);first|done|exact rfl) (e3:p1=q1:=by(try simp only[sD]);first|done|exact rfl) (e4:p2=q2:=by(try simp only[sD]);first|done|exact rfl) (e:WpL P cfg f l (zA E dd yp) H Q=R:=by first|(dsimp only[zA];first|done|exact rfl)|exact rfl):WpL P cfg f (⟨dd,op,some (s,tb)⟩::l) E H Q:=WpL.guard h (fun k=>h1 (e1 ▸ k) (e3 ▸ e1 ▸ k)) (fun k=>e ▸ h2 (e2 ▸ k) (e4 ▸ e2 ▸ k))
theorem Rx.cd {N:Nat}{ca cb:SC}{Q:AX→Env→Hp→Prop}{t:Bool}{p1 p2 q1 q2:Prop} (h1:p1→q1→Wp P cfg f N ca E H Q) (h2:p2→q2→Wp P cfg f N cb E H Q) (hx:zn E x=some (.bool t):=by((first|simp only[sB,Nat.reduceBEq,ne_eq,not_false_eq_true, *,-hK]|simp only[sB,Nat.reduceBEq,ne_eq,not_false_eq_true, *]|skip);first|done|with_reducible rfl)) (e1:(t=true)=p1:=by(try simp only[sN,reduceCtorEq]);first|done|exact rfl) (e2:(t=false)=p2:=by(try simp only[sN,reduceCtorEq]);first|done|exact rfl) (e3:p1=q1:=by(try simp only[sD]);first|done|exact rfl) (e4:p2=q2:=by(try simp only[sD]);first|done|exact rfl):Wp P cfg f N (.cond x ca cb) E H Q:=Wp.cond hx (fun k=>h1 (e1 ▸ k) (e3 ▸ e1 ▸ k)) (fun k=>h2 (e2 ▸ k) (e4 ▸ e2 ▸ k))
theorem Oy.mv (h:zn E x=some v:=by((first|simp only[sB,Nat.reduceBEq,ne_eq,not_false_eq_true,decide_true,decide_false,Int.reduceEq,Int.reduceLE,Int.reduceToNat,Nat.mul_one, *,-hK]|simp only[sB,Nat.reduceBEq,ne_eq,not_false_eq_true,decide_true,decide_false,Int.reduceEq,Int.reduceLE,Int.reduceToNat,Nat.mul_one, *]|skip);first|done|with_reducible rfl)):OpV P cfg f (.move x) E H v H:=OpV.of fun Q hk=>WpL.move h hk
theorem Oy.as (h:zn E x=some v:=by((first|simp only[sB,Nat.reduceBEq,ne_eq,not_false_eq_true,decide_true,decide_false,Int.reduceEq,Int.reduceLE,Int.reduceToNat,Nat.mul_one, *,-hK]|simp only[sB,Nat.reduceBEq,ne_eq,not_false_eq_true,decide_true,decide_false,Int.reduceEq,Int.reduceLE,Int.reduceToNat,Nat.mul_one, *]|skip);first|done|with_reducible rfl)):OpV P cfg f (.assign x) E H v H:=OpV.of fun Q hk=>WpL.assign h hk
theorem Oy.pk {z:Operand}{t:Bool} (h:zn E x=some (.bool t):=by((first|simp only[sB,Nat.reduceBEq,ne_eq,not_false_eq_true,decide_true,decide_false,Int.reduceEq,Int.reduceLE,Int.reduceToNat,Nat.mul_one, *,-hK]|simp only[sB,Nat.reduceBEq,ne_eq,not_false_eq_true,decide_true,decide_false,Int.reduceEq,Int.reduceLE,Int.reduceToNat,Nat.mul_one, *]|skip);first|done|with_reducible rfl)) (h1:zn E y=some a:=by((first|simp only[sB,Nat.reduceBEq,ne_eq,not_false_eq_true,decide_true,decide_false,Int.reduceEq,Int.reduceLE,Int.reduceToNat,Nat.mul_one, *,-hK]|simp only[sB,Nat.reduceBEq,ne_eq,not_false_eq_true,decide_true,decide_false,Int.reduceEq,Int.reduceLE,Int.reduceToNat,Nat.mul_one, *]|skip);first|done|with_reducible rfl)) (h2:zn E z=some b:=by((first|simp only[sB,Nat.reduceBEq,ne_eq,not_false_eq_true,decide_true,decide_false,Int.reduceEq,Int.reduceLE,Int.reduceToNat,Nat.mul_one, *,-hK]|simp only[sB,Nat.reduceBEq,ne_eq,not_false_eq_true,decide_true,decide_false,Int.reduceEq,Int.reduceLE,Int.reduceToNat,Nat.mul_one, *]|skip);first|done|with_reducible rfl)):OpV P cfg f (.pick x y z) E H (zdD t a b) H:=OpV.of fun Q hk=>WpL.pick h h1 h2 hk
theorem Oy.ld (h:zn E x=some a:=by((first|simp only[sB,Nat.reduceBEq,ne_eq,not_false_eq_true,decide_true,decide_false,Int.reduceEq,Int.reduceLE,Int.reduceToNat,Nat.mul_one, *,-hK]|simp only[sB,Nat.reduceBEq,ne_eq,not_false_eq_true,decide_true,decide_false,Int.reduceEq,Int.reduceLE,Int.reduceToNat,Nat.mul_one, *]|skip);first|done|with_reducible rfl)) (h1:zaZ P H t a=some v:=by((first|simp only[sB,sO,tyF,Nat.reduceBEq,Nat.reduceAdd,Nat.reduceLeDiff,ne_eq,not_false_eq_true,decide_true,decide_false,Int.reduceEq,Int.reduceLE,Int.reduceToNat,Nat.mul_one, *,-hK]|simp only[sB,sO,tyF,Nat.reduceBEq,Nat.reduceAdd,Nat.reduceLeDiff,ne_eq,not_false_eq_true,decide_true,decide_false,Int.reduceEq,Int.reduceLE,Int.reduceToNat,Nat.mul_one, *]|skip);first|done|with_reducible rfl)):OpV P cfg f (.load t x) E H v H:=OpV.of fun Q hk=>WpL.load h h1 hk
theorem Oy.st (h:zn E x=some a:=by((first|simp only[sB,Nat.reduceBEq,ne_eq,not_false_eq_true,decide_true,decide_false,Int.reduceEq,Int.reduceLE,Int.reduceToNat,Nat.mul_one, *,-hK]|simp only[sB,Nat.reduceBEq,ne_eq,not_false_eq_true,decide_true,decide_false,Int.reduceEq,Int.reduceLE,Int.reduceToNat,Nat.mul_one, *]|skip);first|done|with_reducible rfl)) (h1:zn E y=some b:=by((first|simp only[sB,Nat.reduceBEq,ne_eq,not_false_eq_true,decide_true,decide_false,Int.reduceEq,Int.reduceLE,Int.reduceToNat,Nat.mul_one, *,-hK]|simp only[sB,Nat.reduceBEq,ne_eq,not_false_eq_true,decide_true,decide_false,Int.reduceEq,Int.reduceLE,Int.reduceToNat,Nat.mul_one, *]|skip);first|done|with_reducible rfl)) (h2:zbr P H t a b=some H':=by((first|simp only[sB,sO,tyF,Nat.reduceBEq,Nat.reduceAdd,Nat.reduceLeDiff,ne_eq,not_false_eq_true,decide_true,decide_false,Int.reduceEq,Int.reduceLE,Int.reduceToNat,Nat.mul_one, *,-hK]|simp only[sB,sO,tyF,Nat.reduceBEq,Nat.reduceAdd,Nat.reduceLeDiff,ne_eq,not_false_eq_true,decide_true,decide_false,Int.reduceEq,Int.reduceLE,Int.reduceToNat,Nat.mul_one, *]|skip);first|done|with_reducible rfl)):∃ v,OpV P cfg f (.store t x y) E H v H':=zhi fun Q hk=>WpL.store h h1 h2 hk
theorem Oy.nc {r o:Nat} (h:zn E x=some (.ptr r o):=by((first|simp only[sB,Nat.reduceBEq,ne_eq,not_false_eq_true,decide_true,decide_false,Int.reduceEq,Int.reduceLE,Int.reduceToNat,Nat.mul_one, *,-hK]|simp only[sB,Nat.reduceBEq,ne_eq,not_false_eq_true,decide_true,decide_false,Int.reduceEq,Int.reduceLE,Int.reduceToNat,Nat.mul_one, *]|skip);first|done|with_reducible rfl)):OpV P cfg f (.nilCheck x) E H (.ptr r o) H:=OpV.of fun Q hk=>WpL.nilCheck h hk
theorem Oy.bn {op:BinOp} (h:zn E x=some a:=by((first|simp only[sB,Nat.reduceBEq,ne_eq,not_false_eq_true,decide_true,decide_false,Int.reduceEq,Int.reduceLE,Int.reduceToNat,Nat.mul_one, *,-hK]|simp only[sB,Nat.reduceBEq,ne_eq,not_false_eq_true,decide_true,decide_false,Int.reduceEq,Int.reduceLE,Int.reduceToNat,Nat.mul_one, *]|skip);first|done|with_reducible rfl)) (h1:zn E y=some b:=by((first|simp only[sB,Nat.reduceBEq,ne_eq,not_false_eq_true,decide_true,decide_false,Int.reduceEq,Int.reduceLE,Int.reduceToNat,Nat.mul_one, *,-hK]|simp only[sB,Nat.reduceBEq,ne_eq,not_false_eq_true,decide_true,decide_false,Int.reduceEq,Int.reduceLE,Int.reduceToNat,Nat.mul_one, *]|skip);first|done|with_reducible rfl)) (h2:jJ P cfg.dec op t a b=some v:=by((first|simp only[sB,sO,tyF,Nat.reduceBEq,Nat.reduceAdd,Nat.reduceLeDiff,ne_eq,not_false_eq_true,decide_true,decide_false,Int.reduceEq,Int.reduceLE,Int.reduceToNat,Nat.mul_one, *,-hK]|simp only[sB,sO,tyF,Nat.reduceBEq,Nat.reduceAdd,Nat.reduceLeDiff,ne_eq,not_false_eq_true,decide_true,decide_false,Int.reduceEq,Int.reduceLE,Int.reduceToNat,Nat.mul_one, *]|skip);first|done|with_reducible rfl)):OpV P cfg f (.binOp op t x y u) E H v H:=OpV.of fun Q hk=>WpL.bin h h1 h2 hk
theorem Oy.un {op:UnOp} (h:zn E x=some a:=by((first|simp only[sB,Nat.reduceBEq,ne_eq,not_false_eq_true,decide_true,decide_false,Int.reduceEq,Int.reduceLE,Int.reduceToNat,Nat.mul_one, *,-hK]|simp only[sB,Nat.reduceBEq,ne_eq,not_false_eq_true,decide_true,decide_false,Int.reduceEq,Int.reduceLE,Int.reduceToNat,Nat.mul_one, *]|skip);first|done|with_reducible rfl)) (h2:unA op a=some v:=by((first|simp only[sB,sO,tyF,Nat.reduceBEq,Nat.reduceAdd,Nat.reduceLeDiff,ne_eq,not_false_eq_true,decide_true,decide_false,Int.reduceEq,Int.reduceLE,Int.reduceToNat,Nat.mul_one, *,-hK]|simp only[sB,sO,tyF,Nat.reduceBEq,Nat.reduceAdd,Nat.reduceLeDiff,ne_eq,not_false_eq_true,decide_true,decide_false,Int.reduceEq,Int.reduceLE,Int.reduceToNat,Nat.mul_one, *]|skip);first|done|with_reducible rfl)):OpV P cfg f (.unOp op t x) E H v H:=OpV.of fun Q hk=>WpL.un h h2 hk
theorem Oy.cv (h:zn E x=some a:=by((first|simp only[sB,Nat.reduceBEq,ne_eq,not_false_eq_true,decide_true,decide_false,Int.reduceEq,Int.reduceLE,Int.reduceToNat,Nat.mul_one, *,-hK]|simp only[sB,Nat.reduceBEq,ne_eq,not_false_eq_true,decide_true,decide_false,Int.reduceEq,Int.reduceLE,Int.reduceToNat,Nat.mul_one, *]|skip);first|done|with_reducible rfl)) (h2:jo P H t u a=some v:=by((first|simp only[sB,sO,tyF,Nat.reduceBEq,Nat.reduceAdd,Nat.reduceLeDiff,ne_eq,not_false_eq_true,decide_true,decide_false,Int.reduceEq,Int.reduceLE,Int.reduceToNat,Nat.mul_one, *,-hK]|simp only[sB,sO,tyF,Nat.reduceBEq,Nat.reduceAdd,Nat.reduceLeDiff,ne_eq,not_false_eq_true,decide_true,decide_false,Int.reduceEq,Int.reduceLE,Int.reduceToNat,Nat.mul_one, *]|skip);first|done|with_reducible rfl)):OpV P cfg f (.convert t u x) E H v H:=OpV.of fun Q hk=>WpL.convert h h2 hk
theorem Oy.fa {i:Nat} (h:zn E x=some a:=by((first|simp only[sB,Nat.reduceBEq,ne_eq,not_false_eq_true,decide_true,decide_false,Int.reduceEq,Int.reduceLE,Int.reduceToNat,Nat.mul_one, *,-hK]|simp only[sB,Nat.reduceBEq,ne_eq,not_false_eq_true,decide_true,decide_false,Int.reduceEq,Int.reduceLE,Int.reduceToNat,Nat.mul_one, *]|skip);first|done|with_reducible rfl)) (h2:zg P t a i=some v:=by((first|simp only[sB,sO,tyF,Nat.reduceBEq,Nat.reduceAdd,Nat.reduceLeDiff,ne_eq,not_false_eq_true,decide_true,decide_false,Int.reduceEq,Int.reduceLE,Int.reduceToNat,Nat.mul_one, *,-hK]|simp only[sB,sO,tyF,Nat.reduceBEq,Nat.reduceAdd,Nat.reduceLeDiff,ne_eq,not_false_eq_true,decide_true,decide_false,Int.reduceEq,Int.reduceLE,Int.reduceToNat,Nat.mul_one, *]|skip);first|done|with_reducible rfl)):OpV P cfg f (.fieldAddr t x i) E H v H:=OpV.of fun Q hk=>WpL.fieldAddr h h2 hk
theorem Oy.fi {i:Nat} (h:zn E x=some a:=by((first|simp only[sB,Nat.reduceBEq,ne_eq,not_false_eq_true,decide_true,decide_false,Int.reduceEq,Int.reduceLE,Int.reduceToNat,Nat.mul_one, *,-hK]|simp only[sB,Nat.reduceBEq,ne_eq,not_false_eq_true,decide_true,decide_false,Int.reduceEq,Int.reduceLE,Int.reduceToNat,Nat.mul_one, *]|skip);first|done|with_reducible rfl)) (h2:zN P t a i=some v:=by((first|simp only[sB,sO,tyF,Nat.reduceBEq,Nat.reduceAdd,Nat.reduceLeDiff,ne_eq,not_false_eq_true,decide_true,decide_false,Int.reduceEq,Int.reduceLE,Int.reduceToNat,Nat.mul_one, *,-hK]|simp only[sB,sO,tyF,Nat.reduceBEq,Nat.reduceAdd,Nat.reduceLeDiff,ne_eq,not_false_eq_true,decide_true,decide_false,Int.reduceEq,Int.reduceLE,Int.reduceToNat,Nat.mul_one, *]|skip);first|done|with_reducible rfl)):OpV P cfg f (.field t x i) E H v H:=OpV.of fun Q hk=>WpL.field h h2 hk
theorem Oy.ia (h:zn E x=some a:=by((first|simp only[sB,Nat.reduceBEq,ne_eq,not_false_eq_true,decide_true,decide_false,Int.reduceEq,Int.reduceLE,Int.reduceToNat,Nat.mul_one, *,-hK]|simp only[sB,Nat.reduceBEq,ne_eq,not_false_eq_true,decide_true,decide_false,Int.reduceEq,Int.reduceLE,Int.reduceToNat,Nat.mul_one, *]|skip);first|done|with_reducible rfl)) (h1:zn E y=some b:=by((first|simp only[sB,Nat.reduceBEq,ne_eq,not_false_eq_true,decide_true,decide_false,Int.reduceEq,Int.reduceLE,Int.reduceToNat,Nat.mul_one, *,-hK]|simp only[sB,Nat.reduceBEq,ne_eq,not_false_eq_true,decide_true,decide_false,Int.reduceEq,Int.reduceLE,Int.reduceToNat,Nat.mul_one, *]|skip);first|done|with_reducible rfl)) (h2:zq P t a b=some v:=by((first|simp only[sB,sO,tyF,Nat.reduceBEq,Nat.reduceAdd,Nat.reduceLeDiff,ne_eq,not_false_eq_true,decide_true,decide_false,Int.reduceEq,Int.reduceLE,Int.reduceToNat,Nat.mul_one, *,-hK]|simp only[sB,sO,tyF,Nat.reduceBEq,Nat.reduceAdd,Nat.reduceLeDiff,ne_eq,not_false_eq_true,decide_true,decide_false,Int.reduceEq,Int.reduceLE,Int.reduceToNat,Nat.mul_one, *]|skip);first|done|with_reducible rfl)):OpV P cfg f (.indexAddr t x y) E H v H:=OpV.of fun Q hk=>WpL.indexAddr h h1 h2 hk
theorem Oy.ix (h:zn E x=some a:=by((first|simp only[sB,Nat.reduceBEq,ne_eq,not_false_eq_true,decide_true,decide_false,Int.reduceEq,Int.reduceLE,Int.reduceToNat,Nat.mul_one, *,-hK]|simp only[sB,Nat.reduceBEq,ne_eq,not_false_eq_true,decide_true,decide_false,Int.reduceEq,Int.reduceLE,Int.reduceToNat,Nat.mul_one, *]|skip);first|done|with_reducible rfl)) (h1:zn E y=some b:=by((first|simp only[sB,Nat.reduceBEq,ne_eq,not_false_eq_true,decide_true,decide_false,Int.reduceEq,Int.reduceLE,Int.reduceToNat,Nat.mul_one, *,-hK]|simp only[sB,Nat.reduceBEq,ne_eq,not_false_eq_true,decide_true,decide_false,Int.reduceEq,Int.reduceLE,Int.reduceToNat,Nat.mul_one, *]|skip);first|done|with_reducible rfl)) (h2:zbX P t a b=some v:=by((first|simp only[sB,sO,tyF,Nat.reduceBEq,Nat.reduceAdd,Nat.reduceLeDiff,ne_eq,not_false_eq_true,decide_true,decide_false,Int.reduceEq,Int.reduceLE,Int.reduceToNat,Nat.mul_one, *,-hK]|simp only[sB,sO,tyF,Nat.reduceBEq,Nat.reduceAdd,Nat.reduceLeDiff,ne_eq,not_false_eq_true,decide_true,decide_false,Int.reduceEq,Int.reduceLE,Int.reduceToNat,Nat.mul_one, *]|skip);first|done|with_reducible rfl)):OpV P cfg f (.index t x y) E H v H:=OpV.of fun Q hk=>WpL.index h h1 h2 hk
theorem Oy.ex {i:Nat} (h:zn E x=some a:=by((first|simp only[sB,Nat.reduceBEq,ne_eq,not_false_eq_true,decide_true,decide_false,Int.reduceEq,Int.reduceLE,Int.reduceToNat,Nat.mul_one, *,-hK]|simp only[sB,Nat.reduceBEq,ne_eq,not_false_eq_true,decide_true,decide_false,Int.reduceEq,Int.reduceLE,Int.reduceToNat,Nat.mul_one, *]|skip);first|done|with_reducible rfl)) (h2:Ab.extract a i=some v:=by((first|simp only[sB,sO,tyF,Nat.reduceBEq,Nat.reduceAdd,Nat.reduceLeDiff,ne_eq,not_false_eq_true,decide_true,decide_false,Int.reduceEq,Int.reduceLE,Int.reduceToNat,Nat.mul_one, *,-hK]|simp only[sB,sO,tyF,Nat.reduceBEq,Nat.reduceAdd,Nat.reduceLeDiff,ne_eq,not_false_eq_true,decide_true,decide_false,Int.reduceEq,Int.reduceLE,Int.reduceToNat,Nat.mul_one, *]|skip);first|done|with_reducible rfl)):OpV P cfg f (.extract x i) E H v H:=OpV.of fun Q hk=>WpL.extract h h2 hk
theorem Oy.al {z:List AV}{n:Nat} (h:yl P t=some z:=by((first|simp only[sB,sO,tyF,Nat.reduceBEq,Nat.reduceAdd,Nat.reduceLeDiff,ne_eq,not_false_eq_true,decide_true,decide_false,Int.reduceEq,Int.reduceLE,Int.reduceToNat,Nat.mul_one, *,-hK]|simp only[sB,sO,tyF,Nat.reduceBEq,Nat.reduceAdd,Nat.reduceLeDiff,ne_eq,not_false_eq_true,decide_true,decide_false,Int.reduceEq,Int.reduceLE,Int.reduceToNat,Nat.mul_one, *]|skip);first|done|with_reducible rfl)) (hn:some H.next=some n:=by((try simp only[zb,ze,zH,Nat.add_assoc,Nat.reduceAdd,Nat.zero_add]);with_reducible rfl)):OpV P cfg f (.alloc t) E H (.ptr n 0) (H.alloc (.cells z 0 true)):=OpV.of fun Q hk=>WpL.alloc h hn hk
theorem Oy.bx {cs:List AV}{n:Nat} (h:zn E x=some a:=by((first|simp only[sB,Nat.reduceBEq,ne_eq,not_false_eq_true,decide_true,decide_false,Int.reduceEq,Int.reduceLE,Int.reduceToNat,Nat.mul_one, *,-hK]|simp only[sB,Nat.reduceBEq,ne_eq,not_false_eq_true,decide_true,decide_false,Int.reduceEq,Int.reduceLE,Int.reduceToNat,Nat.mul_one, *]|skip);first|done|with_reducible rfl)) (hc:some a.cells=some cs:=by((first|simp only[sB,sO,tyF,Nat.reduceBEq,Nat.reduceAdd,Nat.reduceLeDiff,ne_eq,not_false_eq_true,decide_true,decide_false,Int.reduceEq,Int.reduceLE,Int.reduceToNat,Nat.mul_one, *,-hK]|simp only[sB,sO,tyF,Nat.reduceBEq,Nat.reduceAdd,Nat.reduceLeDiff,ne_eq,not_false_eq_true,decide_true,decide_false,Int.reduceEq,Int.reduceLE,Int.reduceToNat,Nat.mul_one, *]|skip);first|done|with_reducible rfl)) (hn:some H.next=some n:=by((try simp only[zb,ze,zH,Nat.add_assoc,Nat.reduceAdd,Nat.zero_add]);with_reducible rfl)):OpV P cfg f (.box t x) E H (.ptr n 0) (H.alloc (.cells cs 0 true)):=OpV.of fun Q hk=>WpL.box h hc hn hk
theorem Oy.bd {parts:Array (Nat×Operand)}{ps:List (Nat×AV)} (h:jS E parts.toList=some ps:=by((first|simp only[sB,Nat.reduceBEq,jS,ne_eq,not_false_eq_true,decide_true,decide_false,Int.reduceEq,Int.reduceLE,Int.reduceToNat,Nat.mul_one, *,-hK]|simp only[sB,Nat.reduceBEq,jS,ne_eq,not_false_eq_true,decide_true,decide_false,Int.reduceEq,Int.reduceLE,Int.reduceToNat,Nat.mul_one, *]|skip);first|done|with_reducible rfl)) (h2:yj P t ps=some v:=by((first|simp only[sB,sO,tyF,Nat.reduceBEq,Nat.reduceAdd,Nat.reduceLeDiff,ne_eq,not_false_eq_true,decide_true,decide_false,Int.reduceEq,Int.reduceLE,Int.reduceToNat,Nat.mul_one, *,-hK]|simp only[sB,sO,tyF,Nat.reduceBEq,Nat.reduceAdd,Nat.reduceLeDiff,ne_eq,not_false_eq_true,decide_true,decide_false,Int.reduceEq,Int.reduceLE,Int.reduceToNat,Nat.mul_one, *]|skip);first|done|with_reducible rfl)):OpV P cfg f (.build t parts) E H v H:=OpV.of fun Q hk=>WpL.build h h2 hk
theorem Oy.bs {n:Nat}{parts:Array (Nat×Operand)}{ps:List (Nat×AV)} (h:jS E parts.toList=some ps:=by((first|simp only[sB,Nat.reduceBEq,jS,ne_eq,not_false_eq_true,decide_true,decide_false,Int.reduceEq,Int.reduceLE,Int.reduceToNat,Nat.mul_one, *,-hK]|simp only[sB,Nat.reduceBEq,jS,ne_eq,not_false_eq_true,decide_true,decide_false,Int.reduceEq,Int.reduceLE,Int.reduceToNat,Nat.mul_one, *]|skip);first|done|with_reducible rfl)) (h2:zI P H t n ps=some (v,H'):=by((first|simp only[sB,sO,tyF,Nat.reduceBEq,Nat.reduceAdd,Nat.reduceLeDiff,ne_eq,not_false_eq_true,decide_true,decide_false,Int.reduceEq,Int.reduceLE,Int.reduceToNat,Nat.mul_one, *,-hK]|simp only[sB,sO,tyF,Nat.reduceBEq,Nat.reduceAdd,Nat.reduceLeDiff,ne_eq,not_false_eq_true,decide_true,decide_false,Int.reduceEq,Int.reduceLE,Int.reduceToNat,Nat.mul_one, *]|skip);first|done|with_reducible rfl)):OpV P cfg f (.buildSlice t n parts) E H v H':=OpV.of fun Q hk=>WpL.buildSlice h h2 hk
theorem Oy.mm {n:Nat} (hn:some H.next=some n:=by((try simp only[zb,ze,zH,Nat.add_assoc,Nat.reduceAdd,Nat.zero_add]);with_reducible rfl)):OpV P cfg f (.makeMap t none) E H (.map n) (H.alloc (.map [])):=OpV.of fun Q hk=>WpL.makeMap hn hk
theorem Oy.ms (h:zn E x=some a:=by((first|simp only[sB,Nat.reduceBEq,ne_eq,not_false_eq_true,decide_true,decide_false,Int.reduceEq,Int.reduceLE,Int.reduceToNat,Nat.mul_one, *,-hK]|simp only[sB,Nat.reduceBEq,ne_eq,not_false_eq_true,decide_true,decide_false,Int.reduceEq,Int.reduceLE,Int.reduceToNat,Nat.mul_one, *]|skip);first|done|with_reducible rfl)) (h1:zn E y=some b:=by((first|simp only[sB,Nat.reduceBEq,ne_eq,not_false_eq_true,decide_true,decide_false,Int.reduceEq,Int.reduceLE,Int.reduceToNat,Nat.mul_one, *,-hK]|simp only[sB,Nat.reduceBEq,ne_eq,not_false_eq_true,decide_true,decide_false,Int.reduceEq,Int.reduceLE,Int.reduceToNat,Nat.mul_one, *]|skip);first|done|with_reducible rfl)) (h2:jB P H t a b=some (v,H'):=by((first|simp only[sB,sO,tyF,Nat.reduceBEq,Nat.reduceAdd,Nat.reduceLeDiff,ne_eq,not_false_eq_true,decide_true,decide_false,Int.reduceEq,Int.reduceLE,Int.reduceToNat,Nat.mul_one, *,-hK]|simp only[sB,sO,tyF,Nat.reduceBEq,Nat.reduceAdd,Nat.reduceLeDiff,ne_eq,not_false_eq_true,decide_true,decide_false,Int.reduceEq,Int.reduceLE,Int.reduceToNat,Nat.mul_one, *]|skip);first|done|with_reducible rfl)):OpV P cfg f (.makeSlice t x y) E H v H':=OpV.of fun Q hk=>WpL.makeSlice h h1 h2 hk
theorem Oy.lu {ok:Bool} (h:zn E x=some a:=by((first|simp only[sB,Nat.reduceBEq,ne_eq,not_false_eq_true,decide_true,decide_false,Int.reduceEq,Int.reduceLE,Int.reduceToNat,Nat.mul_one, *,-hK]|simp only[sB,Nat.reduceBEq,ne_eq,not_false_eq_true,decide_true,decide_false,Int.reduceEq,Int.reduceLE,Int.reduceToNat,Nat.mul_one, *]|skip);first|done|with_reducible rfl)) (h1:zn E y=some b:=by((first|simp only[sB,Nat.reduceBEq,ne_eq,not_false_eq_true,decide_true,decide_false,Int.reduceEq,Int.reduceLE,Int.reduceToNat,Nat.mul_one, *,-hK]|simp only[sB,Nat.reduceBEq,ne_eq,not_false_eq_true,decide_true,decide_false,Int.reduceEq,Int.reduceLE,Int.reduceToNat,Nat.mul_one, *]|skip);first|done|with_reducible rfl)) (h2:ji P H t a b ok=some v:=by((first|simp only[sB,sO,tyF,Nat.reduceBEq,Nat.reduceAdd,Nat.reduceLeDiff,ne_eq,not_false_eq_true,decide_true,decide_false,Int.reduceEq,Int.reduceLE,Int.reduceToNat,Nat.mul_one, *,-hK]|simp only[sB,sO,tyF,Nat.reduceBEq,Nat.reduceAdd,Nat.reduceLeDiff,ne_eq,not_false_eq_true,decide_true,decide_false,Int.reduceEq,Int.reduceLE,Int.reduceToNat,Nat.mul_one, *]|skip);first|done|with_reducible rfl)):OpV P cfg f (.lookup t x y ok) E H v H:=OpV.of fun Q hk=>WpL.lookup h h1 h2 hk
theorem Oy.mu {z:Operand}{c:AV} (h:zn E x=some a:=by((first|simp only[sB,Nat.reduceBEq,ne_eq,not_false_eq_true,decide_true,decide_false,Int.reduceEq,Int.reduceLE,Int.reduceToNat,Nat.mul_one, *,-hK]|simp only[sB,Nat.reduceBEq,ne_eq,not_false_eq_true,decide_true,decide_false,Int.reduceEq,Int.reduceLE,Int.reduceToNat,Nat.mul_one, *]|skip);first|done|with_reducible rfl)) (h1:zn E y=some b:=by((first|simp only[sB,Nat.reduceBEq,ne_eq,not_false_eq_true,decide_true,decide_false,Int.reduceEq,Int.reduceLE,Int.reduceToNat,Nat.mul_one, *,-hK]|simp only[sB,Nat.reduceBEq,ne_eq,not_false_eq_true,decide_true,decide_false,Int.reduceEq,Int.reduceLE,Int.reduceToNat,Nat.mul_one, *]|skip);first|done|with_reducible rfl)) (h2:zn E z=some c:=by((first|simp only[sB,Nat.reduceBEq,ne_eq,not_false_eq_true,decide_true,decide_false,Int.reduceEq,Int.reduceLE,Int.reduceToNat,Nat.mul_one, *,-hK]|simp only[sB,Nat.reduceBEq,ne_eq,not_false_eq_true,decide_true,decide_false,Int.reduceEq,Int.reduceLE,Int.reduceToNat,Nat.mul_one, *]|skip);first|done|with_reducible rfl)) (h3:yZ P H t a b c=some H':=by((first|simp only[sB,sO,tyF,Nat.reduceBEq,Nat.reduceAdd,Nat.reduceLeDiff,ne_eq,not_false_eq_true,decide_true,decide_false,Int.reduceEq,Int.reduceLE,Int.reduceToNat,Nat.mul_one, *,-hK]|simp only[sB,sO,tyF,Nat.reduceBEq,Nat.reduceAdd,Nat.reduceLeDiff,ne_eq,not_false_eq_true,decide_true,decide_false,Int.reduceEq,Int.reduceLE,Int.reduceToNat,Nat.mul_one, *]|skip);first|done|with_reducible rfl)):∃ v,OpV P cfg f (.mapUpdate t x y z) E H v H':=zhi fun Q hk=>WpL.mapUpdate h h1 h2 h3 hk
theorem Oy.mf {g:FuncId}{cap:Array Operand}{vs:List AV} (h:yO E cap.toList=some vs:=by((first|simp only[sB,Nat.reduceBEq,yO,List.cons_append,List.nil_append,ne_eq,not_false_eq_true,decide_true,decide_false,Int.reduceEq,Int.reduceLE,Int.reduceToNat,Nat.mul_one, *,-hK]|simp only[sB,Nat.reduceBEq,yO,List.cons_append,List.nil_append,ne_eq,not_false_eq_true,decide_true,decide_false,Int.reduceEq,Int.reduceLE,Int.reduceToNat,Nat.mul_one, *]|skip);first|done|with_reducible rfl)):OpV P cfg f (.makeFunc (.func g) #[] cap) E H (.clo g vs) H:=OpV.of fun Q hk=>WpL.makeFunc h hk
theorem Oy.sl {lo hi:Option Operand}{lv hv:Option AV} (h:zn E x=some a:=by((first|simp only[sB,Nat.reduceBEq,ne_eq,not_false_eq_true,decide_true,decide_false,Int.reduceEq,Int.reduceLE,Int.reduceToNat,Nat.mul_one, *,-hK]|simp only[sB,Nat.reduceBEq,ne_eq,not_false_eq_true,decide_true,decide_false,Int.reduceEq,Int.reduceLE,Int.reduceToNat,Nat.mul_one, *]|skip);first|done|with_reducible rfl)) (h1:jK E lo=some lv:=by((first|simp only[sB,Nat.reduceBEq,jK,ne_eq,not_false_eq_true,decide_true,decide_false,Int.reduceEq,Int.reduceLE,Int.reduceToNat,Nat.mul_one, *,-hK]|simp only[sB,Nat.reduceBEq,jK,ne_eq,not_false_eq_true,decide_true,decide_false,Int.reduceEq,Int.reduceLE,Int.reduceToNat,Nat.mul_one, *]|skip);first|done|with_reducible rfl)) (h2:jK E hi=some hv:=by((first|simp only[sB,Nat.reduceBEq,jK,ne_eq,not_false_eq_true,decide_true,decide_false,Int.reduceEq,Int.reduceLE,Int.reduceToNat,Nat.mul_one, *,-hK]|simp only[sB,Nat.reduceBEq,jK,ne_eq,not_false_eq_true,decide_true,decide_false,Int.reduceEq,Int.reduceLE,Int.reduceToNat,Nat.mul_one, *]|skip);first|done|with_reducible rfl)) (h3:zaP P H t a lv hv=some v:=by((first|simp only[sB,sO,tyF,Nat.reduceBEq,Nat.reduceAdd,Nat.reduceLeDiff,ne_eq,not_false_eq_true,decide_true,decide_false,Int.reduceEq,Int.reduceLE,Int.reduceToNat,Nat.mul_one, *,-hK]|simp only[sB,sO,tyF,Nat.reduceBEq,Nat.reduceAdd,Nat.reduceLeDiff,ne_eq,not_false_eq_true,decide_true,decide_false,Int.reduceEq,Int.reduceLE,Int.reduceToNat,Nat.mul_one, *]|skip);first|done|with_reducible rfl)):OpV P cfg f (.slice t x lo hi none) E H v H:=OpV.of fun Q hk=>WpL.slice h h1 h2 h3 hk
theorem Oy.ln {c:AV} (h:zn E x=some a:=by((first|simp only[sB,Nat.reduceBEq,ne_eq,not_false_eq_true,decide_true,decide_false,Int.reduceEq,Int.reduceLE,Int.reduceToNat,Nat.mul_one, *,-hK]|simp only[sB,Nat.reduceBEq,ne_eq,not_false_eq_true,decide_true,decide_false,Int.reduceEq,Int.reduceLE,Int.reduceToNat,Nat.mul_one, *]|skip);first|done|with_reducible rfl)) (h1:ye P H t a=some c:=by((first|simp only[sB,sO,tyF,Nat.reduceBEq,Nat.reduceAdd,Nat.reduceLeDiff,ne_eq,not_false_eq_true,decide_true,decide_false,Int.reduceEq,Int.reduceLE,Int.reduceToNat,Nat.mul_one, *,-hK]|simp only[sB,sO,tyF,Nat.reduceBEq,Nat.reduceAdd,Nat.reduceLeDiff,ne_eq,not_false_eq_true,decide_true,decide_false,Int.reduceEq,Int.reduceLE,Int.reduceToNat,Nat.mul_one, *]|skip);first|done|with_reducible rfl)):OpV P cfg f (.call ⟨.builtin .len,#[x],#[t]⟩) E H c H:=OpV.of fun Q hk=>WpL.len h h1 hk
theorem Oy.ap (h:zn E x=some a:=by((first|simp only[sB,Nat.reduceBEq,ne_eq,not_false_eq_true,decide_true,decide_false,Int.reduceEq,Int.reduceLE,Int.reduceToNat,Nat.mul_one, *,-hK]|simp only[sB,Nat.reduceBEq,ne_eq,not_false_eq_true,decide_true,decide_false,Int.reduceEq,Int.reduceLE,Int.reduceToNat,Nat.mul_one, *]|skip);first|done|with_reducible rfl)) (h1:zn E y=some b:=by((first|simp only[sB,Nat.reduceBEq,ne_eq,not_false_eq_true,decide_true,decide_false,Int.reduceEq,Int.reduceLE,Int.reduceToNat,Nat.mul_one, *,-hK]|simp only[sB,Nat.reduceBEq,ne_eq,not_false_eq_true,decide_true,decide_false,Int.reduceEq,Int.reduceLE,Int.reduceToNat,Nat.mul_one, *]|skip);first|done|with_reducible rfl)) (h2:zX P (cfg.keep f) H t u a b=some (v,H'):=by((first|simp only[sB,sO,tyF,Nat.reduceBEq,Nat.reduceAdd,Nat.reduceLeDiff,ne_eq,not_false_eq_true,decide_true,decide_false,Int.reduceEq,Int.reduceLE,Int.reduceToNat,Nat.mul_one, *,-hK]|simp only[sB,sO,tyF,Nat.reduceBEq,Nat.reduceAdd,Nat.reduceLeDiff,ne_eq,not_false_eq_true,decide_true,decide_false,Int.reduceEq,Int.reduceLE,Int.reduceToNat,Nat.mul_one, *]|skip);first|done|with_reducible rfl)):OpV P cfg f (.call ⟨.builtin .append,#[x,y],#[t,u]⟩) E H v H':=OpV.of fun Q hk=>WpL.append h h1 h2 hk
theorem Oy.mi {ts:Array TypeId}{k k':IntKind}{na nb:Int} (h:zn E x=some (.int k na):=by((first|simp only[sB,Nat.reduceBEq,ne_eq,not_false_eq_true,decide_true,decide_false,Int.reduceEq,Int.reduceLE,Int.reduceToNat,Nat.mul_one, *,-hK]|simp only[sB,Nat.reduceBEq,ne_eq,not_false_eq_true,decide_true,decide_false,Int.reduceEq,Int.reduceLE,Int.reduceToNat,Nat.mul_one, *]|skip);first|done|with_reducible rfl)) (h1:zn E y=some (.int k' nb):=by((first|simp only[sB,Nat.reduceBEq,ne_eq,not_false_eq_true,decide_true,decide_false,Int.reduceEq,Int.reduceLE,Int.reduceToNat,Nat.mul_one, *,-hK]|simp only[sB,Nat.reduceBEq,ne_eq,not_false_eq_true,decide_true,decide_false,Int.reduceEq,Int.reduceLE,Int.reduceToNat,Nat.mul_one, *]|skip);first|done|with_reducible rfl)):OpV P cfg f (.call ⟨.builtin .min,#[x,y],ts⟩) E H (.int k (min na nb)) H:=OpV.of fun Q hk=>WpL.min2 h h1 hk
theorem Oy.ma {ts:Array TypeId}{k k':IntKind}{na nb:Int} (h:zn E x=some (.int k na):=by((first|simp only[sB,Nat.reduceBEq,ne_eq,not_false_eq_true,decide_true,decide_false,Int.reduceEq,Int.reduceLE,Int.reduceToNat,Nat.mul_one, *,-hK]|simp only[sB,Nat.reduceBEq,ne_eq,not_false_eq_true,decide_true,decide_false,Int.reduceEq,Int.reduceLE,Int.reduceToNat,Nat.mul_one, *]|skip);first|done|with_reducible rfl)) (h1:zn E y=some (.int k' nb):=by((first|simp only[sB,Nat.reduceBEq,ne_eq,not_false_eq_true,decide_true,decide_false,Int.reduceEq,Int.reduceLE,Int.reduceToNat,Nat.mul_one, *,-hK]|simp only[sB,Nat.reduceBEq,ne_eq,not_false_eq_true,decide_true,decide_false,Int.reduceEq,Int.reduceLE,Int.reduceToNat,Nat.mul_one, *]|skip);first|done|with_reducible rfl)):OpV P cfg f (.call ⟨.builtin .max,#[x,y],ts⟩) E H (.int k (max na nb)) H:=OpV.of fun Q hk=>WpL.max2 h h1 hk
theorem Ry.o {op:Op} (hk:WpL P cfg f l (T.set E d (some v)) H' Q) (h:OpV P cfg f op E H v H':=by first|apply(Oy.mv)|apply(Oy.as)|apply(Oy.pk)|apply(Oy.ld)|apply(Oy.nc)|apply(Oy.bn)|apply(Oy.un)|apply(Oy.cv)|apply(Oy.fa)|apply(Oy.fi)|apply(Oy.ia)|apply(Oy.ix)|apply(Oy.ex)|apply(Oy.al)|apply(Oy.bx)|apply(Oy.bd)|apply(Oy.bs)|apply(Oy.mm)|apply(Oy.ms)|apply(Oy.lu)|apply(Oy.mf)|apply(Oy.sl)|apply(Oy.ln)|apply(Oy.ap)|apply(Oy.mi)|apply(Oy.ma)):WpL P cfg f (⟨some d,op,none⟩::l) E H Q:=OpV.go hk h
theorem Ry.on {op:Op} (hk:WpL P cfg f l E H' Q) (h:∃ v,OpV P cfg f op E H v H':=by first|apply(Oy.st)|apply(Oy.mu)):WpL P cfg f (⟨none,op,none⟩::l) E H Q:=znL hk h
theorem Ry.call {dd:Option Nat}{c:Call}{g:Operand}{k:FuncId}{cap vs ar:List AV} (hk:zr P cfg k ar H fun v H'=>WpL P cfg f l (zA E dd v) H' Q) (hc:c.callee=.value g:=by rfl) (hg:zn E g=some (.clo k cap):=by((first|simp only[sB,Nat.reduceBEq,ne_eq,not_false_eq_true,decide_true,decide_false,Int.reduceEq,Int.reduceLE,Int.reduceToNat,Nat.mul_one, *,-hK]|simp only[sB,Nat.reduceBEq,ne_eq,not_false_eq_true,decide_true,decide_false,Int.reduceEq,Int.reduceLE,Int.reduceToNat,Nat.mul_one, *]|skip);first|done|with_reducible rfl)) (hv:yO E c.args.toList=some vs:=by((first|simp only[sB,Nat.reduceBEq,yO,List.cons_append,List.nil_append,ne_eq,not_false_eq_true,decide_true,decide_false,Int.reduceEq,Int.reduceLE,Int.reduceToNat,Nat.mul_one, *,-hK]|simp only[sB,Nat.reduceBEq,yO,List.cons_append,List.nil_append,ne_eq,not_false_eq_true,decide_true,decide_false,Int.reduceEq,Int.reduceLE,Int.reduceToNat,Nat.mul_one, *]|skip);first|done|with_reducible rfl)) (ea:vs++cap=ar:=by simp only[List.cons_append,List.nil_append,List.append_nil];first|done|exact rfl):WpL P cfg f (⟨dd,.call c,none⟩::l) E H Q:=WpL.call hc hg hv (ea ▸ hk)
theorem Ry.gu {dd:Option Nat}{op:Op}{s:Nat}{t:Bool}{v:AV}{R:Prop} (hk:R) (h:some (E.at s)=some v:=by((first|simp only[sB,Nat.reduceBEq,ne_eq,not_false_eq_true,decide_true,decide_false,Int.reduceEq,Int.reduceLE,Int.reduceToNat,Nat.mul_one, *,-hK]|simp only[sB,Nat.reduceBEq,ne_eq,not_false_eq_true,decide_true,decide_false,Int.reduceEq,Int.reduceLE,Int.reduceToNat,Nat.mul_one, *]|skip);first|done|with_reducible rfl)) (hv:v=yp:=by with_reducible rfl) (e:WpL P cfg f l (zA E dd yp) H Q=R:=by first|(dsimp only[zA];first|done|exact rfl)|exact rfl):WpL P cfg f (⟨dd,op,some (s,t)⟩::l) E H Q:=zh1 h hv (e ▸ hk)
theorem Ry.gd {dd:Option Nat}{op:Op}{s:Nat}{tb t:Bool}{p1 p2 q1 q2 R:Prop} (h1:p1→q1→WpL P cfg f (⟨dd,op,none⟩::l) E H Q) (h2:p2→q2→R) (h:E.at s=.bool t:=by((first|simp only[sB,Nat.reduceBEq,ne_eq,not_false_eq_true,decide_true,decide_false,Int.reduceEq,Int.reduceLE,Int.reduceToNat,Nat.mul_one, *,-hK]|simp only[sB,Nat.reduceBEq,ne_eq,not_false_eq_true,decide_true,decide_false,Int.reduceEq,Int.reduceLE,Int.reduceToNat,Nat.mul_one, *]|skip);first|done|with_reducible rfl)) (e1:(t=tb)=p1:=by(try simp only[sN,reduceCtorEq]);first|done|exact rfl) (e2:(t=!tb)=p2:=by(try simp only[sN,reduceCtorEq]);first|done|exact rfl) (e3:p1=q1:=by(try simp only[sD]);first|done|exact rfl) (e4:p2=q2:=by(try simp only[sD]);first|done|exact rfl) (e:WpL P cfg f l (zA E dd yp) H Q=R:=by first|(dsimp only[zA];first|done|exact rfl)|exact rfl):WpL P cfg f (⟨dd,op,some (s,tb)⟩::l) E H Q:=WpL.guard h (fun k=>h1 (e1 ▸ k) (e3 ▸ e1 ▸ k)) (fun k=>e ▸ h2 (e2 ▸ k) (e4 ▸ e2 ▸ k))
theorem Ry.cd {N:Nat}{ca cb:SC}{Q:AX→Env→Hp→Prop}{t:Bool}{p1 p2 q1 q2:Prop} (h1:p1→q1→Wp P cfg f N ca E H Q) (h2:p2→q2→Wp P cfg f N cb E H Q) (hx:zn E x=some (.bool t):=by((first|simp only[sB,Nat.reduceBEq,ne_eq,not_false_eq_true,decide_true,decide_false,Int.reduceEq,Int.reduceLE,Int.reduceToNat,Nat.mul_one, *,-hK]|simp only[sB,Nat.reduceBEq,ne_eq,not_false_eq_true,decide_true,decide_false,Int.reduceEq,Int.reduceLE,Int.reduceToNat,Nat.mul_one, *]|skip);first|done|with_reducible rfl)) (e1:(t=true)=p1:=by(try simp only[sN,reduceCtorEq]);first|done|exact rfl) (e2:(t=false)=p2:=by(try simp only[sN,reduceCtorEq]);first|done|exact rfl) (e3:p1=q1:=by(try simp only[sD]);first|done|exact rfl) (e4:p2=q2:=by(try simp only[sD]);first|done|exact rfl):Wp P cfg f N (.cond x ca cb) E H Q:=Wp.cond hx (fun k=>h1 (e1 ▸ k) (e3 ▸ e1 ▸ k)) (fun k=>h2 (e2 ▸ k) (e4 ▸ e2 ▸ k))
theorem eE {p:Prop} (h:p:=by first|(simp only[sB,Nat.reduceBEq, *];done)|rfl):p:=h
theorem eF {p:Prop} (h:p:=by first|(simp only[sB,sO,tyF,Nat.reduceBEq,Nat.reduceAdd,Nat.reduceLeDiff, *];done)|rfl):p:=h
theorem eV {p:Prop} (h:p:=by((try simp only[sB,Nat.reduceBEq, *]);first|done|with_reducible rfl)):p:=h
theorem eW {p:Prop} (h:p:=by((try simp only[sB,sO,tyF,Nat.reduceBEq,Nat.reduceAdd,Nat.reduceLeDiff, *]);first|done|with_reducible rfl)):p:=h
theorem eR {p:Prop} (h:p:=by((try simp only[sB,Nat.reduceBEq,zQ,yb, *]);first|done|with_reducible rfl)):p:=h
theorem eVk {p:Prop} (h:p:=by((try simp only[sB,Nat.reduceBEq, *,-hK]);first|done|with_reducible rfl)):p:=h
theorem eAk {p:Prop} (h:p:=by((try simp only[sB,Nat.reduceBEq,yO,List.cons_append,List.nil_append, *,-hK]);first|done|with_reducible rfl)):p:=h
theorem eI {p:Prop} (h:p:=by first|exact .inl rfl|exact .inr rfl|exact .inl trivial|exact .inr trivial):p:=h
theorem eL {p:Prop} (h:p:=by simp only[zi,zl,and_true,sB,sO,tyF,Nat.reduceBEq,Nat.reduceAdd,Nat.reduceLeDiff, *]):p:=h
theorem eN {p:Prop} (h:p:=by(try simp only[zb,ze,zH,Nat.zero_add,Nat.reduceAdd]);omega):p:=h
theorem zh {N:Nat}{Q:AX→Env→Hp→Prop}{R:Prop} (h:R) (e:Q .normal E H=R:=by first|(dsimp only[zb9,zca];first|done|exact rfl)|(dsimp only[];first|done|exact rfl)|exact rfl):Wp P cfg f N .skip E H Q:=Wp.skip (e ▸ h)
theorem Rx.rt {N:Nat}{Q:AX→Env→Hp→Prop}{R:Prop} (h:R) (e:Q .ret E H=R:=by first|(dsimp only[zb9,zca];first|done|exact rfl)|(dsimp only[];first|done|exact rfl)|exact rfl):Wp P cfg f N .ret E H Q:=Wp.ret (e ▸ h)
theorem zk {N id:Nat}{Q:AX→Env→Hp→Prop}{R:Prop} (h:R) (e:Q (.exit id) E H=R:=by first|(simp only[zb9,zca,reduceIte];first|done|exact rfl)|(dsimp only[];first|done|exact rfl)|exact rfl):Wp P cfg f N (.exit id) E H Q:=Wp.exit (e ▸ h)
theorem eK {p:Prop} (h:p:=by(refine⟨?_,?_⟩<;>simp only[List.nil_append,List.cons_append,List.append_assoc,List.getElem?_cons_succ,List.getElem?_cons_zero,List.getElem?_nil,List.forall_mem_cons,zb,ze,Nat.le_refl,true_and,and_true]<;>(repeat' apply And.intro)<;>first
 | (intro r hr;cases hr;done)
 | (refine zpZ (by simp only[List.nil_append,List.cons_append,List.append_assoc,List.getElem?_cons_succ,List.getElem?_cons_zero,List.getElem?_nil];rfl) (fun hd=>?_)
    simp only[zk9,List.nil_append,List.cons_append,List.append_assoc,List.getElem?_cons_succ,List.getElem?_cons_zero,List.getElem?_nil]at hd ⊢
    first
    | (cases hd;done)
    | exact zoX eV eW
    | exact zlb eV eV eW
    | exact zpY eV eW
    | exact zoY eV eW
    | exact zmD eV (by simp only[jK];first|rfl|simp only[sB,Nat.reduceBEq, *]) (by simp only[jK];first|rfl|simp only[sB,Nat.reduceBEq, *]) eW
    | exact zoZ rfl eW eW)
 | exact Nat.le_refl _
 | assumption
 | omega)):p:=h
variable {N:Nat} {ops:List Oper} {Q2:AX → Env → Hp → Prop}
theorem zf (id:Nat) (need:List (Nat×Nat)) (h:∀ K:List Rc→Env→Hp→Prop,(∀ tr E' H',zdl P cfg need tr H'→Q2 .normal E' H'→K tr E' H')→WpT P cfg f l [] E H K) (hpl:cfg.plan f id=.text:=by first|rfl|exact hplan _|(rw[hS.plan];rfl)) (hp:zeD ops=true:=by kernel_rfl) (hs:zS N ops ops=some l:=by simp only[zS,z6,z7,Nat.blt,Nat.ble];rfl) (hn:zdB ops=need:=by kernel_rfl):Wp P cfg f N (.draw id ops) E H Q2:=zpW hpl hp hs hn h
theorem zaG (id:Nat) (ord:List Nat) (need:List (Nat×Nat)) (h:∀ K:List Rc→Env→Hp→Prop,(∀ tr E' H',zdl P cfg need tr H'→Q2 .normal E' H'→K tr E' H')→WpT P cfg f l [] E H K) (hpl:cfg.plan f id=.perm ord:=by first|rfl|exact hplan _|(rw[hS.plan];rfl)) (hb:zkz ord ops=true:=by kernel_rfl) (hp:zeD (zao ord ops)=true:=by kernel_rfl) (hs:zS N (zao ord ops) (zao ord ops)=some l:=by simp only[zao,zgy,List.filterMap_cons,List.filterMap_nil,List.getElem?_cons_succ,List.getElem?_cons_zero,zS,z6,z7,Nat.blt,Nat.ble];rfl) (hn:zdB (zao ord ops)=need:=by kernel_rfl):Wp P cfg f N (.draw id ops) E H Q2:=zpX hpl hb hp hs hn h
theorem yo (id:Nat) (h:∀ K:Env→Hp→Prop,(∀ E' H',Q2 .normal E' H'→K E' H')→WpL P cfg f l E H K) (hpl:cfg.plan f id=.text:=by first|rfl|exact hplan _|(rw[hS.plan];rfl)) (hp:zj2 ops=true:=by kernel_rfl) (hs:zS N ops ops=some l:=by simp only[zS,z6,z7,Nat.blt,Nat.ble];rfl):Wp P cfg f N (.draw id ops) E H Q2:=Wp.draw hpl hp hs h
end
end Go.Proofs.Ytpbcimfiofmoeaa
namespace Go.Ab
set_option maxRecDepth 20000
open Go
def zaH (v:AV):Prop:=∃ k,∀ m,k≤m→∀ H,iceV H m v=some v
def zaz (l:List AV):Prop:=∀ v∈l,zaH v
theorem zaz.nil:zaz []:=fun _ h=>by simp at h
theorem zaz.cons {v:AV}{l:List AV} (h:zaH v) (hl:zaz l):zaz (v::l):=fun w hw=>by
 rcases List.mem_cons.1 hw with rfl|hw
 ·exact h
 ·exact hl _ hw
theorem zaz.bound:∀ {l:List AV},zaz l→∃ k,∀ m,k≤m→∀ H,iceL (iceV H m) l=some l
 | [],_=>⟨0,fun _ _ _=>rfl⟩
 | v::l,h=>by
   obtain⟨k1,h1⟩:=h v List.mem_cons_self
   obtain⟨k2,h2⟩:=zaz.bound (l:=l) fun w hw=>h w (List.mem_cons_of_mem _ hw)
   exact⟨max k1 k2,fun m hm H=>by simp only[iceL,h1 m (by omega) H,h2 m (by omega) H]⟩
theorem zh8:∀ {l:List (List AV)},(∀ row∈l,zaz row)→∃ k,∀ m,k≤m→∀ H,zgz (iceV H m) l=some l
 | [],_=>⟨0,fun _ _ _=>rfl⟩
 | v::l,h=>by
   obtain⟨k1,h1⟩:=(h v List.mem_cons_self).bound
   obtain⟨k2,h2⟩:=zh8 (l:=l) fun w hw=>h w (List.mem_cons_of_mem _ hw)
   exact⟨max k1 k2,fun m hm H=>by simp only[zgz,h1 m (by omega) H,h2 m (by omega) H]⟩
theorem zaH.one {v:AV} (h:∀ m H,iceV H (m+1) v=some v):zaH v:=⟨1,fun m hm H=>by
 obtain⟨m,rfl⟩:∃ k,m=k+1:=⟨m - 1,by omega⟩
 exact h m H⟩
theorem zaH.int (k:IntKind) (n:Int):zaH (.int k n):=.one fun _ _=>rfl
theorem zaH.bool (b:Bool):zaH (.bool b):=.one fun _ _=>rfl
theorem zaH.str (s:List UInt8):zaH (.str s):=.one fun _ _=>rfl
theorem zaH.nilS:zaH .nilS:=.one fun _ _=>rfl
theorem zaH.lst {l:List (List AV)} (h:∀ row∈l,zaz row):zaH (.lst l):=by
 obtain⟨k,hk⟩:=zh8 h
 refine⟨k+1,fun m hm H=>?_⟩
 obtain⟨m,rfl⟩:∃ k,m=k+1:=⟨m - 1,by omega⟩
 simp only[iceV,hk m (by omega) H]
theorem zaH.agg {l:List AV} (h:zaz l):zaH (.agg l):=by
 obtain⟨k,hk⟩:=h.bound
 refine⟨k+1,fun m hm H=>?_⟩
 obtain⟨m,rfl⟩:∃ k,m=k+1:=⟨m - 1,by omega⟩
 simp only[iceV,hk m (by omega) H]
theorem zaH.tup {l:List AV} (h:zaz l):zaH (.tup l):=by
 obtain⟨k,hk⟩:=h.bound
 refine⟨k+1,fun m hm H=>?_⟩
 obtain⟨m,rfl⟩:∃ k,m=k+1:=⟨m - 1,by omega⟩
 simp only[iceV,hk m (by omega) H]
theorem zaH.map {α:Type}{l:List α}{f:α→List AV} (h:∀ x∈l,zaz (f x)):zaH (.lst (l.map f)):=.lst fun row hr=>by
 obtain⟨x,hx,rfl⟩:=List.mem_map.1 hr
 exact h x hx
theorem zgN {args:List AV} (h:zaz args):∃ k,zbd k args=true:=by
 obtain⟨k,hk⟩:=h.bound
 exact⟨k,by unfold zbd;rw[hk k (Nat.le_refl _) H0];exact ju args⟩
theorem zgO {P:Program}{cfg:Cfg} (fit:Fit P) {ρ:Nat→Int} (hD:zcP cfg.dec ρ) (hc:∀ f args r,cfg.call f args=some r→Con P ρ f args r) {g:FuncId}{args:List AV}{r:AV}
 (hp:zaz args) (hr:zaH r) (h:zr P cfg g args H0 fun v _=>v=r):Con P ρ g args r:=by
 obtain⟨k,hk⟩:=zgN hp
 obtain⟨m,hm⟩:=hr
 exact zjf (m:=m) fit hD hc hk (zr.mono (fun v H' e=>by rw[e];exact hm m (Nat.le_refl _) H') h)
theorem zdW {P:Program}{cfg:Cfg} (fit:Fit P) {ρ:Nat→Int} (hD:zcP cfg.dec ρ) (hc:∀ f args r,cfg.call f args=some r→Con P ρ f args r) {g:FuncId}{args:List AV}{r:AV}{m:Nat}
 (hp:zaz args) (h:zr P cfg g args H0 fun v H'=>iceV H' m v=some r):Con P ρ g args r:=by
 obtain⟨k,hk⟩:=zgN hp
 exact zjf (m:=m) fit hD hc hk h
structure En where
 f:FuncId
 ice:Bool
 sp:List AV→Option AV
def yQ:List En→FuncId→List AV→Option AV
 | [],_,_=>none
 | e::l,f,args=>match Nat.beq e.f f with
   | true=>e.sp args
   | false=>yQ l f args
def zev:List En→FuncId→Bool
 | [],_=>false
 | e::l,f=>match Nat.beq e.f f with
   | true=>e.ice
   | false=>zev l f
noncomputable def zK (pls:List (Nat×Nat×Plan)) (l:List En):Cfg:={ keep:=fun _=>false,call:=yQ l,ice:=zev l,plan:=znA pls }
def zbI (P:Program) (ρ:Nat→Int) (e:En):Prop:=∀ args r,e.sp args=some r→Con P ρ e.f args r
def zdC (P:Program) (ρ:Nat→Int):List En→Prop
 | []=>True
 | e::l=>zbI P ρ e∧zdC P ρ l
theorem zdC.look {P:Program}{ρ:Nat→Int}:∀ {l:List En},zdC P ρ l→∀ f args r,yQ l f args=some r→Con P ρ f args r
 | [],_,_,_,_,h=>by simp[yQ]at h
 | e::l,hl,f,args,r,h=>by
   simp only[yQ]at h
   split at h
   ·rename_i hf
    rw[← Nat.eq_of_beq_eq_true hf]
    exact hl.1 args r h
   ·exact zdC.look hl.2 f args r h
noncomputable def spP {α:Type} (ok:α→Prop) (enc:α→List AV) (out:α→AV) (args:List AV):Option AV:=open Classical in
 if h:∃ x,ok x∧enc x=args then some (out (Classical.choose h))else none
theorem zhj {α:Type}{ok:α→Prop}{enc:α→List AV}{out:α→AV} (inj:∀ x y,enc x=enc y→x=y) {x:α} (hx:ok x):spP ok enc out (enc x)=some (out x):=by
 unfold spP
 have h:∃ y,ok y∧enc y=enc x:=⟨x,hx,rfl⟩
 rw[dif_pos h]
 rw[inj _ _ (Classical.choose_spec h).2]
theorem zh9 {α:Type}{ok:α→Prop}{enc:α→List AV}{out:α→AV}{args:List AV} (h:∀ x,ok x→enc x≠args):spP ok enc out args=none:=by
 unfold spP
 rw[dif_neg]
 rintro⟨x,hx,e⟩
 exact h x hx e
theorem jL {P:Program}{ρ:Nat→Int}{α:Type}{ok:α→Prop}{f:FuncId}{ice:Bool}{enc:α→List AV}{out:α→AV} (h:∀ x,ok x→Con P ρ f (enc x) (out x)):zbI P ρ ⟨f,ice,spP ok enc out⟩:=fun args r hr=>by
 change spP ok enc out args=some r at hr
 unfold spP at hr
 split at hr
 ·rename_i hx
  simp only[Option.some.injEq]at hr
  subst hr
  have:=h (Classical.choose hx) (Classical.choose_spec hx).1
  rw[(Classical.choose_spec hx).2]at this
  exact this
 ·simp at hr
attribute [irreducible] spP
theorem zge {P:Program}{cfg:Cfg}{g:FuncId}{args:List AV}{r:AV}{H:Hp} (h:cfg.call g args=some r):zr P cfg g args H fun v H'=>v=r∧H'=H:=zj0 h ⟨rfl,rfl⟩
theorem yr {P:Program}{pls:List (Nat×Nat×Plan)}{l:List En}{α:Type}{ok:α→Prop}{enc:α→List AV}{out:α→AV} (inj:∀ x y,enc x=enc y→x=y) {g:FuncId}{x:α} (hl:yQ l g (enc x)=spP ok enc out (enc x)) (hx:ok x) {H:Hp} :
 zr P (zK pls l) g (enc x) H fun v H'=>v=out x∧H'=H:=zge (by show yQ l g (enc x)=_;rw[hl];exact zhj inj hx)
theorem zmF {P:Program}{pls:List (Nat×Nat×Plan)}{l:List En}{α:Type}{ok:α→Prop}{enc:α→List AV}{out:α→AV} (inj:∀ x y,enc x=enc y→x=y) {g:FuncId}{x:α} (hl:∀ asx,yQ l g asx=spP ok enc out asx) (hi:zev l g=true) (hx:ok x) {args:List AV}{H H':Hp}
 (hn:∀ y,ok y→enc y≠args) (ha:zb2 (zc8 100) args H=some (enc x,H')) :
 zr P (zK pls l) g args H fun v H2=>v=out x∧H2=H':=zgM (by show yQ l g args=none;rw[hl];exact zh9 hn) hi rfl ha (by show yQ l g (enc x)=_;rw[hl];exact zhj inj hx) ⟨rfl,rfl⟩
theorem zia {P:Program}{ρ:Nat→Int} (fit:Fit P) {pls:List (Nat×Nat×Plan)}{l:List En} (hl:zdC P ρ l) {α:Type} (sz:α→Nat) {f:FuncId}{ok:α→Prop}{enc:α→List AV}{out:α→AV}
 (hp:∀ x,ok x→zaz (enc x)) (hr:∀ x,ok x→zaH (out x))
 (h:∀ x,ok x→zr P (zK pls (⟨f,false,spP (fun y=>ok y∧sz y < sz x) enc out⟩::l)) f (enc x) H0 fun v _=>v=out x):∀ x,ok x→Con P ρ f (enc x) (out x):=by
 have key:∀ n x,sz x < n→ok x→Con P ρ f (enc x) (out x):=by
  intro n
  induction n with
  | zero=>intro x hx;omega
  | succ n ih=>
    intro x hx hok
    exact zgO (cfg:=zK pls (⟨f,false,spP (fun y=>ok y∧sz y < sz x) enc out⟩::l)) fit (zhY ρ) (fun g args r hg=>zdC.look (l:=⟨f,false,spP (fun y=>ok y∧sz y < sz x) enc out⟩::l) ⟨jL fun y hy=>ih y (by omega) hy.1,hl⟩ g args r hg) (hp x hok) (hr x hok) (h x hok)
 exact fun x=>key (sz x+1) x (Nat.lt_succ_self _)
theorem jX {P:Program}{ρ:Nat→Int} (fit:Fit P) {pls:List (Nat×Nat×Plan)}{l:List En} (hl:zdC P ρ l) {f:FuncId}{args:List AV}{r:AV} (hp:zaz args) (hr:zaH r) (h:zr P (zK pls l) f args H0 fun v _=>v=r):Con P ρ f args r:=
 zgO fit (zhY ρ) (fun g asx r hg=>zdC.look hl g asx r hg) hp hr h
abbrev w64 (n:Int):Int:=IntKind.wrap .i64 n
section
variable (q:Ex → Int → Bool)
mutual
def zcd:Ex→Int→Bool
 | .mk k n s o ks,d=>q (.mk k n s o ks) d&&jM ks (w64 (d+1))
def jM:List Ex→Int→Bool
 | [],_=>true
 | e::es,d=>zcd e d&&jM es d
end
theorem zib (e:Ex) (d:Int):zcd q e d=(q e d&&jM q e.kids (w64 (d+1))):=by
 cases e;simp only[zcd,Ex.kids]
theorem zcw {l:List Ex}{i:Nat} (h:i < l.length) (d:Int):jM q (l.drop i) d=(zcd q l[i] d&&jM q (l.drop (i+1)) d):=by
 rw[List.drop_eq_getElem_cons h,jM]
end
section
variable {σ:Type} (q:St → Int → σ → Bool × σ)
mutual
def zbn:St→Int→σ→Bool×σ
 | .mk k nm to n a v args th el,d,s=>match q (.mk k nm to n a v args th el) d s with
   | (false,s)=>(false,s)
   | (true,s)=>match yT th (w64 (d+1)) s with
     | (false,s)=>(false,s)
     | (true,s)=>yT el (w64 (d+1)) s
def yT:List St→Int→σ→Bool×σ
 | [],_,s=>(true,s)
 | x::l,d,s=>match zbn x d s with
   | (false,s)=>(false,s)
   | (true,s)=>yT l d s
end
theorem zqw (x:St) (d:Int) (s:σ):zbn q x d s=match q x d s with
 | (false,s)=>(false,s)
 | (true,s)=>match yT q x.thn (w64 (d+1)) s with
   | (false,s)=>(false,s)
   | (true,s)=>yT q x.els (w64 (d+1)) s:=by
 cases x;simp only[zbn,St.thn,St.els]
theorem zmG {l:List St}{i:Nat} (h:i < l.length) (d:Int) (s:σ):yT q (l.drop i) d s=match zbn q l[i] d s with
 | (false,s)=>(false,s)
 | (true,s)=>yT q (l.drop (i+1)) d s:=by
 rw[List.drop_eq_getElem_cons h,yT]
end
mutual
def Ex.sz:Ex→Nat
 | .mk _ _ s _ ks=>1+s.length+yc ks
def yc:List Ex→Nat
 | []=>0
 | e::es=>1+e.sz+yc es
end
mutual
def St.sz:St→Nat
 | .mk _ nm to _ a v args th el=>1+nm.length+to.length+a.sz+v.sz+yc args+zu th+zu el
def zu:List St→Nat
 | []=>0
 | x::l=>1+x.sz+zu l
end
def jd:List (List UInt8)→Nat
 | []=>0
 | s::l=>1+s.length+jd l
def Fu.sz (f:Fu):Nat:=1+f.name.length+jd f.params+jd f.locals+zu f.body+f.value.sz
def za2:List Fu→Nat
 | []=>0
 | f::l=>1+f.sz+za2 l
def zak:List Ar→Nat
 | []=>0
 | a::l=>1+a.name.length+zak l
def Pr.sz (p:Pr):Nat:=1+zak p.arrays+za2 p.funcs
theorem j7:∀ l:List Ex,l.length≤yc l
 | []=>Nat.le_refl _
 | e::es=>by have:=j7 es;simp only[List.length_cons,yc];omega
theorem j8:∀ l:List St,l.length≤zu l
 | []=>Nat.le_refl _
 | e::es=>by have:=j8 es;simp only[List.length_cons,zu];omega
theorem zar:∀ l:List (List UInt8),l.length≤jd l
 | []=>Nat.le_refl _
 | e::es=>by have:=zar es;simp only[List.length_cons,jd];omega
theorem zbx:∀ l:List Fu,l.length≤za2 l
 | []=>Nat.le_refl _
 | e::es=>by have:=zbx es;simp only[List.length_cons,za2];omega
theorem zaU:∀ l:List Ar,l.length≤zak l
 | []=>Nat.le_refl _
 | e::es=>by have:=zaU es;simp only[List.length_cons,zak];omega
theorem jQ:∀ {l:List Ex}{x:Ex},x∈l→x.sz < yc l
 | [],_,h=>by simp at h
 | e::es,x,h=>by
   rcases List.mem_cons.1 h with rfl|h
   ·simp only[yc];omega
   ·have:=jQ h;simp only[yc];omega
theorem jv:∀ {l:List St}{x:St},x∈l→x.sz < zu l
 | [],_,h=>by simp at h
 | e::es,x,h=>by
   rcases List.mem_cons.1 h with rfl|h
   ·simp only[zu];omega
   ·have:=jv h;simp only[zu];omega
theorem zic:∀ {l:List (List UInt8)}{x:List UInt8},x∈l→x.length < jd l
 | [],_,h=>by simp at h
 | e::es,x,h=>by
   rcases List.mem_cons.1 h with rfl|h
   ·simp only[jd];omega
   ·have:=zic h;simp only[jd];omega
theorem zby:∀ {l:List Fu}{x:Fu},x∈l→x.sz < za2 l
 | [],_,h=>by simp at h
 | e::es,x,h=>by
   rcases List.mem_cons.1 h with rfl|h
   ·simp only[za2];omega
   ·have:=zby h;simp only[za2];omega
theorem Ex.sz_eq (e:Ex):e.sz=1+e.name.length+yc e.kids:=by cases e;simp only[Ex.sz,Ex.name,Ex.kids]
theorem St.sz_eq (x:St):x.sz=1+x.name.length+x.to.length+x.at_.sz+x.value.sz+yc x.args+zu x.thn+zu x.els:=by cases x;simp only[St.sz,St.name,St.to,St.at_,St.value,St.args,St.thn,St.els]
structure FrB (base:Nat) (H H':Hp):Prop where
 next:H.next≤H'.next
 get:∀ r,base≤r→r < H.next→H'.get r=H.get r
theorem FrB.refl (base:Nat) (H:Hp):FrB base H H:=⟨Nat.le_refl _,fun _ _ _=>rfl⟩
theorem FrB.trans {base:Nat}{a b c:Hp} (h:FrB base a b) (k:FrB base b c):FrB base a c:=⟨Nat.le_trans h.next k.next,fun r h1 h2=>(k.get r h1 (Nat.lt_of_lt_of_le h2 h.next)).trans (h.get r h1 h2)⟩
theorem FrB.alloc {base:Nat}{a b:Hp} (h:FrB base a b) (x:HB):FrB base a (b.alloc x):=⟨Nat.le_trans h.next (Nat.le_succ _),fun r h1 h2=>by
 have:=h.next
 rw[za,if_neg (by omega)];exact h.get r h1 h2⟩
theorem FrB.set {base r:Nat}{a b:Hp} (h:FrB base a b) (hr:a.next≤r∨r < base) (x:HB):FrB base a (b.set r x):=⟨h.next,fun k h1 h2=>by
 rw[Hp.get_set,if_neg (by omega)];exact h.get k h1 h2⟩
def Low (base:Nat) (H H':Hp):Prop:=∀ r,r < base→H'.get r=H.get r
theorem Low.refl (base:Nat) (H:Hp):Low base H H:=fun _ _=>rfl
theorem Low.trans {base:Nat}{a b c:Hp} (h:Low base a b) (k:Low base b c):Low base a c:=fun r hr=>(k r hr).trans (h r hr)
theorem Low.alloc {base:Nat}{a b:Hp} (h:Low base a b) (hb:base≤b.next) (x:HB):Low base a (b.alloc x):=fun r hr=>by rw[za,if_neg (by omega)];exact h r hr
theorem Low.set {base r:Nat}{a b:Hp} (h:Low base a b) (hr:base≤r) (x:HB):Low base a (b.set r x):=fun k hk=>by rw[Hp.get_set,if_neg (by omega)];exact h k hk
theorem FrB.weak {base base':Nat} (h:base≤base') {a b:Hp} (k:FrB base a b):FrB base' a b:=⟨k.next,fun r h1 h2=>k.get r (Nat.le_trans h h1) h2⟩
theorem Low.weak {base base':Nat} (h:base≤base') {a b:Hp} (k:Low base' a b):Low base a b:=fun r hr=>k r (Nat.lt_of_lt_of_le hr h)
def zgf (x:St) (d:Int) (s:Int×Int):Bool×(Int×Int):=
 let n:=w64 (s.1+1)
 let l:=if x.kind=4 then w64 (s.2+1)else s.2
 (decide (d≤20)&&decide (n≤200)&&decide (l≤16),(n,l))
def zj4 (_:Ex) (d:Int):Bool:=decide (d≤20)
def zg5 (q:Ex→Int→Bool) (x:St) (_:Int) (s:Unit):Bool×Unit:=(zcd q x.at_ 0&&zcd q x.value 0&&jM q x.args 0,s)
def zbM (q:Ex→Int→Bool) (f:Fu):Bool:=zcd q f.value 0&&(yT (zg5 q) f.body 0 ()).1
def za3 (f:Fu):Bool:=decide ((f.params.length:Int)≤6)&&decide ((f.locals.length:Int)≤8)&&(yT zgf f.body 0 (0,0)).1&&zbM zj4 f
def zdX (p:Pr):Bool:=!decide (4 < (p.arrays.length:Int)) && !decide (8 < (p.funcs.length:Int))&&p.arrays.all (fun a=>!decide (a.len < 1) && !decide (16 < a.len))&&p.funcs.all za3
theorem Ex.pure (x:Ex):zaz x.cells:=by
 have key:∀ n (x:Ex),x.sz < n→zaz x.cells:=by
  intro n
  induction n with
  | zero=>intro x h;omega
  | succ n ih=>
    intro x h
    rw[Ex.cells_eq]
    refine .cons (.int _ _) (.cons (.int _ _) (.cons (.str _) (.cons (.int _ _) (.cons (.map fun y hy=>ih y ?_) .nil))))
    have:=jQ hy
    have:=x.sz_eq
    omega
 exact key _ x (Nat.lt_succ_self _)
theorem zfB (l:List Ex):zaH (.lst (l.map Ex.cells)):=.map fun x _=>x.pure
theorem St.pure (x:St):zaz x.cells:=by
 have key:∀ n (x:St),x.sz < n→zaz x.cells:=by
  intro n
  induction n with
  | zero=>intro x h;omega
  | succ n ih=>
    intro x h
    rw[St.cells_eq]
    have:=x.sz_eq
    refine .cons (.int _ _) (.cons (.str _) (.cons (.str _) (.cons (.int _ _) (.cons (.int _ _) (.cons (.int _ _) (.cons (.str _) (.cons (.int _ _) (.cons (zfB _) (.cons (.int _ _) (.cons (.int _ _) (.cons (.str _) (.cons (.int _ _) (.cons (zfB _) (.cons (zfB _) (.cons (.map fun y hy=>ih y ?_) (.cons (.map fun y hy=>ih y ?_) .nil))))))))))))))))
    ·have:=jv hy;omega
    ·have:=jv hy;omega
 exact key _ x (Nat.lt_succ_self _)
theorem zid (l:List St):zaH (.lst (l.map St.cells)):=.map fun x _=>x.pure
theorem zcW (l:List (List UInt8)):zaH (je l):=.map fun x _=>.cons (.str _) .nil
theorem Fu.pure (x:Fu):zaz x.cells:=by
 rw[Fu.cells_eq]
 exact .cons (.str _) (.cons (zcW _) (.cons (zcW _) (.cons (zid _) (.cons (.int _ _) (.cons (.int _ _) (.cons (.str _) (.cons (.int _ _) (.cons (zfB _) .nil))))))))
theorem Ar.pure (x:Ar):zaz x.cells:=.cons (.str _) (.cons (.int _ _) .nil)
theorem Pr.pure (x:Pr):zaz x.cells:=.cons (.map fun x _=>x.pure) (.cons (.map fun x _=>x.pure) .nil)
theorem zbB {α β:Type}{f:α→β}:∀ {a b:List α},(∀ x∈a,∀ y,f x=f y→x=y)→a.map f=b.map f→a=b
 | [],[],_,_=>rfl
 | [],_::_,_,h=>by simp at h
 | _::_,[],_,h=>by simp at h
 | x::a,y::b,hf,h=>by
   simp only[List.map_cons,List.cons.injEq]at h
   rw[hf x List.mem_cons_self y h.1,zbB (fun z hz=>hf z (List.mem_cons_of_mem _ hz)) h.2]
theorem Ex.ext' {x y:Ex} (h0:x.kind=y.kind) (h1:x.n=y.n) (h2:x.name=y.name) (h3:x.op=y.op) (h4:x.kids=y.kids):x=y:=by
 cases x;cases y;simp only[Ex.kind,Ex.n,Ex.name,Ex.op,Ex.kids]at *;simp[*]
theorem Ex.inj {x y:Ex} (h:x.cells=y.cells):x=y:=by
 have key:∀ n (x:Ex),x.sz < n→∀ y,x.cells=y.cells→x=y:=by
  intro n
  induction n with
  | zero=>intro x h;omega
  | succ n ih=>
    intro x h y e
    rw[Ex.cells_eq,Ex.cells_eq]at e
    simp only[List.cons.injEq,AV.int.injEq,AV.str.injEq,AV.lst.injEq,true_and,and_true]at e
    obtain⟨e0,e1,e2,e3,e4⟩:=e
    refine Ex.ext' e0 e1 e2 e3 (zbB (fun z hz=>ih z ?_) e4)
    have:=jQ hz
    have:=x.sz_eq
    omega
 exact key _ x (Nat.lt_succ_self _) y h
theorem zhk {a b:List Ex} (h:a.map Ex.cells=b.map Ex.cells):a=b:=zbB (fun _ _ _=>Ex.inj) h
theorem St.ext' {x y:St} (h0:x.kind=y.kind) (h1:x.name=y.name) (h2:x.to=y.to) (h3:x.n=y.n) (h4:x.at_=y.at_) (h5:x.value=y.value) (h6:x.args=y.args) (h7:x.thn=y.thn) (h8:x.els=y.els):x=y:=by
 cases x;cases y;simp only[St.kind,St.name,St.to,St.n,St.at_,St.value,St.args,St.thn,St.els]at *;simp[*]
theorem St.inj {x y:St} (h:x.cells=y.cells):x=y:=by
 have key:∀ n (x:St),x.sz < n→∀ y,x.cells=y.cells→x=y:=by
  intro n
  induction n with
  | zero=>intro x h;omega
  | succ n ih=>
    intro x h y e
    have hs:=x.sz_eq
    rw[St.cells_eq,St.cells_eq]at e
    simp only[List.cons.injEq,AV.int.injEq,AV.str.injEq,AV.lst.injEq,true_and,and_true]at e
    obtain⟨e0,e1,e2,e3,a0,a1,a2,a3,a4,b0,b1,b2,b3,b4,e6,e7,e8⟩:=e
    refine St.ext' e0 e1 e2 e3 (Ex.ext' a0 a1 a2 a3 (zhk a4)) (Ex.ext' b0 b1 b2 b3 (zhk b4)) (zhk e6) (zbB (fun z hz=>ih z ?_) e7) (zbB (fun z hz=>ih z ?_) e8)
    ·have:=jv hz;omega
    ·have:=jv hz;omega
 exact key _ x (Nat.lt_succ_self _) y h
theorem zj5 {a b:List St} (h:a.map St.cells=b.map St.cells):a=b:=zbB (fun _ _ _=>St.inj) h
theorem zfC {a b:List (List UInt8)} (h:(a.map fun s=>[AV.str s])=b.map fun s=>[AV.str s]):a=b:=zbB (fun x _ y e=>by simpa using e) h
theorem Fu.inj {x y:Fu} (h:x.cells=y.cells):x=y:=by
 obtain⟨n,p,l,b,v⟩:=x
 obtain⟨n',p',l',b',v'⟩:=y
 rw[Fu.cells_eq,Fu.cells_eq]at h
 simp only[List.cons.injEq,AV.int.injEq,AV.str.injEq,AV.lst.injEq,true_and,and_true]at h
 obtain⟨e0,e1,e2,e3,b0,b1,b2,b3,b4⟩:=h
 rw[e0,zfC e1,zfC e2,zj5 e3,Ex.ext' b0 b1 b2 b3 (zhk b4)]
theorem Ar.inj {x y:Ar} (h:x.cells=y.cells):x=y:=by
 obtain⟨n,p⟩:=x
 obtain⟨n',p'⟩:=y
 simp only[Ar.cells,List.cons.injEq,AV.int.injEq,AV.str.injEq,true_and,and_true]at h
 rw[h.1,h.2]
theorem Pr.inj {x y:Pr} (h:x.cells=y.cells):x=y:=by
 obtain⟨n,p⟩:=x
 obtain⟨n',p'⟩:=y
 simp only[Pr.cells,List.cons.injEq,AV.lst.injEq,true_and,and_true]at h
 rw[zbB (fun _ _ _=>Ar.inj) h.1,zbB (fun _ _ _=>Fu.inj) h.2]
def zfD (n:Int):Bool:=(decide (97≤n)&&decide (n≤122))||(decide (65≤n)&&decide (n≤90))||decide (n=95)
def ze3 (n:Int):Bool:=decide (48≤n)&&decide (n≤57)
def zdY (b:UInt8):Bool:=zfD b.toNat||ze3 b.toNat
def j5:List UInt8→Nat
 | []=>0
 | b::s=>if zdY b then j5 s+1 else 0
theorem zle:∀ s:List UInt8,j5 s≤s.length
 | []=>Nat.le_refl _
 | b::s=>by have:=zle s;simp only[j5,List.length_cons];split<;>omega
def za4:List UInt8→Nat
 | []=>0
 | b::s=>if b.toNat=10 then 0 else za4 s+1
theorem zlf:∀ s:List UInt8,za4 s≤s.length
 | []=>Nat.le_refl _
 | b::s=>by have:=zlf s;simp only[za4,List.length_cons];split<;>omega
def zaa (b:UInt8):Bool:=decide (b.toNat=32)||decide (b.toNat=9)||decide (b.toNat=10)||decide (b.toNat=13)
def yG:Bool→List UInt8→Nat
 | _,[]=>0
 | true,b::s=>if b.toNat=10 then (if zaa b then yG false s+1 else 0)else yG true s+1
 | false,b::s=>if zaa b then yG false s+1 else if b.toNat=35 then yG true s+1 else 0
theorem zgP:∀ s:List UInt8,yG true s=za4 s+yG false (s.drop (za4 s))
 | []=>rfl
 | b::s=>by
   simp only[yG,za4]
   by_cases h:b.toNat=10
   ·have hb:zaa b=true:=by unfold zaa;simp[h]
    simp[h,hb,yG]
   ·simp only[h,if_false,List.drop_succ_cons,zgP s];omega
theorem zbV:∀ (c:Bool) (s:List UInt8),yG c s≤s.length
 | c,[]=>by cases c<;>exact Nat.le_refl _
 | true,b::s=>by have h1:=zbV true s;have h2:=zbV false s;simp only[yG,List.length_cons];split<;>(try split)<;>omega
 | false,b::s=>by have h1:=zbV true s;have h2:=zbV false s;simp only[yG,List.length_cons];split<;>(try split)<;>omega
def zqx (s:List UInt8) (k:Tk) (e:Int):Prop:=
 k.at_=0∧(e=0→∃ n,1≤n∧n≤s.length∧k.text=s.take n∧(k.kind=1→n=j5 s∧n≤16∧∀ b,s[0]?=some b→ze3 b.toNat=false)) ∧
 (1≤j5 s→j5 s≤16→(∀ b,s[0]?=some b→ze3 b.toNat=false)→e=0∧k=⟨1,s.take (j5 s),0⟩)
def zlg (s:List UInt8):Prop:=1≤j5 s∧j5 s=s.length∧s.length≤16∧∀ b,s[0]?=some b→ze3 b.toNat=false
def znM (s:List UInt8) (ts:List Tk):Prop:=∀ k rest,ts=k::rest→∃ k0,zqx (s.drop (yG false s)) k0 0∧k.kind=k0.kind∧k.text=k0.text
def zgg (lo:Nat) (H:Hp) (lv:AV) (ts:List Tk):Prop:=(ts=[]∧lv=.nilS)∨∃ r,lv=.sl r 0 ts.length 3∧H.get r=some (.cells (ts.flatMap Tk.cells) 0 true)∧lo < r∧r < H.next∧ts≠[]
theorem zmH {s:List UInt8} (h:zlg s):yG false s=0:=by
 obtain⟨h1,h2,h3,h4⟩:=h
 cases s with
 | nil=>rfl
 | cons b s=>
   have hd:=h4 b rfl
   simp only[j5]at h1
   have hw:zdY b=true:=by
    cases hb:zdY b with
    | true=>rfl
    | false=>rw[hb]at h1;simp at h1
   simp only[zdY,hd,Bool.or_false]at hw
   have hbl:zaa b=false:=by
    unfold zaa
    simp only[zfD,Bool.or_eq_true,Bool.and_eq_true,decide_eq_true_eq]at hw
    simp
    omega
   have h35:¬ b.toNat=35:=by
    simp only[zfD,Bool.or_eq_true,Bool.and_eq_true,decide_eq_true_eq]at hw
    omega
   simp only[yG,hbl,Bool.false_eq_true,if_false,h35]
theorem zlh:∀ ts:List Tk,(ts.flatMap Tk.cells).length=ts.length * 3
 | []=>rfl
 | t::ts=>by rw[List.flatMap_cons,List.length_append,zlh ts,Tk.clen,List.length_cons];omega
theorem FrB.kill {base r:Nat}{a b:Hp} (h:FrB base a b) (hr:a.next≤r):FrB base a (b.kill r):=⟨h.next,fun k h1 h2=>by
 rw[zR,if_neg (by omega)];exact h.get k h1 h2⟩
def nmB (s:List UInt8):Bool:=decide (1≤j5 s)&&decide (j5 s=s.length)&&decide (s.length≤16)&&(match s with|b::_=>!ze3 b.toNat|[]=>true)
theorem zhl (s:List UInt8):nmB s=true↔zlg s:=by
 unfold nmB zlg
 cases s with
 | nil=>simp[j5]
 | cons b s=>simp[and_assoc]
def resB (s:List UInt8):Bool:=decide (s=[97,114,114,97,121])||decide (s=[102,117,110,99])||decide (s=[118,97,114])||decide (s=[114,101,116,117,114,110])||decide (s=[105,102])||decide (s=[101,108,115,101])||decide (s=[119,104,105,108,101])||decide (s=[111,117,116])||decide (s=[116,114,97,112])
def yx (s:List UInt8):Bool:=nmB s && !resB s
theorem zus {s:List UInt8}{k:Tk}{rest:List Tk} (h:znM s (k::rest)) (hk:k.kind=1) (ht:k.text=s):zlg s:=by
 obtain⟨k0,h1,h2,h3⟩:=h k rest rfl
 obtain⟨n,n1,n2,n3,n4⟩:=h1.2.1 rfl
 obtain⟨n5,n6,n7⟩:=n4 (by rw[← h2];exact hk)
 rw[← h3,ht]at n3
 have hl:=congrArg List.length n3
 rw[List.length_take,List.length_drop]at hl
 rw[List.length_drop]at n2
 have hs0:yG false s=0:=by omega
 rw[hs0,List.drop_zero]at n5 n7
 have hn:n=s.length:=by omega
 exact⟨by omega,by omega,by omega,n7⟩
end Go.Ab
