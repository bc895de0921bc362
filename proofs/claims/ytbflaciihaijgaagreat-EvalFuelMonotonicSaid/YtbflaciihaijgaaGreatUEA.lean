/- Lemmas for the last file. -/
import GoSem.Step
set_option linter.all false
set_option maxHeartbeats 32000000
namespace Go.Ab
variable{P m J O I z Z j Y V:Prop}
abbrev qS:=List (Nat×Nat)
abbrev qQ:=Array Oper
abbrev qN:=Option Nat
abbrev qK:=Option Bool
abbrev qG:=List Nat
abbrev qE:=List Oper
abbrev qD:=List UInt8
structure Bxx (p:Prop):Type where
 o:p
def aT(q0:m)(h:Bxx m->P:=by
 intro q0;first
  |apply Ry.o ?_|apply Ry.on ?_|apply Ry.gu ?_|apply Ap ?_|apply dD.step ?_|apply QS rfl ?_|apply Ry.gv ?_|apply bX.block ?_|apply LN ?_|apply Rx.rt ?_|apply Rx.xt ?_|fail
 exact q0.o):P:=h ⟨q0⟩
def a9(q0:m)(h:Bxx m->P:=by
 intro q0;first
  |apply Rx.o ?_|apply Rx.on ?_|apply Rx.gu ?_|apply Ap ?_|apply dD.step ?_|apply QS rfl ?_|apply Rx.gv ?_|apply bX.block ?_|apply LN ?_|apply Rx.rt ?_|apply Rx.xt ?_|fail
 exact q0.o):P:=h ⟨q0⟩
def Y3(q0:(J->O->m))(h:Bxx (J->O->m)->P:=by
 intro q0;(repeat' (first
  |(apply ay ?_;try clear hK K)|apply aT ?_|(apply cR ?_ ?_<;>(intro hg hgp;try(cases hg;done)))|(apply a2 ?_ ?_<;>(intro hb hbp;try(cases hb;done)))|(apply az fun K hK=>?_)|(apply bV 18 [(4,9),(6,9),(7,9),(8,9)] fun K hK=>?_)|(apply l9 22 [0,1,2,3,4,5,6,7,10,8,9,11] [(3,9),(3,11),(7,9),(8,9),(8,11)] fun K hK=>?_)|(apply bB ?_;try intro _)|(apply bY ?_ ?_<;>try clear hK K)|(apply xr ?_ ?_<;>(intro hg hgp;try(cases hg;done)))|fail))
 exact q0.o hb hbp):P:=h ⟨q0⟩
def OK{Z:Type}{j:Z->Prop}{m:∀K,j K->Prop}(q0:(∀K hK,m K hK))(h:Bxx (∀K hK,m K hK)->P:=by
 intro q0;(repeat' (first
  |(apply ay ?_;try clear hK K)|apply aT ?_|(apply cR ?_ ?_<;>(intro hg hgp;try(cases hg;done)))|(apply a2 ?_ ?_<;>(intro hb hbp;try(cases hb;done)))|(apply az fun K hK=>?_)|(apply bV 18 [(4,9),(6,9),(7,9),(8,9)] fun K hK=>?_)|(apply l9 22 [0,1,2,3,4,5,6,7,10,8,9,11] [(3,9),(3,11),(7,9),(8,9),(8,11)] fun K hK=>?_)|(apply bB ?_;try intro _)|(apply bY ?_ ?_<;>try clear hK K)|(apply xr ?_ ?_<;>(intro hg hgp;try(cases hg;done)))|fail))
 exact q0.o K hK):P:=h ⟨q0⟩
def Y4(q0:m)(h:Bxx m->P:=by
 intro q0;(repeat' (first
  |(apply ay ?_;try clear hK K)|apply a9 ?_|(apply gL ?_ ?_<;>(intro hg hgp;try(cases hg;done)))|(apply bU ?_ ?_<;>(intro hb hbp;try(cases hb;done)))|(apply az fun K hK=>?_)|(apply bV 18 [(4,9),(6,9),(7,9),(8,9)] fun K hK=>?_)|(apply l9 22 [0,1,2,3,4,5,6,7,10,8,9,11] [(3,9),(3,11),(7,9),(8,9),(8,11)] fun K hK=>?_)|(apply bB ?_;try intro _)|(apply bY ?_ ?_<;>try clear hK K)|(apply Rx.gt ?_ ?_<;>(intro hg hgp;try(cases hg;done)))|fail))
 exact q0.o):P:=h ⟨q0⟩
def JC(q0:m)(q1:J)(h:Bxx m->Bxx J->P:=by
 intro q0 q1;(repeat' (first
  |(apply ay ?_;try clear hK K)|apply aT ?_|(apply a2 ?_ ?_<;>(intro hb hbp;try(cases hb;done)))|(apply az fun K hK=>?_)|(apply bV 7 [(2,9),(7,9)] fun K hK=>?_)|(apply uH 10 fun K hK=>?_)|(apply bV 18 [(3,12),(5,12),(7,12),(10,12)] fun K hK=>?_)|(apply bB ?_;try intro _)|(apply bY ?_ ?_<;>try clear hK K)|fail))
 exact q0.o;exact q1.o):P:=h ⟨q0⟩ ⟨q1⟩
def Y5(q0:(J->O->m))(q1:(I->z->Z))(q2:(j->Y->V))(h:Bxx (J->O->m)->Bxx (I->z->Z)->Bxx (j->Y->V)->P:=by
 intro q0 q1 q2;(repeat' (first
  |(apply ay ?_;try clear hK K)|apply aT ?_|(apply a2 ?_ ?_<;>(intro hb hbp;try(cases hb;done)))|(apply az fun K hK=>?_)|(apply bV 3 [(3,12),(5,12),(7,12),(10,12)] fun K hK=>?_)|(apply bV 10 [(3,12),(5,12),(7,12),(10,12)] fun K hK=>?_)|(apply bB ?_;try intro _)|(apply bY ?_ ?_<;>try clear hK K)|fail))
 exact q0.o hb hbp;exact q1.o hb hbp;exact q2.o hb hbp):P:=h ⟨q0⟩ ⟨q1⟩ ⟨q2⟩
def JD{z:Type}{C:z->Prop}{J:∀K,C K->Prop}(q0:m)(q1:(∀K hK,J K hK))(h:Bxx m->Bxx (∀K hK,J K hK)->P:=by
 intro q0 q1;(repeat' (first
  |(apply ay ?_;try clear hK K)|apply aT ?_|(apply a2 ?_ ?_<;>(intro hb hbp;try(cases hb;done)))|(apply az fun K hK=>?_)|(apply bV 3 [(3,12),(5,12),(7,12),(10,12)] fun K hK=>?_)|(apply bV 5 [(2,25),(6,25),(8,25),(10,25),(13,25),(17,25),(19,25),(21,25),(24,25)] fun K hK=>?_)|(apply bV 17 [(3,18),(5,18),(7,18),(10,18),(14,18),(16,18)] fun K hK=>?_)|(apply bB ?_;try intro _)|(apply bY ?_ ?_<;>try clear hK K)|fail))
 exact q0.o;exact q1.o K hK):P:=h ⟨q0⟩ ⟨q1⟩
def Y6(q0:m)(q1:J)(h:Bxx m->Bxx J->P:=by
 intro q0 q1;(repeat' (first
  |(apply ay ?_;try clear hK K)|apply aT ?_|(apply a2 ?_ ?_<;>(intro hb hbp;try(cases hb;done)))|(apply az fun K hK=>?_)|(apply bV 1 [(3,12),(5,12),(7,12),(10,12)] fun K hK=>?_)|(apply bB ?_;try intro _)|(apply bY ?_ ?_<;>try clear hK K)|fail))
 exact q0.o;exact q1.o):P:=h ⟨q0⟩ ⟨q1⟩
def OL(q0:m)(q1:J)(h:Bxx m->Bxx J->P:=by
 intro q0 q1;(repeat' (first
  |(apply ay ?_;try clear hK K)|apply aT ?_|(apply a2 ?_ ?_<;>(intro hb hbp;try(cases hb;done)))|(apply az fun K hK=>?_)|(apply bV 3 [(3,12),(5,12),(7,12),(10,12)] fun K hK=>?_)|(apply bB ?_;try intro _)|(apply bY ?_ ?_<;>try clear hK K)|fail))
 exact q0.o;exact q1.o):P:=h ⟨q0⟩ ⟨q1⟩
def OM(q0:m)(q1:(I->z->J))(q2:(j->Z->Y))(h:Bxx m->Bxx (I->z->J)->Bxx (j->Z->Y)->P:=by
 intro q0 q1 q2;(repeat' (first
  |(apply ay ?_;try clear hK K)|apply a9 ?_|(apply bU ?_ ?_<;>(intro hb hbp;try(cases hb;done)))|(apply az fun K hK=>?_)|(apply bB ?_;try intro _)|(apply bY ?_ ?_<;>try clear hK K)|fail))
 exact q0.o;exact q1.o hb hbp;exact q2.o hb hbp):P:=h ⟨q0⟩ ⟨q1⟩ ⟨q2⟩
def dX(q0:m)(h:Bxx m->P:=by
 intro q0;(repeat' (first
  |(apply ay ?_;try clear hK K)|apply a9 ?_|(apply bU ?_ ?_<;>(intro hb hbp;try(cases hb;done)))|(apply az fun K hK=>?_)|fail))
 exact q0.o):P:=h ⟨q0⟩
def jp(q0:(J->O->m))(h:Bxx (J->O->m)->P:=by
 intro q0;(repeat' (first
  |(apply ay ?_;try clear hK K)|apply aT ?_|(apply a2 ?_ ?_<;>(intro hb hbp;try(cases hb;done)))|(apply az fun K hK=>?_)|fail))
 exact q0.o hb hbp):P:=h ⟨q0⟩
def yg(q0:m)(h:Bxx m->P:=by
 intro q0;(repeat' (first
  |(apply ay ?_;try clear hK K)|apply aT ?_|(apply a2 ?_ ?_<;>(intro hb hbp;try(cases hb;done)))|(apply az fun K hK=>?_)|fail))
 exact q0.o):P:=h ⟨q0⟩
def Y7(q0:m)(q1:(I->z->J))(h:Bxx m->Bxx (I->z->J)->P:=by
 intro q0 q1;(repeat' (first
  |(apply ay ?_;try clear hK K)|apply aT ?_|(apply a2 ?_ ?_<;>(intro hb hbp;try(cases hb;done)))|(apply az fun K hK=>?_)|(apply bV 1 [(3,12),(5,12),(7,12),(10,12)] fun K hK=>?_)|(apply bB ?_;try intro _)|(apply bY ?_ ?_<;>try clear hK K)|fail))
 exact q0.o;exact q1.o hb hbp):P:=h ⟨q0⟩ ⟨q1⟩
def ET(q0:(J->O->m))(q1:(I->z->Z))(h:Bxx (J->O->m)->Bxx (I->z->Z)->P:=by
 intro q0 q1;(repeat' (first
  |(apply ay ?_;try clear hK K)|apply a9 ?_|(apply bU ?_ ?_<;>(intro hb hbp;try(cases hb;done)))|(apply az fun K hK=>?_)|fail))
 exact q0.o hb hbp;exact q1.o hb hbp):P:=h ⟨q0⟩ ⟨q1⟩
def Y8(q0:m)(q1:J)(h:Bxx m->Bxx J->P:=by
 intro q0 q1;(repeat' (first
  |(apply ay ?_;try clear hK K)|apply a9 ?_|(apply az fun K hK=>?_)|(apply bV 1 [(4,13),(8,13),(11,13)] fun K hK=>?_)|(apply bB ?_;try intro _)|(apply bY ?_ ?_<;>try clear hK K)|fail))
 exact q0.o;exact q1.o):P:=h ⟨q0⟩ ⟨q1⟩
def EU(q0:(J->O->m))(h:Bxx (J->O->m)->P:=by
 intro q0;(repeat' (first
  |(apply ay ?_;try clear hK K)|apply aT ?_|(apply a2 ?_ ?_<;>(intro hb hbp;try(cases hb;done)))|(apply az fun K hK=>?_)|(apply uH 5 fun K hK=>?_)|(apply uH 16 fun K hK=>?_)|fail))
 exact q0.o hb hbp):P:=h ⟨q0⟩
def Y9(q0:m)(q1:J)(h:Bxx m->Bxx J->P:=by
 intro q0 q1;(repeat' (first
  |(apply ay ?_;try clear hK K)|apply a9 ?_|(apply az fun K hK=>?_)|(apply bV 1 [(0,16),(6,16),(10,16),(11,16),(12,16),(14,16)] fun K hK=>?_)|(apply bB ?_;try intro _)|(apply bY ?_ ?_<;>try clear hK K)|fail))
 exact q0.o;exact q1.o):P:=h ⟨q0⟩ ⟨q1⟩
def BR(q0:m)(q1:J)(h:Bxx m->Bxx J->P:=by
 intro q0 q1;(repeat' (first
  |(apply ay ?_;try clear hK K)|apply a9 ?_|(apply az fun K hK=>?_)|(apply bB ?_;try intro _)|(apply bY ?_ ?_<;>try clear hK K)|fail))
 exact q0.o;exact q1.o):P:=h ⟨q0⟩ ⟨q1⟩
def BS(q0:(J->O->m))(h:Bxx (J->O->m)->P:=by
 intro q0;(repeat' (first
  |(apply ay ?_;try clear hK K)|apply aT ?_|(apply a2 ?_ ?_<;>(intro hb hbp;try(cases hb;done)))|(apply az fun K hK=>?_)|fail))
 exact q0.o hb hbp):P:=h ⟨q0⟩
def ru(q0:m)(h:Bxx m->P:=by
 intro q0;(repeat' (first
  |(apply ay ?_;try clear hK K)|apply a9 ?_|(apply gL ?_ ?_<;>(intro hg hgp;try(cases hg;done)))|(apply bU ?_ ?_<;>(intro hb hbp;try(cases hb;done)))|(apply az fun K hK=>?_)|fail))
 exact q0.o):P:=h ⟨q0⟩
def ON(q0:(J->O->m))(q1:(I->z->Z))(q2:(j->Y->V))(h:Bxx (J->O->m)->Bxx (I->z->Z)->Bxx (j->Y->V)->P:=by
 intro q0 q1 q2;(repeat' (first
  |(apply ay ?_;try clear hK K)|apply a9 ?_|(apply bU ?_ ?_<;>(intro hb hbp;try(cases hb;done)))|(apply az fun K hK=>?_)|fail))
 exact q0.o hb hbp;exact q1.o hb hbp;exact q2.o hb hbp):P:=h ⟨q0⟩ ⟨q1⟩ ⟨q2⟩
def EV(q0:(J->O->m))(h:Bxx (J->O->m)->P:=by
 intro q0;(repeat' (first
  |(apply ay ?_;try clear hK K)|apply aT ?_|(apply a2 ?_ ?_<;>(intro hb hbp;try(cases hb;done)))|(apply az fun K hK=>?_)|fail))
 exact q0.o hb hbp):P:=h ⟨q0⟩
def uc(q0:(J->O->m))(h:Bxx (J->O->m)->P:=by
 intro q0;(repeat' (first
  |(apply ay ?_;try clear hK K)|apply aT ?_|(apply a2 ?_ ?_<;>(intro hb hbp;try(cases hb;done)))|(apply az fun K hK=>?_)|fail))
 exact q0.o hb hbp):P:=h ⟨q0⟩
def BT(q0:(J->O->m))(h:Bxx (J->O->m)->P:=by
 intro q0;(repeat' (first
  |(apply ay ?_;try clear hK K)|apply a9 ?_|(apply bU ?_ ?_<;>(intro hb hbp;try(cases hb;done)))|(apply az fun K hK=>?_)|fail))
 exact q0.o hb hbp):P:=h ⟨q0⟩
def OO(q0:m)(q1:J)(h:Bxx m->Bxx J->P:=by
 intro q0 q1;(repeat' (first
  |(apply ay ?_;try clear hK K)|apply aT ?_|(apply a2 ?_ ?_<;>(intro hb hbp;try(cases hb;done)))|(apply az fun K hK=>?_)|(apply bB ?_;try intro _)|(apply bY ?_ ?_<;>try clear hK K)|fail))
 exact q0.o;exact q1.o):P:=h ⟨q0⟩ ⟨q1⟩
def Za(q0:(J->O->m))(q1:(I->z->Z))(h:Bxx (J->O->m)->Bxx (I->z->Z)->P:=by
 intro q0 q1;(repeat' (first
  |(apply ay ?_;try clear hK K)|apply aT ?_|(apply a2 ?_ ?_<;>(intro hb hbp;try(cases hb;done)))|(apply az fun K hK=>?_)|fail))
 exact q0.o hb hbp;exact q1.o hb hbp):P:=h ⟨q0⟩ ⟨q1⟩
def JE(q0:(J->O->m))(h:Bxx (J->O->m)->P:=by
 intro q0;(repeat' (first
  |(apply ay ?_;try clear hK K)|apply aT ?_|(apply a2 ?_ ?_<;>(intro hb hbp;try(cases hb;done)))|(apply az fun K hK=>?_)|fail))
 exact q0.o hb hbp):P:=h ⟨q0⟩
def Zb(q0:m)(h:Bxx m->P:=by
 intro q0;(repeat' (first
  |(apply ay ?_;try clear hK K)|apply aT ?_|(apply a2 ?_ ?_<;>(intro hb hbp;try(cases hb;done)))|(apply az fun K hK=>?_)|fail))
 exact q0.o):P:=h ⟨q0⟩
def mT(q0:m)(h:Bxx m->P:=by
 intro q0;(repeat' (first
  |(apply ay ?_;try clear hK K)|apply a9 ?_|(apply az fun K hK=>?_)|fail))
 exact q0.o):P:=h ⟨q0⟩
def Zc(q0:m)(h:Bxx m->P:=by
 intro q0;(repeat' (first
  |(apply ay ?_;try clear hK K)|apply aT ?_|(apply cR ?_ ?_<;>(intro hg hgp;try(cases hg;done)))|(apply a2 ?_ ?_<;>(intro hb hbp;try(cases hb;done)))|(apply az fun K hK=>?_)|fail))
 exact q0.o):P:=h ⟨q0⟩
def OP(q0:(J->O->m))(q1:(I->z->Z))(h:Bxx (J->O->m)->Bxx (I->z->Z)->P:=by
 intro q0 q1;(repeat' (first
  |(apply ay ?_;try clear hK K)|apply a9 ?_|(apply bU ?_ ?_<;>(intro hb hbp;try(cases hb;done)))|(apply az fun K hK=>?_)|fail))
 exact q0.o hb hbp;exact q1.o hb hbp):P:=h ⟨q0⟩ ⟨q1⟩
def EW{Z:Type}{j:Z->Prop}{m:∀K,j K->Prop}(q0:(∀K hK,m K hK))(h:Bxx (∀K hK,m K hK)->P:=by
 intro q0;(repeat' (first
  |(apply ay ?_;try clear hK K)|apply aT ?_|(apply cR ?_ ?_<;>(intro hg hgp;try(cases hg;done)))|(apply a2 ?_ ?_<;>(intro hb hbp;try(cases hb;done)))|(apply az fun K hK=>?_)|fail))
 exact q0.o K hK):P:=h ⟨q0⟩
def JF(q0:m)(h:Bxx m->P:=by
 intro q0;(repeat' (first
  |(apply ay ?_;try clear hK K)|apply aT ?_|(apply a2 ?_ ?_<;>(intro hb hbp;try(cases hb;done)))|(apply az fun K hK=>?_)|fail))
 exact q0.o):P:=h ⟨q0⟩
def vx(q0:m)(h:Bxx m->P:=by
 intro q0;(repeat' (first
  |(apply ay ?_;try clear hK K)|apply a9 ?_|(apply bU ?_ ?_<;>(intro hb hbp;try(cases hb;done)))|(apply az fun K hK=>?_)|fail))
 exact q0.o):P:=h ⟨q0⟩
def JG{Z:Type}{j:Z->Prop}{m:∀K,j K->Prop}(q0:(∀K hK,m K hK))(h:Bxx (∀K hK,m K hK)->P:=by
 intro q0;(repeat' (first
  |(apply ay ?_;try clear hK K)|apply a9 ?_|(apply az fun K hK=>?_)|(apply bV 16 [(0,3),(2,3),(5,3),(5,6)] fun K hK=>?_)|(apply bB ?_;try intro _)|fail))
 exact q0.o K hK):P:=h ⟨q0⟩
def OQ(q0:(J->O->m))(h:Bxx (J->O->m)->P:=by
 intro q0;(repeat' (first
  |(apply ay ?_;try clear hK K)|apply a9 ?_|(apply bU ?_ ?_<;>(intro hb hbp;try(cases hb;done)))|(apply az fun K hK=>?_)|fail))
 exact q0.o hb hbp):P:=h ⟨q0⟩
def OR(q0:m)(h:Bxx m->P:=by
 intro q0;(repeat' (first
  |(apply ay ?_;try clear hK K)|apply aT ?_|(apply a2 ?_ ?_<;>(intro hb hbp;try(cases hb;done)))|(apply az fun K hK=>?_)|fail))
 exact q0.o):P:=h ⟨q0⟩
def Zd{Z:Type}{j:Z->Prop}{m:∀K,j K->Prop}(q0:(∀K hK,m K hK))(h:Bxx (∀K hK,m K hK)->P:=by
 intro q0;(repeat' (first
  |(apply ay ?_;try clear hK K)|apply aT ?_|(apply a2 ?_ ?_<;>(intro hb hbp;try(cases hb;done)))|(apply az fun K hK=>?_)|fail))
 exact q0.o K hK):P:=h ⟨q0⟩
def Ze{z:Type}{C:z->Prop}{J:∀K,C K->Prop}(q0:m)(q1:(∀K hK,J K hK))(h:Bxx m->Bxx (∀K hK,J K hK)->P:=by
 intro q0 q1;(repeat' (first
  |apply a9 ?_|(apply az fun K hK=>?_)|(apply bB ?_;try intro _)|(apply bY ?_ ?_<;>try clear hK K)|fail))
 exact q0.o;exact q1.o K hK):P:=h ⟨q0⟩ ⟨q1⟩
def JH(q0:m)(h:Bxx m->P:=by
 intro q0;(repeat' (first
  |(apply ay ?_;try clear hK K)|apply a9 ?_|(apply az fun K hK=>?_)|fail))
 exact q0.o):P:=h ⟨q0⟩
def EX{Z:Type}{j:Z->Prop}{m:∀K,j K->Prop}(q0:(∀K hK,m K hK))(h:Bxx (∀K hK,m K hK)->P:=by
 intro q0;(repeat' (first
  |(apply ay ?_;try clear hK K)|apply aT ?_|(apply a2 ?_ ?_<;>(intro hb hbp;try(cases hb;done)))|(apply az fun K hK=>?_)|fail))
 exact q0.o K hK):P:=h ⟨q0⟩
def Zf{Z:Type}{j:Z->Prop}{m:∀K,j K->Prop}(q0:(∀K hK,m K hK))(h:Bxx (∀K hK,m K hK)->P:=by
 intro q0;(repeat' (first
  |(apply ay ?_;try clear hK K)|apply aT ?_|(apply az fun K hK=>?_)|(apply uH 10 fun K hK=>?_)|fail))
 exact q0.o K hK):P:=h ⟨q0⟩
def mA(q0:m)(h:Bxx m->P:=by
 intro q0;(repeat' (first
  |(apply ay ?_;try clear hK K)|apply a9 ?_|(apply az fun K hK=>?_)|fail))
 exact q0.o):P:=h ⟨q0⟩
def BU(q0:m)(h:Bxx m->P:=by
 intro q0;(repeat' (first
  |(apply ay ?_;try clear hK K)|apply a9 ?_|(apply az fun K hK=>?_)|fail))
 exact q0.o):P:=h ⟨q0⟩
def fT{Z:Type}{j:Z->Prop}{m:∀K,j K->Prop}(q0:(∀K hK,m K hK))(h:Bxx (∀K hK,m K hK)->P:=by
 intro q0;(repeat' (first
  |(apply ay ?_;try clear hK K)|apply a9 ?_|(apply az fun K hK=>?_)|fail))
 exact q0.o K hK):P:=h ⟨q0⟩
def Zg{Z:Type}{j:Z->Prop}{m:∀K,j K->Prop}(q0:(∀K hK,m K hK))(h:Bxx (∀K hK,m K hK)->P:=by
 intro q0;(repeat' (first
  |(apply ay ?_;try clear hK K)|apply aT ?_|(apply az fun K hK=>?_)|fail))
 exact q0.o K hK):P:=h ⟨q0⟩
def OS{Z:Type}{j:Z->Prop}{m:∀K,j K->Prop}(q0:(∀K hK,m K hK))(h:Bxx (∀K hK,m K hK)->P:=by
 intro q0;(repeat' (first
  |(apply ay ?_;try clear hK K)|apply a9 ?_|(apply bU ?_ ?_<;>(intro hb hbp;try(cases hb;done)))|(apply az fun K hK=>?_)|fail))
 exact q0.o K hK):P:=h ⟨q0⟩
def BV(q0:m)(h:Bxx m->P:=by
 intro q0;(repeat' (first
  |(apply ay ?_;try clear hK K)|apply aT ?_|(apply az fun K hK=>?_)|fail))
 exact q0.o):P:=h ⟨q0⟩
def OT{Z:Type}{j:Z->Prop}{m:∀K,j K->Prop}(q0:(∀K hK,m K hK))(h:Bxx (∀K hK,m K hK)->P:=by
 intro q0;(repeat' (first
  |(apply ay ?_;try clear hK K)|apply a9 ?_|(apply az fun K hK=>?_)|fail))
 exact q0.o K hK):P:=h ⟨q0⟩
def yh(q0:m)(h:Bxx m->P:=by
 intro q0;(repeat' (first
  |apply a9 ?_|(apply bB ?_;try intro _)|fail))
 exact q0.o):P:=h ⟨q0⟩
def Zh(q0:m)(h:Bxx m->P:=by
 intro q0;(repeat' (first
  |(apply ay ?_;try clear hK K)|apply a9 ?_|fail))
 exact q0.o):P:=h ⟨q0⟩
noncomputable section
open Go
inductive T (α:Type) where
 |e
 |n (v:Option α) (l r:T α)
def mU{J:Type}(b:Bool)(x y:J):J:=Bool.rec y x b
def T.get{J:Type}(t:T J):Nat->Option J:=
 T.rec (motive:=fun _=>Nat->Option J) (fun _=>none)
  (fun v _ _ j Z k=>mU (Nat.beq k 0) v (mU (Nat.beq (Nat.mod k 2) 1) (j (Nat.div k 2)) (Z (Nat.sub (Nat.div k 2) 1)))) t
def yj{J:Type}(v:Option J)(f:Nat):T J->Nat->T J:=
 Nat.rec (motive:=fun _=>T J->Nat->T J) (fun t _=>t)
  (fun _ ih t k=>T.casesOn t
    (mU (Nat.beq k 0) (.n v .e .e) (mU (Nat.beq (Nat.mod k 2) 1) (.n none (ih .e (Nat.div k 2)) .e) (.n none .e (ih .e (Nat.sub (Nat.div k 2) 1)))))
    (fun u l r=>mU (Nat.beq k 0) (.n v l r) (mU (Nat.beq (Nat.mod k 2) 1) (.n u (ih l (Nat.div k 2)) r) (.n u l (ih r (Nat.sub (Nat.div k 2) 1)))))) f
def T.set{J:Type}(t:T J)(k:Nat)(v:Option J):T J:=yj v (k+1) t k
inductive Sx where
 |var (i:Nat)
 |lit (n:Int)
 |de (op:BinOp) (k:IntKind) (a b:Sx)
 |eB (k:IntKind) (a:Sx)
inductive AV where
 |int (k:IntKind) (n:Int)
 |sx (k:IntKind) (e:Sx)
 |bool (b:Bool)
 |ay (s:qD)
 |aF|bV|cj|ao
 |ptr (r:Nat) (off:Nat)
 |bP (cs:List AV)
 |sl (r off len z:Nat)
 |aE (xs:List (List AV))
 |map (r:Nat)
 |cw (f:Nat) (cap:List AV)
 |agg (cs:List AV)
 |bH (vs:List AV)
abbrev qU:=List (AV×AV)
abbrev qP:=List (Nat×AV)
abbrev qI:=Option AV
abbrev qB:=List AV
inductive HB where
 |cells (cs:qB) (imm:Nat) (tip:Bool)
 |map (es:qU)
structure Hp where
 next:Nat
 t:T HB
def Hp.get(h:Hp)(r:Nat):Option HB:=h.t.get r
def Hp.set(h:Hp)(r:Nat)(b:HB):Hp:={next:=h.next,t:=h.t.set r (some b) }
def Hp.bh(h:Hp)(r:Nat):Hp:={next:=h.next,t:=h.t.set r none}
def Hp.alloc(h:Hp)(b:HB):Hp:={next:=h.next+1,t:=h.t.set h.next (some b) }
inductive zf1 where
 |text
 |b7 (ord:qG)
 |split (p q:Nat) (a b:zf1)
structure Cfg where
 keep:FuncId->Bool
 cS:BinOp->Sx->Sx->qK:=fun _ _ _=>none
 call:FuncId->qB->qI:=fun _ _=>none
 bU:FuncId->Bool:=fun _=>false
 cD:FuncId->Nat->zf1:=fun _ _=>.text
 cm:FuncId->Bool:=fun _=>false
abbrev aw:=T AV
def dq:AV:=.bH []
def aw.at(E:aw)(t:Nat):AV:=(T.get E t).getD dq
def BW:Value->qI
 | .int k n=>some (.int k n)
 | .bool b=>some (.bool b)
 | .string s=>some (.ay s.data.toList)
 | .pointer none=>some .aF
 | .slice none 0 0=>some .ao
 | .map none=>some .bV
 | .nilFunc=>some .cj
 |_=>none
def zW:Value->qI
 | .agg O=>(O.toList.mapM BW).map .agg
 |v=>BW v
def aM(E:aw):Operand->qI
 | .tmp t=>some (E.at t)
 | .const v=>zW v
 | .global _=>none
 | .func f=>some (.cw f [])
def jE(E:aw):List Operand->Option qB
 |[]=>some []
 |x::xs=>match aM E x,jE E xs with
  |some v,some vs=>some (v::vs)
  |_,_=>none
def AV.cells:AV->qB
 | .agg O=>O
 |v=>[v]
def AV.one:AV->Bool
 | .agg _|.bH _=>false
 |_=>true
section
variable (P:Program)
def bp(t:TypeId):qN:=(P.info? t).map (·.size)
def cT(t:TypeId):qN:=(P.info? t).map (·.bytes)
def zX(t:TypeId):qI:=
 match P.info? t with
 |some {zero:=some z,.. }=>zW z
 |_=>none
def cC(t:TypeId):Option qB:=
 match zX P t with
 |some v=>some v.cells
 |none=>none
def cF(t:TypeId)(cs:qB)(off:Nat):qI:=
 match P.underlying t with
 |some (.struct _)|some (.array _ _)=>
  match bp P t with
  |some s=>let l:=(cs.drop off).take s;if l.length=s then some (.agg l)else none
  |none=>none
 |some _=>cs[off]?
 |none=>none
def eP(H:Hp)(t:TypeId):AV->qI
 | .ptr r L=>match H.get r with
   |some (.cells O _ _)=>cF P t O L
   |_=>none
 | .bP O=>cF P t O 0
 |_=>none
def splice(cs:qB)(off:Nat)(L:qB):qB:=cs.take off++L++cs.drop (off+L.length)
def jY(H:Hp)(t:TypeId)(a v:AV):Option Hp:=
 match a with
 | .ptr r L=>match H.get r,bp P t with
   |some (.cells O Y z),some s=>
    if v.cells.length=s/\Y<=L/\L+s<=O.length/\v.cells.all AV.one then some (H.set r (.cells (splice O L v.cells) Y z))else none
   |_,_=>none
 |_=>none
def wL(t:TypeId)(a:AV)(i:Nat):qI:=
 match P.underlying t with
 |some (.struct m)=>match m[i]? with
  |some f=>match bp P f.type with
   |some (_+1)=>match a with
    | .ptr r L=>some (.ptr r (L+f.offset))
    | .bP O=>some (.bP (O.drop f.offset))
    |_=>none
   |_=>none
  |none=>none
 |_=>none
def yk(t:TypeId)(x:AV)(i:Nat):qI:=
 match P.underlying t,x with
 |some (.struct m),.agg O=>match m[i]? with
  |some f=>cF P f.type O f.offset
  |none=>none
 |_,_=>none
def znF(n:Int):qN:=match n with|.ofNat k=>some k |_=>none
def dK(t:TypeId)(x i:AV):qI:=
 match i with
 | .int _ (.ofNat k)=>match P.underlying t with
   |some (.slice e)=>match bp P e with
    |some s=>match x with
     | .sl r L Y _=>if k<Y then some (.ptr r (L+k*s))else none
     | .aE z=>match z[k]? with
       |some Z=>if Z.length=s then some (.bP Z)else none
       |none=>none
     |_=>none
    |none=>none
   |some (.array n e)=>match bp P e with
    |some s=>match x with
     | .ptr r L=>if k<n then some (.ptr r (L+k*s))else none
     |_=>none
    |none=>none
   |_=>none
 |_=>none
def ud(t:TypeId)(x i:AV):qI:=
 match i with
 | .int _ (.ofNat k)=>match P.underlying t,x with
   |some .string,.ay s=>match s[k]? with
    |some b=>some (.int .u8 b.toNat)
    |none=>none
   |some (.array n e),.agg O=>if k<n then (match bp P e with|some s=>cF P e O (k*s)|none=>none)else none
   |_,_=>none
 |_=>none
def jc(d:Nat):qI->qN
 |none=>some d
 |some (.int _ (.ofNat k))=>some k
 |some _=>none
def jZ(t:TypeId)(x:AV)(lo O:qI):qI:=
 match P.underlying t,x with
 |some .string,.ay s=>
  match jc 0 lo,jc s.length O with
  |some l,some h=>if l<=h/\h<=s.length then some (.ay ((s.drop l).take (h-l)))else none
  |_,_=>none
 |some (.slice e),x=>match bp P e with
  |some z=>match x with
   | .sl r L Y V=>match jc 0 lo,jc Y O with
     |some l,some h=>if l<=h/\h<=Y/\V=z then (if l=h then some (.aE [])else some (.sl r (L+l*z) (h-l) z))else none
     |_,_=>none
   | .aE Z=>match jc 0 lo,jc Z.length O with
     |some l,some h=>if l<=h/\h<=Z.length then (match (Z.drop l).take (h-l)with
      |[]=>some (.aE [])
      |row::rows=>if row.length=z then some (.aE (row::rows))else none)else none
     |_,_=>none
   | .ao=>match jc 0 lo,jc 0 O with
     |some 0,some 0=>some .ao
     |_,_=>none
   |_=>none
  |none=>none
 |_,_=>none
def sc(H:Hp)(t:TypeId)(x:AV)(lo O:qI):qI:=
 match x with
 | .ptr r L=>match P.underlying t,H.get r with
   |some (.array n e),some (.cells Z _ _)=>match bp P e,jc 0 lo,jc n O with
    |some z,some l,some h=>if l<=h/\h<=n/\L+n*z<=Z.length then (if l=h then some (.aE [])else some (.sl r (L+l*z) (h-l) z))else none
    |_,_,_=>none
   |_,_=>none
 |x=>jZ P t x lo O
def ue(L:Nat->Option (Nat×Nat))(cells:qB):qP->Option qB
 |[]=>some cells
 |(i,v)::rest=>match L i with
  |none=>none
  |some (Z,I)=>if v.cells.length≠I\/Z+v.cells.length > cells.length then none else ue L (splice cells Z v.cells) rest
def mV(E:aw):List (Nat×Operand)->Option qP
 |[]=>some []
 |(i,x)::rest=>match aM E x,mV E rest with
  |some v,some vs=>some ((i,v)::vs)
  |_,_=>none
def OU(m:List Field):Option qS:=m.mapM fun f=>(P.info? f.type).map fun i=>(f.offset,i.size)
def eg(t:TypeId)(C:qP):qI:=
 match cC P t,P.underlying t with
 |some z,some (.struct m)=>match OU P m.toList with
  |some J=>match ue (fun i=>J[i]?) z C with
   |some O=>some (.agg O)
   |none=>none
  |none=>none
 |some z,some (.array _ e)=>match bp P e with
  |some s=>match ue (fun i=>some (i*s,s)) z C with
   |some O=>some (.agg O)
   |none=>none
  |none=>none
 |_,_=>none
def jO(z:qB):Nat->qB
 |0=>[]
 |n+1=>z++jO z n
def eW(H:Hp)(t:TypeId)(len:Nat)(C:qP):Option (AV×Hp):=
 match P.underlying t with
 |some (.slice e)=>match bp P e,cC P e with
  |some s,some z=>if len*s<=16777216/\z.length=s then (match ue (fun i=>some (i*s,s)) (jO z len) C with
   |some O=>some (.sl H.next 0 len s,H.alloc (.cells O 0 true))
   |none=>none)else none
  |_,_=>none
 |_=>none
def ej:Nat:=70368744177664   -- 2^46
def gg(H:Hp)(s:Nat):AV->Option (Nat×qB)
 | .sl r L Y _=>match H.get r with
   |some (.cells O _ _)=>let l:=(O.drop L).take (Y*s);if l.length=Y*s then some (Y,l)else none
   |_=>none
 | .aE z=>if z.all (fun Z=>Z.length == s)then some (z.length,z.flatten)else none
 | .ao=>some (0,[])
 | .ay b=>if s=1 then some (b.length,b.map fun x=>.int .u8 x.toNat)else none
 |_=>none
def oD(keep:Bool)(H:Hp)(s b:Nat)(sv:AV)(n:Nat)(Z:qB):Option (AV×Hp):=
 match sv with
 | .ao=>if n*b<=ej/\n<=ej then some (.sl H.next 0 n s,H.alloc (.cells Z 0 true))else none
 | .sl r L Y z=>match H.get r with
   |some (.cells O V true)=>
    if (Y+n)*b<=ej/\Y+n<=ej/\L+Y*s=O.length/\z=s/\V<=O.length then
     (if keep then some (.sl H.next 0 (Y+n) s,(H.set r (.cells O O.length false)).alloc (.cells (O.drop L++Z) (Y*s) true))
      else some (.sl H.next 0 (Y+n) s,(H.bh r).alloc (.cells (O.drop L++Z) (V-L) true)))
    else none
   |_=>none
 |_=>none
def iM(keep:Bool)(H:Hp)(s:Nat):AV->Hp
 | .sl r L Y _=>match H.get r with
   |some (.cells O Z true)=>match !keep&&Nat.blt (L+Y*s) O.length&&Nat.ble Z (L+Y*s)with
    |true=>H.set r (.cells (O.take (L+Y*s)) Z true)
    |false=>H
   |_=>H
 |_=>H
def jF(t:TypeId):Bool:=
 match P.underlying t with
 |some (.slice _)|some .string=>true
 |_=>false
def OV(keep:Bool)(H:Hp)(s b:Nat)(z:qB)(u:TypeId)(sv x:AV):Option (AV×Hp):=
 match P.underlying u,x with
 |some (.int _),.int _ (.ofNat m)=>
  if m*b<=ej/\m<=ej/\z.length=s/\z.all AV.one=true then
   (match m with
   |0=>(match sv with
    | .sl ..|.aE _|.ao=>some (sv,H)
    |_=>none)
   |m+1=>oD keep (iM keep H s sv) s b sv (m+1) (jO z (m+1)))
  else none
 |_,_=>none
def dr(keep:Bool)(H:Hp)(t u:TypeId)(sv x:AV):Option (AV×Hp):=
 match P.underlying t with
 |some (.slice e)=>match bp P e,cT P e,cC P e with
  |some s,some b,some z=>match jF P u,gg H s x with
   |true,some (0,_)=>match sv with
    | .sl ..|.aE _|.ao=>some (sv,H)
    |_=>none
   |true,some (n,L)=>if L.all AV.one/\z.length=s then oD keep (iM keep H s sv) s b sv n L else none
   |_,_=>OV P keep H s b z u sv x
  |_,_,_=>none
 |_=>none
def wM(m:TypeDesc)(x y:AV):qK:=
 match m with
 | .int _=>match x,y with
   | .int k a,.int k' b=>if k=k' then some (a == b)else none
   |_,_=>none
 | .string=>match x,y with
   | .ay a,.ay b=>some (a == b)
   |_,_=>none
 | .bool=>match x,y with
   | .bool a,.bool b=>some (a == b)
   |_,_=>none
 |_=>none
def vy(t:TypeId):Option TypeDesc:=
 match P.underlying t with
 |some (.int k)=>some (.int k)
 |some .string=>some .string
 |some .bool=>some .bool
 |_=>none
def lP(m:TypeDesc)(k:AV):qU->Nat->Option (Option (Nat×AV))
 |[],_=>some none
 |(k',v)::es,i=>match wM m k k' with
  |some true=>some (some (i,v))
  |some false=>lP m k es (i+1)
  |none=>none
def BX(H:Hp):AV->Option qU
 | .bV=>some []
 | .map r=>match H.get r with
   |some (.map V)=>some V
   |_=>none
 |_=>none
def JI(ok:Bool)(v:AV)(m:Bool):AV:=match ok with
 |true=>.bH [v,.bool m]
 |false=>v
def sd(H:Hp)(t:TypeId)(m k:AV)(ok:Bool):qI:=
 match P.underlying t with
 |some (.map V e)=>match BX H m,vy P V with
  |some Y,some Z=>match lP Z k Y 0 with
   |some (some (_,v))=>some (JI ok v true)
   |some none=>match zX P e with
    |some v=>some (JI ok v false)
    |none=>none
   |none=>none
  |_,_=>none
 |_=>none
def te(H:Hp)(t:TypeId)(m k v:AV):Option Hp:=
 match P.underlying t with
 |some (.map Y _)=>match m,vy P Y with
  | .map r,some Z=>match H.get r with
    |some (.map V)=>match lP Z k V 0 with
     |some (some (i,_))=>some (H.set r (.map (V.set i (k,v))))
     |some none=>some (H.set r (.map (V++[(k,v)])))
     |none=>none
    |_=>none
  |_,_=>none
 |_=>none
def yl:qD->qD->Bool
 |_,[]=>false
 |[],_::_=>true
 |a::x,b::y=>a<b||(a == b&&yl x y)
def kQ(op:BinOp)(k:IntKind)(a b:Int):qI:=
 match op with
 | .add=>some (.int k (k.wrap (a+b)))
 | .sub=>some (.int k (k.wrap (a-b)))
 | .mul=>some (.int k (k.wrap (a*b)))
 | .quo=>if b=0 then none else some (.int k (k.wrap (a.tdiv b)))
 | .rem=>if b=0 then none else some (.int k (a.tmod b))
 | .and=>some (.int k (k.wrap (BitVec.ofInt k.bits a &&& BitVec.ofInt k.bits b).toNat))
 | .or=>some (.int k (k.wrap (BitVec.ofInt k.bits a |||BitVec.ofInt k.bits b).toNat))
 | .xor=>some (.int k (k.wrap (BitVec.ofInt k.bits a^^^ BitVec.ofInt k.bits b).toNat))
 | .andNot=>some (.int k (k.wrap (BitVec.ofInt k.bits a &&& ~~~ BitVec.ofInt k.bits b).toNat))
 | .eql=>some (.bool (a == b))
 | .neq=>some (.bool (a != b))
 | .lss=>some (.bool (a<b))
 | .leq=>some (.bool (a<=b))
 | .gtr=>some (.bool (a > b))
 | .geq=>some (.bool (a>=b))
 |_=>none
def JJ(op:BinOp)(k:IntKind)(a b:Int):Int:=
 match kQ op k a b with
 |some (.int _ n)=>n
 |_=>0
def Sx.eval(ρ:Nat->Int):Sx->Int
 | .var i=>ρ i
 | .lit n=>n
 | .de op k a b=>JJ op k (a.eval ρ) (b.eval ρ)
 | .eB k a=>k.wrap (a.eval ρ)
def EY:AV->Option (IntKind×Sx)
 | .int k n=>some (k,.lit n)
 | .sx k e=>some (k,e)
 |_=>none
def JK(D:BinOp->Sx->Sx->qK)(op:BinOp)(k:IntKind)(a b:Sx):qI:=
 match op with
 | .add=>some (.sx k (.de .add k a b))
 | .sub=>some (.sx k (.de .sub k a b))
 | .mul=>some (.sx k (.de .mul k a b))
 | .and=>some (.sx k (.de .and k a b))
 | .or=>some (.sx k (.de .or k a b))
 | .xor=>some (.sx k (.de .xor k a b))
 | .andNot=>some (.sx k (.de .andNot k a b))
 | .quo=>match D .eql b (.lit 0)with
   |some false=>some (.sx k (.de .quo k a b))
   |_=>none
 | .rem=>match D .eql b (.lit 0)with
   |some false=>some (.sx k (.de .rem k a b))
   |_=>none
 | .shl=>none
 | .shr=>none
 |op=>match D op a b with
  |some r=>some (.bool r)
  |none=>none
def EZ(D:BinOp->Sx->Sx->qK)(op:BinOp)(x y:AV):qI:=
 match EY x,EY y with
 |some (k,a),some (k',b)=>if k=k' then JK D op k a b else none
 |_,_=>none
def BY(op:BinOp)(a b:qD):qI:=
 match op with
 | .add=>if a.length+b.length<=ej then some (.ay (a++b))else none
 | .eql=>some (.bool (a == b))
 | .neq=>some (.bool !(a == b))
 | .lss=>some (.bool (yl a b))
 | .leq=>some (.bool (yl a b||a == b))
 | .gtr=>some (.bool !(yl a b||a == b))
 | .geq=>some (.bool !(yl a b))
 |_=>none
def E6(t:TypeId)(x y:AV):qK:=
 match P.underlying t with
 |some .bool=>match x,y with
  | .bool a,.bool b=>some (a == b)
  |_,_=>none
 |some (.pointer _)=>match x,y with
  | .aF,.aF=>some true
  | .ptr _ _,.aF|.aF,.ptr _ _|.bP _,.aF|.aF,.bP _=>some false
  |_,_=>none
 |some (.map _ _)=>match x,y with
  | .bV,.bV=>some true
  | .map _,.bV|.bV,.map _=>some false
  |_,_=>none
 |some (.func _ _ _)=>match x,y with
  | .cj,.cj=>some true
  | .cw _ _,.cj|.cj,.cw _ _=>some false
  |_,_=>none
 |some (.slice _)=>match x,y with
  | .ao,.ao=>some true
  | .sl _ _ _ _,.ao|.ao,.sl _ _ _ _|.aE (_::_),.ao|.ao,.aE (_::_)=>some false
  |_,_=>none
 |_=>none
def JL(t:TypeId)(x y:AV):qK:=
 match x,y with
 | .int k a,.int k' b=>match P.underlying t with
   |some (.int _)=>if k=k' then some (a == b)else none
   |_=>none
 | .ay a,.ay b=>match P.underlying t with
   |some .string=>some (a == b)
   |_=>none
 |x,y=>E6 P t x y
def zY(xs Y:qB):List Field->qK
 |[]=>some true
 |f::fs=>match f.name == "_" with
  |true=>zY xs Y fs
  |false=>match cF P f.type xs f.offset,cF P f.type Y f.offset with
   |some a,some b=>match JL P f.type a b with
    |some true=>zY xs Y fs
    |some false=>some false
    |none=>none
   |_,_=>none
def E7(t:TypeId)(xs Y:qB):qK:=
 match P.underlying t with
 |some (.struct m)=>match P.stoodInHeld t||P.eqGuardType P.depth t with
  |true=>none
  |false=>zY P xs Y m.toList
 |_=>none
def ym(t:TypeId)(x y:AV):qK:=
 match x,y with
 | .agg z,.agg Y=>E7 P t z Y
 |x,y=>E6 P t x y
def wN(op:BinOp)(k:IntKind)(a b:Int):qI:=
 match b with
 | .ofNat m=>match op with
   | .shl=>some (.int k (k.wrap (a*2^ min m k.bits)))
   | .shr=>some (.int k (a.fdiv (2^ min m k.bits)))
   |_=>none
 |_=>none
def vz(op:BinOp)(k I:IntKind)(a b:Int):qI:=
 match op with
 | .shl=>wN .shl k a b
 | .shr=>wN .shr k a b
 |op=>if k=I then kQ op k a b else none
def JM(op:BinOp)(t:TypeId)(x y:AV):qI:=
 match op with
 | .eql=>match ym P t x y with
   |some b=>some (.bool b)
   |none=>none
 | .neq=>match ym P t x y with
   |some b=>some (.bool !b)
   |none=>none
 |_=>none
def dQ(D:BinOp->Sx->Sx->qK)(op:BinOp)(t:TypeId)(x y:AV):qI:=
 match x,y with
 | .int k a,.int k' b=>vz op k k' a b
 | .ay a,.ay b=>BY op a b
 | .sx k a,y=>EZ D op (.sx k a) y
 | .int k a,.sx k' b=>EZ D op (.int k a) (.sx k' b)
 |x,y=>JM P op t x y
def vA(op:UnOp)(x:AV):qI:=
 match op,x with
 | .neg,.sx k e=>some (.sx k (.de .sub k (.lit 0) e))
 | .xor,.sx k e=>some (.sx k (.de .xor k (.lit (if k.signed then -1 else k.max)) e))
 | .neg,.int k n=>kQ .sub k 0 n
 | .xor,.int k n=>kQ .xor k (if k.signed then -1 else k.max) n
 | .not,.bool b=>some (.bool !b)
 |_,_=>none
def yn:qB->Option qD
 |[]=>some []
 | .int .u8 n::cs=>match yn cs with
   |some bs=>some (UInt8.ofNat n.toNat::bs)
   |none=>none
 |_=>none
def mW(H:Hp)(L J:TypeId)(x:AV):qI:=
 match P.underlying L,P.underlying J with
 |some (.slice e),some .string=>match P.underlying e with
  |some (.int .u8)=>match gg H 1 x with
   |some (_,O)=>match yn O with
    |some bs=>match x with
     | .sl _ _ _ _|.ao=>some (.ay bs)
     |_=>none
    |none=>none
   |none=>none
  |_=>none
 |some _,some (.int k)=>match x with
  | .int _ n=>some (.int k (k.wrap n))
  | .sx _ e=>some (.sx k (.eB k e))
  |_=>none
 |some .string,some .string=>match x with
  | .ay s=>some (.ay s)
  |_=>none
 |_,_=>none
def jq(H:Hp)(t:TypeId)(l c:AV):Option (AV×Hp):=
 match P.underlying t,l,c with
 |some (.slice e),.int _ (.ofNat l),.int _ (.ofNat c)=>match bp P e,cT P e,cC P e with
  |some s,some b,some z=>if l<=c/\c*b<=ej/\c<=ej/\z.length=s then some (.sl H.next 0 l s,H.alloc (.cells (jO z l) 0 true))else none
  |_,_,_=>none
 |_,_,_=>none
def extract(x:AV)(i:Nat):qI:=
 match x with
 | .bH vs=>vs[i]?
 |_=>none
def mm(z:Bool):AV->AV->qI
 | .int k x,.int _ y=>some (.int k (if (if z then decide (y > x)else decide (y<x))then y else x))
 |_,_=>none
def wO(Z:Bool)(x:AV):qB->qI
 |[]=>some x
 |y::ys=>match mm Z x y with
  |some z=>wO Z z ys
  |none=>none
def jP(H:Hp)(t:TypeId)(x:AV):qI:=
 match P.underlying t with
 |some .string=>match x with
  | .ay s=>some (.int .i64 s.length)
  |_=>none
 |some (.slice _)=>match x with
  | .sl _ _ n _=>some (.int .i64 n)
  | .aE z=>some (.int .i64 z.length)
  | .ao=>some (.int .i64 0)
  |_=>none
 |some (.array n _)=>some (.int .i64 n)
 |some (.map _ _)=>match BX H x with
  |some V=>some (.int .i64 V.length)
  |none=>none
 |_=>none
def uf(keep:Bool)(H:Hp)(b:Builtin)(L:List TypeId)(args:qB):Option (AV×Hp):=
 match b with
 | .append=>match L,args with
   |[t,u],[s,x]=>dr P keep H t u s x
   |_,_=>none
 | .len=>match L,args with
   |[t],[x]=>match jP P H t x with
    |some v=>some (v,H)
    |none=>none
   |_,_=>none
 | .max=>match args with
   |x::xs=>match wO true x xs with
    |some v=>some (v,H)
    |none=>none
   |[]=>none
 | .min=>match args with
   |x::xs=>match wO false x xs with
    |some v=>some (v,H)
    |none=>none
   |[]=>none
 |_=>none
def ret(H:Hp):qI->Option (AV×Hp)
 |some v=>some (v,H)
 |none=>none
def Fa(E:aw)(H:Hp)(c a b:Operand):Option (AV×Hp):=
 match aM E c with
 |some (.bool true)=>ret H (aM E a)
 |some (.bool false)=>ret H (aM E b)
 |_=>none
def BZ(H:Hp)(t:TypeId):Option (AV×Hp):=
 match cC P t with
 |some z=>some (.ptr H.next 0,H.alloc (.cells z 0 true))
 |none=>none
def B0(E:aw)(H:Hp)(x:Operand):Option (AV×Hp):=
 match aM E x with
 |some v=>some (.ptr H.next 0,H.alloc (.cells v.cells 0 true))
 |none=>none
def Fc(E:aw)(H:Hp)(t:TypeId)(C:Array (Nat×Operand)):Option (AV×Hp):=
 match mV E C.toList with
 |some z=>ret H (eg P t z)
 |none=>none
def B3(E:aw)(H:Hp)(t:TypeId)(len:Nat)(C:Array (Nat×Operand)):Option (AV×Hp):=
 match mV E C.toList with
 |some z=>eW P H t len z
 |none=>none
def B4(E:aw)(H:Hp)(t:TypeId)(a:Operand):Option (AV×Hp):=
 match aM E a with
 |some v=>ret H (eP P H t v)
 |none=>none
def Fe(E:aw)(H:Hp)(t:TypeId)(a x:Operand):Option (AV×Hp):=
 match aM E a,aM E x with
 |some a,some x=>match jY P H t a x with
  |some H=>some (dq,H)
  |none=>none
 |_,_=>none
def Fh(E:aw)(H:Hp)(x:Operand):Option (AV×Hp):=
 match aM E x with
 |some (.ptr r o)=>some (.ptr r o,H)
 |some (.bP O)=>some (.bP O,H)
 |_=>none
def Fk(D:BinOp->Sx->Sx->qK)(E:aw)(H:Hp)(op:BinOp)(t:TypeId)(x y:Operand):Option (AV×Hp):=
 match aM E x,aM E y with
 |some x,some y=>ret H (dQ P D op t x y)
 |_,_=>none
def Fl(E:aw)(H:Hp)(op:UnOp)(x:Operand):Option (AV×Hp):=
 match aM E x with
 |some x=>ret H (vA op x)
 |none=>none
def B5(E:aw)(H:Hp)(s d:TypeId)(x:Operand):Option (AV×Hp):=
 match aM E x with
 |some x=>ret H (mW P H s d x)
 |none=>none
def Fm(E:aw)(H:Hp)(fn:Fn)(first O:Array Operand):Option (AV×Hp):=
 match fn,first.toList,jE E O.toList with
 | .func f,[],some vs=>some (.cw f vs,H)
 |_,_,_=>none
def B6(H:Hp)(r:Option Operand):Option (AV×Hp):=
 match r with
 |none=>some (.map H.next,H.alloc (.map []))
 |some _=>none
def B7(E:aw)(H:Hp)(t:TypeId)(l c:Operand):Option (AV×Hp):=
 match aM E l,aM E c with
 |some l,some c=>jq P H t l c
 |_,_=>none
def mB(E:aw):Option Operand->Option qI
 |none=>some none
 |some x=>match aM E x with
  |some v=>some (some v)
  |none=>none
def B8(E:aw)(H:Hp)(t:TypeId)(x:Operand)(lo O z:Option Operand):Option (AV×Hp):=
 match z,aM E x,mB E lo,mB E O with
 |none,some x,some l,some h=>ret H (sc P H t x l h)
 |_,_,_,_=>none
def Fo(E:aw)(H:Hp)(t:TypeId)(x:Operand)(f:Nat):Option (AV×Hp):=
 match aM E x with
 |some x=>ret H (wL P t x f)
 |none=>none
def Fp(E:aw)(H:Hp)(t:TypeId)(x:Operand)(f:Nat):Option (AV×Hp):=
 match aM E x with
 |some x=>ret H (yk P t x f)
 |none=>none
def Fs(E:aw)(H:Hp)(t:TypeId)(x i:Operand):Option (AV×Hp):=
 match aM E x,aM E i with
 |some x,some i=>ret H (dK P t x i)
 |_,_=>none
def Ft(E:aw)(H:Hp)(t:TypeId)(x i:Operand):Option (AV×Hp):=
 match aM E x,aM E i with
 |some x,some i=>ret H (ud P t x i)
 |_,_=>none
def B9(E:aw)(H:Hp)(t:TypeId)(m k:Operand)(ok:Bool):Option (AV×Hp):=
 match aM E m,aM E k with
 |some m,some k=>ret H (sd P H t m k ok)
 |_,_=>none
def Fv(E:aw)(H:Hp)(t:TypeId)(m k v:Operand):Option (AV×Hp):=
 match aM E m,aM E k,aM E v with
 |some m,some k,some v=>match te P H t m k v with
  |some H=>some (dq,H)
  |none=>none
 |_,_,_=>none
def Fw(E:aw)(H:Hp)(x:Operand)(i:Nat):Option (AV×Hp):=
 match aM E x with
 |some x=>ret H (extract x i)
 |none=>none
def dL(D:BinOp->Sx->Sx->qK)(E:aw)(H:Hp)(op:Op):Option (AV×Hp):=
 match op with
 | .move x=>ret H (aM E x)
 | .assign x=>ret H (aM E x)
 | .pick c a b=>Fa E H c a b
 | .alloc t=>BZ P H t
 | .box _ x=>B0 E H x
 | .build t C=>Fc P E H t C
 | .buildSlice t Y C=>B3 P E H t Y C
 | .load t a=>B4 P E H t a
 | .store t a x=>Fe P E H t a x
 | .nilCheck x=>Fh E H x
 | .binOp op t x y _=>Fk P D E H op t x y
 | .unOp op _ x=>Fl E H op x
 | .convert s d x=>B5 P E H s d x
 | .makeFunc fn first O=>Fm E H fn first O
 | .makeMap _ r=>B6 H r
 | .makeSlice t l c=>B7 P E H t l c
 | .slice t x V Z z=>B8 P E H t x V Z z
 | .fieldAddr t x f=>Fo P E H t x f
 | .field t x f=>Fp P E H t x f
 | .indexAddr t x i=>Fs P E H t x i
 | .index t x i=>Ft P E H t x i
 | .lookup t m k ok=>B9 P E H t m k ok
 | .mapUpdate t m k v=>Fv P E H t m k v
 | .extract x i=>Fw E H x i
 |_=>none
inductive zd5 where
 |aT (f:FuncId) (N:Nat) (c:Code) (E:aw) (H:Hp)
 |call (f:FuncId) (args:qB) (H:Hp)
inductive AX where
 |normal|exit (id:Nat)|ret
inductive Res where
 |done (x:AX) (E:aw) (H:Hp)
 |val (v:AV) (H:Hp)
 |a5
def gI(N:Nat)(E:aw)(J:Option Tmp)(v:AV):Option aw:=
 match J with
 |some d=>match Nat.blt d N with
  |true=>some (T.set E d (some v))
  |false=>none
 |none=>some E
def Fx(ops:qE)(E:aw)(j:Nat):qK:=
 match (ops[j]?).bind (·.dst)with
 |some d=>match E.at d with|.bool b=>some b |_=>none
 |none=>none
def lj(ops:qE)(E:aw)(o:Oper):Bool:=
 match o.guard with
 |none=>true
 |some (j,z)=>match Fx ops E j with
  |some b=>b == z
  |none=>false
variable (cfg:Cfg)
def wP(ih:zd5->Res)(f:FuncId)(E:aw)(H:Hp)(c:Call):Res:=
 match c.callee with
 | .value g=>match aM E g,jE E c.args.toList with
   |some (.cw k L),some vs=>ih (.call k (vs++L) H)
   |_,_=>.a5
 | .builtin b=>match jE E c.args.toList with
   |some vs=>match uf P (cfg.keep f) H b c.argTypes.toList vs with
    |some (v,H)=>.val v H
    |none=>.a5
   |none=>.a5
 |_=>.a5
def jr:Option (AV×Hp)->Res
 |some (v,H)=>.val v H
 |none=>.a5
def eQ(ih:zd5->Res)(f:FuncId)(E:aw)(H:Hp)(op:Op):Res:=
 match op with
 | .call c=>wP P cfg ih f E H c
 |op=>jr (dL P cfg.cS E H op)
def Sx.beq:Sx->Sx->Bool
 | .var i,.var j=>Nat.beq i j
 | .lit a,.lit b=>a == b
 | .de o k a b,.de Z k' C J=>decide (o=Z)&&decide (k=k')&&Sx.beq a C&&Sx.beq b J
 | .eB k a,.eB k' b=>decide (k=k')&&Sx.beq a b
 |_,_=>false
mutual
def AV.beq:AV->AV->Bool
 | .int k a,.int k' b=>decide (k=k')&&(a == b)
 | .sx k a,.sx k' b=>decide (k=k')&&Sx.beq a b
 | .bool a,.bool b=>a == b
 | .ay a,.ay b=>a == b
 | .aF,.aF|.bV,.bV|.cj,.cj|.ao,.ao=>true
 | .ptr r o,.ptr Z j=>Nat.beq r Z&&Nat.beq o j
 | .bP a,.bP b=>nP a b
 | .sl r o l z,.sl Z j C Y=>Nat.beq r Z&&Nat.beq o j&&Nat.beq l C&&Nat.beq z Y
 | .aE a,.aE b=>yo a b
 | .map r,.map Z=>Nat.beq r Z
 | .cw f a,.cw V b=>Nat.beq f V&&nP a b
 | .agg a,.agg b=>nP a b
 | .bH a,.bH b=>nP a b
 |_,_=>false
def nP:qB->qB->Bool
 |[],[]=>true
 |a::x,b::y=>AV.beq a b&&nP x y
 |_,_=>false
def yo:List qB->List qB->Bool
 |[],[]=>true
 |a::x,b::y=>nP a b&&yo x y
 |_,_=>false
end
inductive Kind where
 |cR   -- looks at no memory
 |read
 |make
 |eh
def jd:Op->Kind
 | .load ..|.lookup ..|.convert ..|.slice ..=>.read
 | .alloc _|.box ..|.buildSlice ..|.makeMap ..|.makeSlice ..=>.make
 | .store ..|.mapUpdate ..=>.eh
 | .call c=>match c.callee with
   | .builtin .len|.builtin .max|.builtin .min=>.read
   |_=>.eh
 |_=>.cR
structure Rec where
 o:Oper
 did:Bool
 E:aw
 H:Hp
 val:AV
 H':Hp
inductive zf9 where
 |done (E:aw) (H:Hp) (rs:List Rec)
 |a5
def se(r:Rec):zf9->zf9
 | .done E H rs=>.done E H (r::rs)
 | .a5=>.a5
def sf(m:aw->Hp->zf9)(H:Hp):Option aw->zf9
 |some E=>m E H
 |none=>.a5
def lw(ih:zd5->Res)(f N:Nat)(C:qE):qE->aw->Hp->zf9
 |[],E,H=>.done E H []
 |o::rest,E,H=>match lj C E o with
  |true=>match eQ P cfg ih f E H o.op with
   | .val v H'=>se ⟨o,true,E,H,v,H'⟩ (sf (lw ih f N C rest) H' (gI N E o.dst v))
   |_=>.a5
  |false=>se ⟨o,false,E,H,dq,H⟩ (sf (lw ih f N C rest) H (gI N E o.dst dq))
def preds(o:Oper):qG:=(o.after.toList.filter (Region.binds .any)).map (·.on)
def zZ:qG->qG->qG
 |acc,[]=>acc
 |acc,x::xs=>match acc.contains x with
  |true=>zZ acc xs
  |false=>zZ (x::acc) xs
def Ca(l:qG):qG:=zZ [] l
def j0:qE->List qG->List qG
 |[],acc=>acc
 |o::rest,acc=>j0 rest (acc++[Ca (preds o++(preds o).flatMap fun i=>acc.getD i [])])
def OW(o:Oper):qG:=o.dst.toList++o.op.operands.toList.filterMap fun|.tmp t=>some t |_=>none
def wQ(C:qE)(o:Oper):qG:=OW o++(match o.guard with|some (j,_)=>((C[j]?).bind (·.dst)).toList|none=>[])
def pA(o:Oper):Bool:=match jd o.op with|.eh=>true |_=>false
def wR(o:Oper):Bool:=match jd o.op with|.make=>true |_=>false
def clash(C:qE)(p q:Oper):Bool:=
 (pA p&&(pA q||wR q)) ||
 (p.dst.toList.any fun d=>(wQ C q).contains d)||(q.dst.toList.any fun d=>(wQ C p).contains d)
def ug(C:qE):Bool:=
 let A:=j0 C []
 (List.range C.length).all fun j=>match C[j]? with
   |none=>true
   |some q=>(preds q).all (·< j)&&(match q.guard with|some (g,_)=>(A.getD j []).contains g|none=>true) &&
    (List.range j).all fun i=>match C[i]? with
      |none=>true
      |some p=>!clash C p q||(A.getD j []).contains i
def mC(ops:qE):qG:=(List.range ops.length).filter fun i=>match ops[i]? with
 |some o=>pA o
 |none=>false
def cH(rs:List Rec)(H':Hp)(e:Nat):Hp:=match rs[e]? with
 |some r=>r.H
 |none=>H'
def HB.beq:HB->HB->Bool
 | .cells a i t,.cells b j u=>nP a b&&Nat.beq i j&&(t == u)
 | .map a,.map b=>nP (a.map (·.1)) (b.map (·.1))&&nP (a.map (·.2)) (b.map (·.2))
 |_,_=>false
def ze6(r:Rec)(H:Hp):Bool:=
 match jd r.o.op with
 | .read=>match eQ P cfg (fun _=>.a5) 0 r.E H r.o.op with
   | .val v _=>AV.beq v r.val
   |_=>false
 | .make=>match H.get r.H.next,r.H'.get r.H.next with
   |some b,some J=>HB.beq b J
   |_,_=>false
 |_=>true
def JN(A:List qG)(C:qG)(i m:Nat):Bool:=
 !(C.any (fun e=>(A.getD i []).contains e&&Nat.ble m e)||C.any (fun e=>(A.getD e []).contains i&&Nat.blt e m))
def sg(ops:qE):qS:=
 (List.range ops.length).flatMap fun i=>match ops[i]? with
   |some o=>match jd o.op with
    | .read|.make=>((mC ops++[ops.length]).filter (JN (j0 ops []) (mC ops) i)).map fun m=>(i,m)
    |_=>[]
   |none=>[]
def yp(need:qS)(rs:List Rec)(H':Hp):Bool:=
 rs.all (fun r=>Nat.ble r.H.next r.H'.next)&&need.all fun p=>match rs[p.1]? with
  |some r=>!r.did||ze6 P cfg r (cH rs H' p.2)
  |none=>true
def pB(ih:zd5->Res)(f N:Nat)(ops:qE)(E:aw)(H:Hp):Res:=
 match ug ops with
 |true=>match lw P cfg ih f N ops ops E H with
  | .done E' H' rs=>match yp P cfg (sg ops) rs H' with
    |true=>.done .normal E' H'
    |false=>.a5
  | .a5=>.a5
 |false=>.a5
def kC:qG->Nat->Nat
 |[],_=>0
 |x::xs,i=>match Nat.beq x i with
  |true=>0
  |false=>kC xs i+1
def wS(ord:qG)(o:Oper):Oper:=
 {o with after:=((o.after.toList.filter (Region.binds .any)).map fun e=>{e with on:=kC ord e.on}).toArray,guard:=match o.guard with|some (j,b)=>some (kC ord j,b)|none=>none}
def j5(ord:qG)(l:qE):qE:=ord.filterMap fun i=>match l[i]? with
 |some o=>some (wS ord o)
 |none=>none
def Cb(ord:qG)(l:qE):Bool:=
 Nat.beq ord.length l.length &&
 (List.range l.length).all (fun k=>(match ord[k]? with|some i=>Nat.blt i l.length&&Nat.beq (kC ord i) k|none=>false)&&Nat.blt (kC ord k) l.length&&(match ord[kC ord k]? with|some i=>Nat.beq i k|none=>false)) &&
 l.all (fun o=>(preds o).all (fun p=>Nat.blt p l.length)&&(match o.guard with|some (j,_)=>Nat.blt j l.length|none=>true))
def ly(q p:Nat)(l:qE):qE:=match l[q]? with
 |some o=>l.set q {o with after:=o.after.push {on:=p,ground:=.data} }
 |none=>l
def T.beq{J:Type}(V:J->J->Bool):T J->T J->Bool
 | .e,.e=>true
 | .n v l r,.n C Z z=>(match v,C with|some a,some b=>V a b|none,none=>true |_,_=>false)&&T.beq V l Z&&T.beq V r z
 |_,_=>false
def JO(ops:qE)(V I:aw)(Z Y:Hp):Bool:=
 ops.all (fun o=>match o.dst with|some d=>AV.beq (V.at d) (I.at d)|none=>true)&&Nat.beq Z.next Y.next&&T.beq HB.beq Z.t Y.t
def yr(ops:qE):Res->Res->Res
 | .done .normal E1 H1,.done .normal I Z=>match JO ops E1 I H1 Z with
   |true=>.done .normal E1 H1
   |false=>.a5
 |_,_=>.a5
def lQ(ih:zd5->Res)(f N:Nat)(E:aw)(H:Hp):zf1->qE->Res
 | .text,ops=>pB P cfg ih f N ops E H
 | .b7 ord,ops=>match Cb ord ops with
   |true=>pB P cfg ih f N (j5 ord ops) E H
   |false=>.a5
 | .split p q a b,ops=>match Nat.beq p q with
   |true=>.a5
   |false=>yr ops (lQ ih f N E H a (ly q p ops)) (lQ ih f N E H b (ly p q ops))
def mD(m:aw->Hp->Res)(H:Hp):Option aw->Res
 |some E=>m E H
 |none=>.a5
def lR(ih:zd5->Res)(f N:Nat)(C:qE)(ops:qE):aw->Hp->Res:=
 List.rec (motive:=fun _=>aw->Hp->Res) (fun E H=>.done .normal E H)
  (fun o _ m E H=>match lj C E o with
    |true=>match eQ P cfg ih f E H o.op with
     | .val v H=>mD m H (gI N E o.dst v)
     |_=>.a5
    |false=>mD m H (gI N E o.dst dq)) ops
def Cc:Nat->aw
 |0=>.e
 |d+1=>.n (some dq) (Cc d) (Cc d)
def yu(N:Nat):aw:=Cc (Nat.log2 N+1)
def a1:Nat->qB->aw->aw
 |_,[],E=>E
 |i,v::vs,E=>a1 (i+1) vs (T.set E i (some v))
def eh(E:aw)(H:Hp):ResultVar->qI
 | .tmp t=>some (E.at t)
 | .cell a t=>eP P H t (E.at a)
def dR(E:aw)(H:Hp):List ResultVar->Option qB
 |[]=>some []
 |r::rs=>match eh P E H r,dR E H rs with
  |some v,some vs=>some (v::vs)
  |_,_=>none
def aD:qB->AV
 |[v]=>v
 |vs=>.bH vs
def z5(rs:List ResultVar)(E:aw)(H:Hp):Res:=
 match dR P E H rs with
 |some vs=>.val (aD vs) H
 |none=>.a5
def sh(ih:zd5->Res)(f:FuncId)(args:qB)(H:Hp):Res:=
 match P.funcs[f]? with
 |some fn=>match fn.body with
  |some c=>match ih (.aT f (max fn.ntmps args.length) c (a1 0 args (yu (max fn.ntmps args.length))) H)with
   | .done .normal E H=>z5 P fn.results.toList E H
   | .done .ret E H=>z5 P fn.results.toList E H
   |_=>.a5
  |none=>.a5
 |none=>.a5
def sk(ih:zd5->Res)(f N:Nat)(b:Code):Res->Res
 | .done .normal E H=>ih (.aT f N b E H)
 |r=>r
def rx(id:Nat):Res->Res
 | .done (.exit O) E H=>match Nat.beq O id with
   |true=>.done .normal E H
   |false=>.done (.exit O) E H
 |r=>r
def yw(ih:zd5->Res)(f N:Nat)(x:Operand)(a b:Code)(E:aw)(H:Hp):Res:=
 match aM E x with
 |some (.bool true)=>ih (.aT f N a E H)
 |some (.bool false)=>ih (.aT f N b E H)
 |_=>.a5
def iw(z:Nat):Nat->qB->List qB
 |0,_=>[]
 |n+1,l=>l.take z::iw z n (l.drop z)
def iV(g:AV->Hp->Option (AV×Hp)):qB->Hp->Option (qB×Hp)
 |[],H=>some ([],H)
 |c::cs,H=>match g c H with
  |some (d,H)=>match iV g cs H with
   |some (J,H)=>some (d::J,H)
   |none=>none
  |none=>none
def fJ:Nat->AV->Hp->Option (AV×Hp)
 |0,_,_=>none
 |n+1,v,H=>match v with
  | .sl r L Y z=>match H.get r with
    |some (.cells O Z V)=>match Nat.ble (L+Y*z) O.length&&Nat.ble Z O.length with
     |true=>match iV (fJ n) ((O.drop L).take (Y*z)) (H.set r (.cells O (max Z (L+Y*z)) V))with
      |some (l,H)=>some (.aE (iw z Y l),H)
      |none=>none
     |false=>none
    |_=>none
  | .agg O=>match iV (fJ n) O H with
    |some (J,H)=>some (.agg J,H)
    |none=>none
  | .ptr _ _=>none
  | .map _=>none
  |v=>some (v,H)
def JP:AV->Bool
 | .int _ _=>true
 | .bool _=>true
 | .ay _=>true
 |_=>false
def Fy(r:AV)(H H':Hp):Hp:=match JP r with
 |true=>H
 |false=>H'
def Cd(ih:zd5->Res)(f:FuncId)(args:qB)(H:Hp):Option (qB×Hp)->Res
 |some (V,H')=>match cfg.call f V with
  |some r=>.val r (Fy r H H')
  |none=>sh P ih f args H
 |none=>sh P ih f args H
def z6:Bool->Res->Res
 |true,.val v H=>jr (fJ 100 v H)
 |_,r=>r
def sm(ih:zd5->Res)(f:FuncId)(args:qB)(H:Hp):Res:=match cfg.bU f with
 |true=>Cd P cfg ih f args H (iV (fJ 100) args H)
 |false=>sh P ih f args H
def step(ih:zd5->Res):zd5->Res
 | .call f I H=>match cfg.call f I with
   |some r=>.val r H
   |none=>z6 (cfg.cm f) (sm P cfg ih f I H)
 | .aT f N c E H=>match c with
   | .skip=>.done .normal E H
   | .region id ops draw=>match draw with
     |false=>lR P cfg ih f N ops.toList ops.toList E H
     |true=>lQ P cfg ih f N E H (cfg.cD f id) ops.toList
   | .seq a b=>sk ih f N b (ih (.aT f N a E H))
   | .cond x a b=>yw ih f N x a b E H
   | .block id a=>rx id (ih (.aT f N a E H))
   | .loop a=>sk ih f N (.loop a) (ih (.aT f N a E H))
   | .exit id=>.done (.exit id) E H
   | .ret=>.done .ret E H
   |_=>.a5
def bG(n:Nat):zd5->Res:=Nat.rec (motive:=fun _=>zd5->Res) (fun _=>.a5) (fun _ ih=>step P cfg ih) n
end
def bZ:Hp:={next:=0,t:=.e}
def iceL(g:AV->qI):qB->Option qB
 |[]=>some []
 |c::cs=>match g c,iceL g cs with
  |some d,some J=>some (d::J)
  |_,_=>none
def wT(g:AV->qI):List qB->Option (List qB)
 |[]=>some []
 |c::cs=>match iceL g c,wT g cs with
  |some d,some J=>some (d::J)
  |_,_=>none
def iceV(H:Hp):Nat->AV->qI
 |0,_=>none
 |n+1,v=>match v with
  | .sl r L Y z=>match H.get r with
    |some (.cells O _ _)=>match iceL (iceV H n) ((O.drop L).take (Y*z))with
     |some l=>if l.length=Y*z then some (.aE (iw z Y l))else none
     |none=>none
    |_=>none
  | .aE Z=>match wT (iceV H n) Z with
    |some V=>some (.aE V)
    |none=>none
  | .agg O=>match iceL (iceV H n) O with
    |some J=>some (.agg J)
    |none=>none
  | .bH O=>match iceL (iceV H n) O with
    |some J=>some (.bH J)
    |none=>none
  | .int k a=>some (.int k a)
  | .sx k e=>some (.sx k e)
  | .bool b=>some (.bool b)
  | .ay s=>some (.ay s)
  | .aF=>some .aF
  | .bV=>some .bV
  | .cj=>some .cj
  | .ao=>some .ao
  |_=>none
def Fz(P:Program)(cfg:Cfg)(n m:Nat)(f:FuncId)(args:qB):qI:=
 match bG P cfg n (.call f args bZ)with
 | .val v H=>iceV H m v
 |_=>none
def vB(m:Nat)(args:qB):Bool:=
 match iceL (iceV bZ m) args with
 |some V=>nP V args
 |none=>false
def FA(P:Program)(cfg:Cfg)(n m:Nat)(f:FuncId)(args:qB)(r:AV):Bool:=
 match Fz P cfg n m f args with
 |some q=>AV.beq q r
 |none=>false
def wU:List (FuncId×qB×AV)->FuncId->qB->qI
 |[],_,_=>none
 |p::l,f,args=>match Nat.beq p.1 f with
  |true=>match nP p.2.1 args with
   |true=>some p.2.2
   |false=>wU l f args
  |false=>wU l f args
end
end Go.Ab
