/- Lemmas for the last file. -/
import GoSem.Step
set_option linter.all false
set_option maxHeartbeats 32000000
namespace Go.Ab
variable{P M O C j Z Y:Prop}{I:Type}
abbrev qP:=List (Nat×Nat)
abbrev qN:=Array Oper
abbrev qI:=Option Nat
abbrev qG:=Option Bool
abbrev qD:=List Nat
abbrev qA:=List Oper
abbrev qx:=List UInt8
structure Bxx (p:Prop):Type where
 o:p
def aQ(q0:M)(h:Bxx M->P:=by
 intro q0;first
  |apply Ry.o ?_|apply Ry.on ?_|apply Ry.gu ?_|apply vp ?_|apply ea.step ?_|apply Ny rfl ?_|apply Ry.gv ?_|apply cb.block ?_|apply Je ?_|apply Rx.rt ?_|apply Rx.xt ?_|fail
 exact q0.o):P:=h ⟨q0⟩
def aO(q0:M)(h:Bxx M->P:=by
 intro q0;first
  |apply Rx.o ?_|apply Rx.on ?_|apply Rx.gu ?_|apply vp ?_|apply ea.step ?_|apply Ny rfl ?_|apply Rx.gv ?_|apply cb.block ?_|apply Je ?_|apply Rx.rt ?_|apply Rx.xt ?_|fail
 exact q0.o):P:=h ⟨q0⟩
def CF(q0:(O->C->M))(q1:(j->Z->Y))(h:Bxx (O->C->M)->Bxx (j->Z->Y)->P:=by
 intro q0 q1;(repeat' (first
  |(apply aj ?_;try clear hK K)|apply aQ ?_|(apply aV ?_ ?_<;>(intro hb hbp;try(cases hb;done)))|(apply ak fun K hK=>?_)|(apply da 12 [(1,9),(5,9),(7,9)] fun K hK=>?_)|(apply da 20 [(1,13),(5,13),(7,13),(11,13)] fun K hK=>?_)|(apply ce ?_;try intro _)|(apply di ?_ ?_<;>try clear hK K)|fail))
 exact q0.o hb hbp;exact q1.o hb hbp):P:=h ⟨q0⟩ ⟨q1⟩
def LU{I J U:Prop}(q0:M)(q1:(j->O->Z))(q2:(I->J->U))(h:Bxx M->Bxx (j->O->Z)->Bxx (I->J->U)->P:=by
 intro q0 q1 q2;(repeat' (first
  |(apply aj ?_;try clear hK K)|apply aO ?_|(apply bp ?_ ?_<;>(intro hb hbp;try(cases hb;done)))|(apply ak fun K hK=>?_)|(apply ce ?_;try intro _)|(apply di ?_ ?_<;>try clear hK K)|fail))
 exact q0.o;exact q1.o hb hbp;exact q2.o hb hbp):P:=h ⟨q0⟩ ⟨q1⟩ ⟨q2⟩
def fy(q0:(O->C->M))(h:Bxx (O->C->M)->P:=by
 intro q0;(repeat' (first
  |(apply aj ?_;try clear hK K)|apply aQ ?_|(apply aV ?_ ?_<;>(intro hb hbp;try(cases hb;done)))|(apply ak fun K hK=>?_)|fail))
 exact q0.o hb hbp):P:=h ⟨q0⟩
def nM(q0:(O->C->M))(q1:(j->Z->Y))(h:Bxx (O->C->M)->Bxx (j->Z->Y)->P:=by
 intro q0 q1;(repeat' (first
  |(apply aj ?_;try clear hK K)|apply aO ?_|(apply bp ?_ ?_<;>(intro hb hbp;try(cases hb;done)))|(apply ak fun K hK=>?_)|fail))
 exact q0.o hb hbp;exact q1.o hb hbp):P:=h ⟨q0⟩ ⟨q1⟩
def Hl(q0:M)(q1:O)(h:Bxx M->Bxx O->P:=by
 intro q0 q1;(repeat' (first
  |(apply aj ?_;try clear hK K)|apply aO ?_|(apply ak fun K hK=>?_)|(apply ce ?_;try intro _)|(apply di ?_ ?_<;>try clear hK K)|fail))
 exact q0.o;exact q1.o):P:=h ⟨q0⟩ ⟨q1⟩
def Hm(q0:(O->C->M))(q1:(j->Z->Y))(h:Bxx (O->C->M)->Bxx (j->Z->Y)->P:=by
 intro q0 q1;(repeat' (first
  |(apply aj ?_;try clear hK K)|apply aO ?_|(apply bp ?_ ?_<;>(intro hb hbp;try(cases hb;done)))|(apply ak fun K hK=>?_)|fail))
 exact q0.o hb hbp;exact q1.o hb hbp):P:=h ⟨q0⟩ ⟨q1⟩
def wF(q0:(O->C->M))(h:Bxx (O->C->M)->P:=by
 intro q0;(repeat' (first
  |(apply aj ?_;try clear hK K)|apply aQ ?_|(apply aV ?_ ?_<;>(intro hb hbp;try(cases hb;done)))|(apply ak fun K hK=>?_)|fail))
 exact q0.o hb hbp):P:=h ⟨q0⟩
def eP(q0:M)(h:Bxx M->P:=by
 intro q0;(repeat' (first
  |(apply aj ?_;try clear hK K)|apply aO ?_|(apply cD ?_ ?_<;>(intro hg hgp;try(cases hg;done)))|(apply bp ?_ ?_<;>(intro hb hbp;try(cases hb;done)))|(apply ak fun K hK=>?_)|fail))
 exact q0.o):P:=h ⟨q0⟩
def CG(q0:(O->C->M))(h:Bxx (O->C->M)->P:=by
 intro q0;(repeat' (first
  |(apply aj ?_;try clear hK K)|apply aQ ?_|(apply aV ?_ ?_<;>(intro hb hbp;try(cases hb;done)))|(apply ak fun K hK=>?_)|fail))
 exact q0.o hb hbp):P:=h ⟨q0⟩
def LV(q0:M)(q1:O)(h:Bxx M->Bxx O->P:=by
 intro q0 q1;(repeat' (first
  |(apply aj ?_;try clear hK K)|apply aQ ?_|(apply aV ?_ ?_<;>(intro hb hbp;try(cases hb;done)))|(apply ak fun K hK=>?_)|(apply ce ?_;try intro _)|(apply di ?_ ?_<;>try clear hK K)|fail))
 exact q0.o;exact q1.o):P:=h ⟨q0⟩ ⟨q1⟩
def Hn(q0:M)(h:Bxx M->P:=by
 intro q0;(repeat' (first
  |(apply aj ?_;try clear hK K)|apply aQ ?_|(apply aV ?_ ?_<;>(intro hb hbp;try(cases hb;done)))|(apply ak fun K hK=>?_)|fail))
 exact q0.o):P:=h ⟨q0⟩
def LW(q0:(O->C->M))(q1:(j->Z->Y))(h:Bxx (O->C->M)->Bxx (j->Z->Y)->P:=by
 intro q0 q1;(repeat' (first
  |(apply aj ?_;try clear hK K)|apply aQ ?_|(apply aV ?_ ?_<;>(intro hb hbp;try(cases hb;done)))|(apply ak fun K hK=>?_)|fail))
 exact q0.o hb hbp;exact q1.o hb hbp):P:=h ⟨q0⟩ ⟨q1⟩
def Ho(q0:(O->C->M))(h:Bxx (O->C->M)->P:=by
 intro q0;(repeat' (first
  |(apply aj ?_;try clear hK K)|apply aQ ?_|(apply aV ?_ ?_<;>(intro hb hbp;try(cases hb;done)))|(apply ak fun K hK=>?_)|fail))
 exact q0.o hb hbp):P:=h ⟨q0⟩
def wG(q0:M)(h:Bxx M->P:=by
 intro q0;(repeat' (first
  |(apply aj ?_;try clear hK K)|apply aQ ?_|(apply aV ?_ ?_<;>(intro hb hbp;try(cases hb;done)))|(apply ak fun K hK=>?_)|fail))
 exact q0.o):P:=h ⟨q0⟩
def eh(q0:M)(h:Bxx M->P:=by
 intro q0;(repeat' (first
  |(apply aj ?_;try clear hK K)|apply aO ?_|(apply ak fun K hK=>?_)|fail))
 exact q0.o):P:=h ⟨q0⟩
def LX(q0:(O->C->M))(q1:(j->Z->Y))(h:Bxx (O->C->M)->Bxx (j->Z->Y)->P:=by
 intro q0 q1;(repeat' (first
  |(apply aj ?_;try clear hK K)|apply aO ?_|(apply bp ?_ ?_<;>(intro hb hbp;try(cases hb;done)))|(apply ak fun K hK=>?_)|fail))
 exact q0.o hb hbp;exact q1.o hb hbp):P:=h ⟨q0⟩ ⟨q1⟩
def CH{U:Type}{V:U->Prop}{M:∀K,V K->Prop}(q0:(∀K hK,M K hK))(h:Bxx (∀K hK,M K hK)->P:=by
 intro q0;(repeat' (first
  |(apply aj ?_;try clear hK K)|apply aQ ?_|(apply bT ?_ ?_<;>(intro hg hgp;try(cases hg;done)))|(apply aV ?_ ?_<;>(intro hb hbp;try(cases hb;done)))|(apply ak fun K hK=>?_)|fail))
 exact q0.o K hK):P:=h ⟨q0⟩
def Hr(q0:M)(h:Bxx M->P:=by
 intro q0;(repeat' (first
  |(apply aj ?_;try clear hK K)|apply aQ ?_|(apply aV ?_ ?_<;>(intro hb hbp;try(cases hb;done)))|(apply ak fun K hK=>?_)|fail))
 exact q0.o):P:=h ⟨q0⟩
def CI(q0:(O->C->M))(h:Bxx (O->C->M)->P:=by
 intro q0;(repeat' (first
  |(apply aj ?_;try clear hK K)|apply aQ ?_|(apply aV ?_ ?_<;>(intro hb hbp;try(cases hb;done)))|(apply ak fun K hK=>?_)|fail))
 exact q0.o hb hbp):P:=h ⟨q0⟩
def lQ(q0:M)(h:Bxx M->P:=by
 intro q0;(repeat' (first
  |(apply aj ?_;try clear hK K)|apply aO ?_|(apply bp ?_ ?_<;>(intro hb hbp;try(cases hb;done)))|(apply ak fun K hK=>?_)|fail))
 exact q0.o):P:=h ⟨q0⟩
def Wt(q0:M)(h:Bxx M->P:=by
 intro q0;(repeat' (first
  |(apply aj ?_;try clear hK K)|apply aQ ?_|(apply bT ?_ ?_<;>(intro hg hgp;try(cases hg;done)))|(apply aV ?_ ?_<;>(intro hb hbp;try(cases hb;done)))|(apply ak fun K hK=>?_)|fail))
 exact q0.o):P:=h ⟨q0⟩
def Ht{U:Type}{V:U->Prop}{M:∀K,V K->Prop}(q0:(∀K hK,M K hK))(h:Bxx (∀K hK,M K hK)->P:=by
 intro q0;(repeat' (first
  |(apply aj ?_;try clear hK K)|apply aO ?_|(apply ak fun K hK=>?_)|(apply da 16 [(0,3),(2,3),(5,3),(5,6)] fun K hK=>?_)|(apply ce ?_;try intro _)|fail))
 exact q0.o K hK):P:=h ⟨q0⟩
def CJ(q0:(O->C->M))(h:Bxx (O->C->M)->P:=by
 intro q0;(repeat' (first
  |(apply aj ?_;try clear hK K)|apply aO ?_|(apply bp ?_ ?_<;>(intro hb hbp;try(cases hb;done)))|(apply ak fun K hK=>?_)|fail))
 exact q0.o hb hbp):P:=h ⟨q0⟩
def LY(q0:M)(h:Bxx M->P:=by
 intro q0;(repeat' (first
  |(apply aj ?_;try clear hK K)|apply aQ ?_|(apply aV ?_ ?_<;>(intro hb hbp;try(cases hb;done)))|(apply ak fun K hK=>?_)|fail))
 exact q0.o):P:=h ⟨q0⟩
def Wu{U:Type}{V:U->Prop}{M:∀K,V K->Prop}(q0:(∀K hK,M K hK))(h:Bxx (∀K hK,M K hK)->P:=by
 intro q0;(repeat' (first
  |(apply aj ?_;try clear hK K)|apply aQ ?_|(apply aV ?_ ?_<;>(intro hb hbp;try(cases hb;done)))|(apply ak fun K hK=>?_)|fail))
 exact q0.o K hK):P:=h ⟨q0⟩
def pZ(q0:M)(h:Bxx M->P:=by
 intro q0;(repeat' (first
  |(apply aj ?_;try clear hK K)|apply aO ?_|(apply ak fun K hK=>?_)|fail))
 exact q0.o):P:=h ⟨q0⟩
def CK{U:Type}{V:U->Prop}{M:∀K,V K->Prop}(q0:(∀K hK,M K hK))(h:Bxx (∀K hK,M K hK)->P:=by
 intro q0;(repeat' (first
  |(apply aj ?_;try clear hK K)|apply aQ ?_|(apply aV ?_ ?_<;>(intro hb hbp;try(cases hb;done)))|(apply ak fun K hK=>?_)|fail))
 exact q0.o K hK):P:=h ⟨q0⟩
def iX(q0:M)(h:Bxx M->P:=by
 intro q0;(repeat' (first
  |(apply aj ?_;try clear hK K)|apply aO ?_|(apply ak fun K hK=>?_)|fail))
 exact q0.o):P:=h ⟨q0⟩
def Hu(q0:M)(h:Bxx M->P:=by
 intro q0;(repeat' (first
  |(apply aj ?_;try clear hK K)|apply aO ?_|(apply ak fun K hK=>?_)|fail))
 exact q0.o):P:=h ⟨q0⟩
def dY{U:Type}{V:U->Prop}{M:∀K,V K->Prop}(q0:(∀K hK,M K hK))(h:Bxx (∀K hK,M K hK)->P:=by
 intro q0;(repeat' (first
  |(apply aj ?_;try clear hK K)|apply aO ?_|(apply ak fun K hK=>?_)|fail))
 exact q0.o K hK):P:=h ⟨q0⟩
def Wv{U:Type}{V:U->Prop}{M:∀K,V K->Prop}(q0:(∀K hK,M K hK))(h:Bxx (∀K hK,M K hK)->P:=by
 intro q0;(repeat' (first
  |(apply aj ?_;try clear hK K)|apply aQ ?_|(apply ak fun K hK=>?_)|fail))
 exact q0.o K hK):P:=h ⟨q0⟩
def zY{U:Type}{V:U->Prop}{M:∀K,V K->Prop}(q0:(∀K hK,M K hK))(h:Bxx (∀K hK,M K hK)->P:=by
 intro q0;(repeat' (first
  |(apply aj ?_;try clear hK K)|apply aO ?_|(apply bp ?_ ?_<;>(intro hb hbp;try(cases hb;done)))|(apply ak fun K hK=>?_)|fail))
 exact q0.o K hK):P:=h ⟨q0⟩
def yl(q0:M)(h:Bxx M->P:=by
 intro q0;(repeat' (first
  |(apply aj ?_;try clear hK K)|apply aQ ?_|(apply ak fun K hK=>?_)|fail))
 exact q0.o):P:=h ⟨q0⟩
def Ww{U:Type}{V:U->Prop}{M:∀K,V K->Prop}(q0:(∀K hK,M K hK))(h:Bxx (∀K hK,M K hK)->P:=by
 intro q0;(repeat' (first
  |(apply aj ?_;try clear hK K)|apply aO ?_|(apply ak fun K hK=>?_)|fail))
 exact q0.o K hK):P:=h ⟨q0⟩
def wH(q0:M)(h:Bxx M->P:=by
 intro q0;(repeat' (first
  |apply aO ?_|(apply ce ?_;try intro _)|fail))
 exact q0.o):P:=h ⟨q0⟩
def Wx(q0:M)(h:Bxx M->P:=by
 intro q0;(repeat' (first
  |(apply aj ?_;try clear hK K)|apply aO ?_|fail))
 exact q0.o):P:=h ⟨q0⟩
noncomputable section
open Go
inductive T (α:Type) where
 |e
 |n (v:Option α) (l r:T α)
def mp(b:Bool)(x y:I):I:=Bool.rec y x b
def T.get(t:T I):Nat->Option I:=
 T.rec (motive:=fun _=>Nat->Option I) (fun _=>none)
  (fun v _ _ L O k=>mp (Nat.beq k 0) v (mp (Nat.beq (Nat.mod k 2) 1) (L (Nat.div k 2)) (O (Nat.sub (Nat.div k 2) 1)))) t
def wI(v:Option I)(f:Nat):T I->Nat->T I:=
 Nat.rec (motive:=fun _=>T I->Nat->T I) (fun t _=>t)
  (fun _ ih t k=>T.casesOn t
    (mp (Nat.beq k 0) (.n v .e .e) (mp (Nat.beq (Nat.mod k 2) 1) (.n none (ih .e (Nat.div k 2)) .e) (.n none .e (ih .e (Nat.sub (Nat.div k 2) 1)))))
    (fun u l r=>mp (Nat.beq k 0) (.n v l r) (mp (Nat.beq (Nat.mod k 2) 1) (.n u (ih l (Nat.div k 2)) r) (.n u l (ih r (Nat.sub (Nat.div k 2) 1)))))) f
def T.set(t:T I)(k:Nat)(v:Option I):T I:=wI v (k+1) t k
inductive Sx where
 |var (i:Nat)
 |lit (n:Int)
 |ca (op:BinOp) (k:IntKind) (a b:Sx)
 |di (k:IntKind) (a:Sx)
inductive AV where
 |int (k:IntKind) (n:Int)
 |sx (k:IntKind) (e:Sx)
 |bool (b:Bool)
 |aq (s:qx)
 |bC|bi|bL|ak
 |ptr (r:Nat) (off:Nat)
 |bj (cs:List AV)
 |sl (r off len z:Nat)
 |aE (xs:List (List AV))
 |map (r:Nat)
 |bm (f:Nat) (cap:List AV)
 |agg (cs:List AV)
 |aX (vs:List AV)
abbrev qO:=List (AV×AV)
abbrev qM:=List (Nat×AV)
abbrev qC:=Option AV
abbrev qt:=List AV
inductive HB where
 |cells (cs:qt) (imm:Nat) (tip:Bool)
 |map (es:qO)
structure Hp where
 next:Nat
 t:T HB
def Hp.get(h:Hp)(r:Nat):Option HB:=h.t.get r
def Hp.set(h:Hp)(r:Nat)(b:HB):Hp:={next:=h.next,t:=h.t.set r (some b) }
def Hp.aR(h:Hp)(r:Nat):Hp:={next:=h.next,t:=h.t.set r none}
def Hp.alloc(h:Hp)(b:HB):Hp:={next:=h.next+1,t:=h.t.set h.next (some b) }
inductive zf0 where
 |text
 |bA (ord:qD)
 |split (p q:Nat) (a b:zf0)
structure Cfg where
 keep:FuncId->Bool
 cl:BinOp->Sx->Sx->qG:=fun _ _ _=>none
 call:FuncId->qt->qC:=fun _ _=>none
 aG:FuncId->Bool:=fun _=>false
 bU:FuncId->Nat->zf0:=fun _ _=>.text
 az:FuncId->Bool:=fun _=>false
abbrev ax:=T AV
def dK:AV:=.aX []
def ax.at(E:ax)(t:Nat):AV:=(T.get E t).getD dK
def zZ:Value->qC
 | .int k n=>some (.int k n)
 | .bool b=>some (.bool b)
 | .string s=>some (.aq s.data.toList)
 | .pointer none=>some .bC
 | .slice none 0 0=>some .ak
 | .map none=>some .bi
 | .nilFunc=>some .bL
 |_=>none
def ym:Value->qC
 | .agg g=>(g.toList.mapM zZ).map .agg
 |v=>zZ v
def aS(E:ax):Operand->qC
 | .tmp t=>some (E.at t)
 | .const v=>ym v
 | .global _=>none
 | .func f=>some (.bm f [])
def jx(E:ax):List Operand->Option qt
 |[]=>some []
 |x::xs=>match aS E x,jx E xs with
  |some v,some vs=>some (v::vs)
  |_,_=>none
def AV.cells:AV->qt
 | .agg g=>g
 |v=>[v]
def AV.one:AV->Bool
 | .agg _|.aX _=>false
 |_=>true
section
variable (P:Program)
def bE(t:TypeId):qI:=(P.info? t).map (·.size)
def dt(t:TypeId):qI:=(P.info? t).map (·.bytes)
def wJ(t:TypeId):qC:=
 match P.info? t with
 |some {zero:=some z,.. }=>ym z
 |_=>none
def cS(t:TypeId):Option qt:=
 match wJ P t with
 |some v=>some v.cells
 |none=>none
def dd(t:TypeId)(cs:qt)(off:Nat):qC:=
 match P.underlying t with
 |some (.struct _)|some (.array _ _)=>
  match bE P t with
  |some s=>let l:=(cs.drop off).take s;if l.length=s then some (.agg l)else none
  |none=>none
 |some _=>cs[off]?
 |none=>none
def gL(H:Hp)(t:TypeId):AV->qC
 | .ptr r I=>match H.get r with
   |some (.cells g _ _)=>dd P t g I
   |_=>none
 | .bj g=>dd P t g 0
 |_=>none
def splice(cs:qt)(off:Nat)(Z:qt):qt:=cs.take off++Z++cs.drop (off+Z.length)
def mr(H:Hp)(t:TypeId)(a v:AV):Option Hp:=
 match a with
 | .ptr r I=>match H.get r,bE P t with
   |some (.cells g V Z),some s=>
    if v.cells.length=s/\V<=I/\I+s<=g.length/\v.cells.all AV.one then some (H.set r (.cells (splice g I v.cells) V Z))else none
   |_,_=>none
 |_=>none
def uV(t:TypeId)(a:AV)(i:Nat):qC:=
 match P.underlying t with
 |some (.struct C)=>match C[i]? with
  |some f=>match bE P f.type with
   |some (_+1)=>match a with
    | .ptr r I=>some (.ptr r (I+f.offset))
    | .bj g=>some (.bj (g.drop f.offset))
    |_=>none
   |_=>none
  |none=>none
 |_=>none
def wK(t:TypeId)(x:AV)(i:Nat):qC:=
 match P.underlying t,x with
 |some (.struct C),.agg g=>match C[i]? with
  |some f=>dd P f.type g f.offset
  |none=>none
 |_,_=>none
def zlc(n:Int):qI:=match n with|.ofNat k=>some k |_=>none
def ej(t:TypeId)(x i:AV):qC:=
 match i with
 | .int _ (.ofNat k)=>match P.underlying t with
   |some (.slice e)=>match bE P e with
    |some s=>match x with
     | .sl r I V _=>if k<V then some (.ptr r (I+k*s))else none
     | .aE C=>match C[k]? with
       |some L=>if L.length=s then some (.bj L)else none
       |none=>none
     |_=>none
    |none=>none
   |some (.array n e)=>match bE P e with
    |some s=>match x with
     | .ptr r I=>if k<n then some (.ptr r (I+k*s))else none
     |_=>none
    |none=>none
   |_=>none
 |_=>none
def sc(t:TypeId)(x i:AV):qC:=
 match i with
 | .int _ (.ofNat k)=>match P.underlying t,x with
   |some .string,.aq s=>match s[k]? with
    |some b=>some (.int .u8 b.toNat)
    |none=>none
   |some (.array n e),.agg g=>if k<n then (match bE P e with|some s=>dd P e g (k*s)|none=>none)else none
   |_,_=>none
 |_=>none
def ig(d:Nat):qC->qI
 |none=>some d
 |some (.int _ (.ofNat k))=>some k
 |some _=>none
def gU(t:TypeId)(x:AV)(lo C:qC):qC:=
 match P.underlying t,x with
 |some .string,.aq s=>
  match ig 0 lo,ig s.length C with
  |some l,some h=>if l<=h/\h<=s.length then some (.aq ((s.drop l).take (h-l)))else none
  |_,_=>none
 |some (.slice e),x=>match bE P e with
  |some z=>match x with
   | .sl r I V g=>match ig 0 lo,ig V C with
     |some l,some h=>if l<=h/\h<=V/\g=z then (if l=h then some (.aE [])else some (.sl r (I+l*z) (h-l) z))else none
     |_,_=>none
   | .aE Z=>match ig 0 lo,ig Z.length C with
     |some l,some h=>if l<=h/\h<=Z.length then (match (Z.drop l).take (h-l)with
      |[]=>some (.aE [])
      |row::rows=>if row.length=z then some (.aE (row::rows))else none)else none
     |_,_=>none
   | .ak=>match ig 0 lo,ig 0 C with
     |some 0,some 0=>some .ak
     |_,_=>none
   |_=>none
  |none=>none
 |_,_=>none
def ph(H:Hp)(t:TypeId)(x:AV)(lo C:qC):qC:=
 match x with
 | .ptr r I=>match P.underlying t,H.get r with
   |some (.array n e),some (.cells g _ _)=>match bE P e,ig 0 lo,ig n C with
    |some z,some l,some h=>if l<=h/\h<=n/\I+n*z<=g.length then (if l=h then some (.aE [])else some (.sl r (I+l*z) (h-l) z))else none
    |_,_,_=>none
   |_,_=>none
 |x=>gU P t x lo C
def sU(V:Nat->Option (Nat×Nat))(cells:qt):qM->Option qt
 |[]=>some cells
 |(i,v)::rest=>match V i with
  |none=>none
  |some (I,O)=>if v.cells.length≠O\/I+v.cells.length > cells.length then none else sU V (splice cells I v.cells) rest
def mw(E:ax):List (Nat×Operand)->Option qM
 |[]=>some []
 |(i,x)::rest=>match aS E x,mw E rest with
  |some v,some vs=>some ((i,v)::vs)
  |_,_=>none
def LZ(C:List Field):Option qP:=C.mapM fun f=>(P.info? f.type).map fun i=>(f.offset,i.size)
def dU(t:TypeId)(L:qM):qC:=
 match cS P t,P.underlying t with
 |some z,some (.struct C)=>match LZ P C.toList with
  |some U=>match sU (fun i=>U[i]?) z L with
   |some g=>some (.agg g)
   |none=>none
  |none=>none
 |some z,some (.array _ e)=>match bE P e with
  |some s=>match sU (fun i=>some (i*s,s)) z L with
   |some g=>some (.agg g)
   |none=>none
  |none=>none
 |_,_=>none
def kM(z:qt):Nat->qt
 |0=>[]
 |n+1=>z++kM z n
def et(H:Hp)(t:TypeId)(len:Nat)(L:qM):Option (AV×Hp):=
 match P.underlying t with
 |some (.slice e)=>match bE P e,cS P e with
  |some s,some z=>if len*s<=16777216/\z.length=s then (match sU (fun i=>some (i*s,s)) (kM z len) L with
   |some g=>some (.sl H.next 0 len s,H.alloc (.cells g 0 true))
   |none=>none)else none
  |_,_=>none
 |_=>none
def dL:Nat:=70368744177664   -- 2^46
def eQ(H:Hp)(s:Nat):AV->Option (Nat×qt)
 | .sl r I V _=>match H.get r with
   |some (.cells g _ _)=>let l:=(g.drop I).take (V*s);if l.length=V*s then some (V,l)else none
   |_=>none
 | .aE C=>if C.all (fun L=>L.length == s)then some (C.length,C.flatten)else none
 | .ak=>some (0,[])
 | .aq b=>if s=1 then some (b.length,b.map fun x=>.int .u8 x.toNat)else none
 |_=>none
def mK(keep:Bool)(H:Hp)(s b:Nat)(C:AV)(n:Nat)(Z:qt):Option (AV×Hp):=
 match C with
 | .ak=>if n*b<=dL/\n<=dL then some (.sl H.next 0 n s,H.alloc (.cells Z 0 true))else none
 | .sl r I V z=>match H.get r with
   |some (.cells g Y true)=>
    if (V+n)*b<=dL/\V+n<=dL/\I+V*s=g.length/\z=s/\Y<=g.length then
     (if keep then some (.sl H.next 0 (V+n) s,(H.set r (.cells g g.length false)).alloc (.cells (g.drop I++Z) (V*s) true))
      else some (.sl H.next 0 (V+n) s,(H.aR r).alloc (.cells (g.drop I++Z) (Y-I) true)))
    else none
   |_=>none
 |_=>none
def ii(keep:Bool)(H:Hp)(s:Nat):AV->Hp
 | .sl r I V _=>match H.get r with
   |some (.cells g Z true)=>match !keep&&Nat.blt (I+V*s) g.length&&Nat.ble Z (I+V*s)with
    |true=>H.set r (.cells (g.take (I+V*s)) Z true)
    |false=>H
   |_=>H
 |_=>H
def iR(t:TypeId):Bool:=
 match P.underlying t with
 |some (.slice _)|some .string=>true
 |_=>false
def L0(keep:Bool)(H:Hp)(s b:Nat)(z:qt)(u:TypeId)(C x:AV):Option (AV×Hp):=
 match P.underlying u,x with
 |some (.int _),.int _ (.ofNat m)=>
  if m*b<=dL/\m<=dL/\z.length=s/\z.all AV.one=true then
   (match m with
   |0=>(match C with
    | .sl ..|.aE _|.ak=>some (C,H)
    |_=>none)
   |m+1=>mK keep (ii keep H s C) s b C (m+1) (kM z (m+1)))
  else none
 |_,_=>none
def cX(keep:Bool)(H:Hp)(t u:TypeId)(C x:AV):Option (AV×Hp):=
 match P.underlying t with
 |some (.slice e)=>match bE P e,dt P e,cS P e with
  |some s,some b,some z=>match iR P u,eQ H s x with
   |true,some (0,_)=>match C with
    | .sl ..|.aE _|.ak=>some (C,H)
    |_=>none
   |true,some (n,Z)=>if Z.all AV.one/\z.length=s then mK keep (ii keep H s C) s b C n Z else none
   |_,_=>L0 P keep H s b z u C x
  |_,_,_=>none
 |_=>none
def p9(m:TypeDesc)(x y:AV):qG:=
 match m with
 | .int _=>match x,y with
   | .int k a,.int k' b=>if k=k' then some (a == b)else none
   |_,_=>none
 | .string=>match x,y with
   | .aq a,.aq b=>some (a == b)
   |_,_=>none
 | .bool=>match x,y with
   | .bool a,.bool b=>some (a == b)
   |_,_=>none
 |_=>none
def rc(t:TypeId):Option TypeDesc:=
 match P.underlying t with
 |some (.int k)=>some (.int k)
 |some .string=>some .string
 |some .bool=>some .bool
 |_=>none
def gy(m:TypeDesc)(k:AV):qO->Nat->Option (Option (Nat×AV))
 |[],_=>some none
 |(k',v)::es,i=>match p9 m k k' with
  |some true=>some (some (i,v))
  |some false=>gy m k es (i+1)
  |none=>none
def wL(H:Hp):AV->Option qO
 | .bi=>some []
 | .map r=>match H.get r with
   |some (.map V)=>some V
   |_=>none
 |_=>none
def z5(ok:Bool)(v:AV)(M:Bool):AV:=match ok with
 |true=>.aX [v,.bool M]
 |false=>v
def mL(H:Hp)(t:TypeId)(m k:AV)(ok:Bool):qC:=
 match P.underlying t with
 |some (.map Y e)=>match wL H m,rc P Y with
  |some V,some Z=>match gy Z k V 0 with
   |some (some (_,v))=>some (z5 ok v true)
   |some none=>match wJ P e with
    |some v=>some (z5 ok v false)
    |none=>none
   |none=>none
  |_,_=>none
 |_=>none
def re(H:Hp)(t:TypeId)(m k v:AV):Option Hp:=
 match P.underlying t with
 |some (.map Y _)=>match m,rc P Y with
  | .map r,some Z=>match H.get r with
    |some (.map V)=>match gy Z k V 0 with
     |some (some (i,_))=>some (H.set r (.map (V.set i (k,v))))
     |some none=>some (H.set r (.map (V++[(k,v)])))
     |none=>none
    |_=>none
  |_,_=>none
 |_=>none
def uW:qx->qx->Bool
 |_,[]=>false
 |[],_::_=>true
 |a::x,b::y=>a<b||(a == b&&uW x y)
def ly(op:BinOp)(k:IntKind)(a b:Int):qC:=
 match op with
 | .add=>some (.int k (k.wrap (a+b)))
 | .sub=>some (.int k (k.wrap (a-b)))
 | .mul=>some (.int k (k.wrap (a*b)))
 | .quo=>if b=0 then none else some (.int k (k.wrap (a.tdiv b)))
 | .rem=>if b=0 then none else some (.int k (a.tmod b))
 | .and=>some (.int k (k.wrap (BitVec.ofInt k.bits a &&& BitVec.ofInt k.bits b).toNat))
 | .or=>some (.int k (k.wrap (BitVec.ofInt k.bits a |||BitVec.ofInt k.bits b).toNat))
 | .xor=>some (.int k (k.wrap (BitVec.ofInt k.bits a^^^ BitVec.ofInt k.bits b).toNat))
 | .andNot=>some (.int k (k.wrap (BitVec.ofInt k.bits a &&& ~~~ BitVec.ofInt k.bits b).toNat))
 | .eql=>some (.bool (a == b))
 | .neq=>some (.bool (a != b))
 | .lss=>some (.bool (a<b))
 | .leq=>some (.bool (a<=b))
 | .gtr=>some (.bool (a > b))
 | .geq=>some (.bool (a>=b))
 |_=>none
def Hv(op:BinOp)(k:IntKind)(a b:Int):Int:=
 match ly op k a b with
 |some (.int _ n)=>n
 |_=>0
def Sx.eval(ρ:Nat->Int):Sx->Int
 | .var i=>ρ i
 | .lit n=>n
 | .ca V k a b=>Hv V k (a.eval ρ) (b.eval ρ)
 | .di k a=>k.wrap (a.eval ρ)
def CL:AV->Option (IntKind×Sx)
 | .int k n=>some (k,.lit n)
 | .sx k e=>some (k,e)
 |_=>none
def Hw(D:BinOp->Sx->Sx->qG)(op:BinOp)(k:IntKind)(a b:Sx):qC:=
 match op with
 | .add=>some (.sx k (.ca .add k a b))
 | .sub=>some (.sx k (.ca .sub k a b))
 | .mul=>some (.sx k (.ca .mul k a b))
 | .and=>some (.sx k (.ca .and k a b))
 | .or=>some (.sx k (.ca .or k a b))
 | .xor=>some (.sx k (.ca .xor k a b))
 | .andNot=>some (.sx k (.ca .andNot k a b))
 | .quo=>match D .eql b (.lit 0)with
   |some false=>some (.sx k (.ca .quo k a b))
   |_=>none
 | .rem=>match D .eql b (.lit 0)with
   |some false=>some (.sx k (.ca .rem k a b))
   |_=>none
 | .shl=>none
 | .shr=>none
 |op=>match D op a b with
  |some r=>some (.bool r)
  |none=>none
def CM(D:BinOp->Sx->Sx->qG)(op:BinOp)(x y:AV):qC:=
 match CL x,CL y with
 |some (k,a),some (k',b)=>if k=k' then Hw D op k a b else none
 |_,_=>none
def z6(op:BinOp)(a b:qx):qC:=
 match op with
 | .add=>if a.length+b.length<=dL then some (.aq (a++b))else none
 | .eql=>some (.bool (a == b))
 | .neq=>some (.bool !(a == b))
 | .lss=>some (.bool (uW a b))
 | .leq=>some (.bool (uW a b||a == b))
 | .gtr=>some (.bool !(uW a b||a == b))
 | .geq=>some (.bool !(uW a b))
 |_=>none
def yn(t:TypeId)(x y:AV):qG:=
 match P.underlying t with
 |some .bool=>match x,y with
  | .bool a,.bool b=>some (a == b)
  |_,_=>none
 |some (.pointer _)=>match x,y with
  | .bC,.bC=>some true
  | .ptr _ _,.bC|.bC,.ptr _ _|.bj _,.bC|.bC,.bj _=>some false
  |_,_=>none
 |some (.map _ _)=>match x,y with
  | .bi,.bi=>some true
  | .map _,.bi|.bi,.map _=>some false
  |_,_=>none
 |some (.func _ _ _)=>match x,y with
  | .bL,.bL=>some true
  | .bm _ _,.bL|.bL,.bm _ _=>some false
  |_,_=>none
 |some (.slice _)=>match x,y with
  | .ak,.ak=>some true
  | .sl _ _ _ _,.ak|.ak,.sl _ _ _ _|.aE (_::_),.ak|.ak,.aE (_::_)=>some false
  |_,_=>none
 |_=>none
def Hy(t:TypeId)(x y:AV):qG:=
 match x,y with
 | .int k a,.int k' b=>match P.underlying t with
   |some (.int _)=>if k=k' then some (a == b)else none
   |_=>none
 | .aq a,.aq b=>match P.underlying t with
   |some .string=>some (a == b)
   |_=>none
 |x,y=>yn P t x y
def yo(xs Y:qt):List Field->qG
 |[]=>some true
 |f::fs=>match f.name == "_" with
  |true=>yo xs Y fs
  |false=>match dd P f.type xs f.offset,dd P f.type Y f.offset with
   |some a,some b=>match Hy P f.type a b with
    |some true=>yo xs Y fs
    |some false=>some false
    |none=>none
   |_,_=>none
def CN(t:TypeId)(xs Y:qt):qG:=
 match P.underlying t with
 |some (.struct C)=>match P.stoodInHeld t||P.eqGuardType P.depth t with
  |true=>none
  |false=>yo P xs Y C.toList
 |_=>none
def ua(t:TypeId)(x y:AV):qG:=
 match x,y with
 | .agg C,.agg Y=>CN P t C Y
 |x,y=>yn P t x y
def yp(op:BinOp)(k:IntKind)(a b:Int):qC:=
 match b with
 | .ofNat m=>match op with
   | .shl=>some (.int k (k.wrap (a*2^ min m k.bits)))
   | .shr=>some (.int k (a.fdiv (2^ min m k.bits)))
   |_=>none
 |_=>none
def uX(op:BinOp)(k Z:IntKind)(a b:Int):qC:=
 match op with
 | .shl=>yp .shl k a b
 | .shr=>yp .shr k a b
 |op=>if k=Z then ly op k a b else none
def z7(op:BinOp)(t:TypeId)(x y:AV):qC:=
 match op with
 | .eql=>match ua P t x y with
   |some b=>some (.bool b)
   |none=>none
 | .neq=>match ua P t x y with
   |some b=>some (.bool !b)
   |none=>none
 |_=>none
def eK(D:BinOp->Sx->Sx->qG)(op:BinOp)(t:TypeId)(x y:AV):qC:=
 match x,y with
 | .int k a,.int k' b=>uX op k k' a b
 | .aq a,.aq b=>z6 op a b
 | .sx k a,y=>CM D op (.sx k a) y
 | .int k a,.sx k' b=>CM D op (.int k a) (.sx k' b)
 |x,y=>z7 P op t x y
def uY(op:UnOp)(x:AV):qC:=
 match op,x with
 | .neg,.sx k e=>some (.sx k (.ca .sub k (.lit 0) e))
 | .xor,.sx k e=>some (.sx k (.ca .xor k (.lit (if k.signed then -1 else k.max)) e))
 | .neg,.int k n=>ly .sub k 0 n
 | .xor,.int k n=>ly .xor k (if k.signed then -1 else k.max) n
 | .not,.bool b=>some (.bool !b)
 |_,_=>none
def wM:qt->Option qx
 |[]=>some []
 | .int .u8 n::cs=>match wM cs with
   |some bs=>some (UInt8.ofNat n.toNat::bs)
   |none=>none
 |_=>none
def mM(H:Hp)(V M:TypeId)(x:AV):qC:=
 match P.underlying V,P.underlying M with
 |some (.slice e),some .string=>match P.underlying e with
  |some (.int .u8)=>match eQ H 1 x with
   |some (_,g)=>match wM g with
    |some bs=>match x with
     | .sl _ _ _ _|.ak=>some (.aq bs)
     |_=>none
    |none=>none
   |none=>none
  |_=>none
 |some _,some (.int k)=>match x with
  | .int _ n=>some (.int k (k.wrap n))
  | .sx _ e=>some (.sx k (.di k e))
  |_=>none
 |some .string,some .string=>match x with
  | .aq s=>some (.aq s)
  |_=>none
 |_,_=>none
def j9(H:Hp)(t:TypeId)(l c:AV):Option (AV×Hp):=
 match P.underlying t,l,c with
 |some (.slice e),.int _ (.ofNat l),.int _ (.ofNat c)=>match bE P e,dt P e,cS P e with
  |some s,some b,some z=>if l<=c/\c*b<=dL/\c<=dL/\z.length=s then some (.sl H.next 0 l s,H.alloc (.cells (kM z l) 0 true))else none
  |_,_,_=>none
 |_,_,_=>none
def extract(x:AV)(i:Nat):qC:=
 match x with
 | .aX vs=>vs[i]?
 |_=>none
def mm(z:Bool):AV->AV->qC
 | .int k x,.int _ y=>some (.int k (if (if z then decide (y > x)else decide (y<x))then y else x))
 |_,_=>none
def uZ(Z:Bool)(x:AV):qt->qC
 |[]=>some x
 |y::ys=>match mm Z x y with
  |some z=>uZ Z z ys
  |none=>none
def ij(H:Hp)(t:TypeId)(x:AV):qC:=
 match P.underlying t with
 |some .string=>match x with
  | .aq s=>some (.int .i64 s.length)
  |_=>none
 |some (.slice _)=>match x with
  | .sl _ _ n _=>some (.int .i64 n)
  | .aE C=>some (.int .i64 C.length)
  | .ak=>some (.int .i64 0)
  |_=>none
 |some (.array n _)=>some (.int .i64 n)
 |some (.map _ _)=>match wL H x with
  |some V=>some (.int .i64 V.length)
  |none=>none
 |_=>none
def sV(keep:Bool)(H:Hp)(b:Builtin)(I:List TypeId)(O:qt):Option (AV×Hp):=
 match b with
 | .append=>match I,O with
   |[t,u],[s,x]=>cX P keep H t u s x
   |_,_=>none
 | .len=>match I,O with
   |[t],[x]=>match ij P H t x with
    |some v=>some (v,H)
    |none=>none
   |_,_=>none
 | .max=>match O with
   |x::xs=>match uZ true x xs with
    |some v=>some (v,H)
    |none=>none
   |[]=>none
 | .min=>match O with
   |x::xs=>match uZ false x xs with
    |some v=>some (v,H)
    |none=>none
   |[]=>none
 |_=>none
def ret(H:Hp):qC->Option (AV×Hp)
 |some v=>some (v,H)
 |none=>none
def CO(E:ax)(H:Hp)(c a b:Operand):Option (AV×Hp):=
 match aS E c with
 |some (.bool true)=>ret H (aS E a)
 |some (.bool false)=>ret H (aS E b)
 |_=>none
def z8(H:Hp)(t:TypeId):Option (AV×Hp):=
 match cS P t with
 |some z=>some (.ptr H.next 0,H.alloc (.cells z 0 true))
 |none=>none
def z9(E:ax)(H:Hp)(x:Operand):Option (AV×Hp):=
 match aS E x with
 |some v=>some (.ptr H.next 0,H.alloc (.cells v.cells 0 true))
 |none=>none
def CP(E:ax)(H:Hp)(t:TypeId)(L:Array (Nat×Operand)):Option (AV×Hp):=
 match mw E L.toList with
 |some C=>ret H (dU P t C)
 |none=>none
def Ac(E:ax)(H:Hp)(t:TypeId)(len:Nat)(L:Array (Nat×Operand)):Option (AV×Hp):=
 match mw E L.toList with
 |some C=>et P H t len C
 |none=>none
def Ad(E:ax)(H:Hp)(t:TypeId)(a:Operand):Option (AV×Hp):=
 match aS E a with
 |some v=>ret H (gL P H t v)
 |none=>none
def CQ(E:ax)(H:Hp)(t:TypeId)(a x:Operand):Option (AV×Hp):=
 match aS E a,aS E x with
 |some a,some x=>match mr P H t a x with
  |some H=>some (dK,H)
  |none=>none
 |_,_=>none
def CR(E:ax)(H:Hp)(x:Operand):Option (AV×Hp):=
 match aS E x with
 |some (.ptr r o)=>some (.ptr r o,H)
 |some (.bj g)=>some (.bj g,H)
 |_=>none
def CS(D:BinOp->Sx->Sx->qG)(E:ax)(H:Hp)(op:BinOp)(t:TypeId)(x y:Operand):Option (AV×Hp):=
 match aS E x,aS E y with
 |some x,some y=>ret H (eK P D op t x y)
 |_,_=>none
def CT(E:ax)(H:Hp)(op:UnOp)(x:Operand):Option (AV×Hp):=
 match aS E x with
 |some x=>ret H (uY op x)
 |none=>none
def Ae(E:ax)(H:Hp)(s d:TypeId)(x:Operand):Option (AV×Hp):=
 match aS E x with
 |some x=>ret H (mM P H s d x)
 |none=>none
def CU(E:ax)(H:Hp)(z:Fn)(first Y:Array Operand):Option (AV×Hp):=
 match z,first.toList,jx E Y.toList with
 | .func f,[],some vs=>some (.bm f vs,H)
 |_,_,_=>none
def Af(H:Hp)(r:Option Operand):Option (AV×Hp):=
 match r with
 |none=>some (.map H.next,H.alloc (.map []))
 |some _=>none
def Ag(E:ax)(H:Hp)(t:TypeId)(l c:Operand):Option (AV×Hp):=
 match aS E l,aS E c with
 |some l,some c=>j9 P H t l c
 |_,_=>none
def lR(E:ax):Option Operand->Option qC
 |none=>some none
 |some x=>match aS E x with
  |some v=>some (some v)
  |none=>none
def Ah(E:ax)(H:Hp)(t:TypeId)(x:Operand)(lo C z:Option Operand):Option (AV×Hp):=
 match z,aS E x,lR E lo,lR E C with
 |none,some x,some l,some h=>ret H (ph P H t x l h)
 |_,_,_,_=>none
def CV(E:ax)(H:Hp)(t:TypeId)(x:Operand)(f:Nat):Option (AV×Hp):=
 match aS E x with
 |some x=>ret H (uV P t x f)
 |none=>none
def CW(E:ax)(H:Hp)(t:TypeId)(x:Operand)(f:Nat):Option (AV×Hp):=
 match aS E x with
 |some x=>ret H (wK P t x f)
 |none=>none
def CX(E:ax)(H:Hp)(t:TypeId)(x i:Operand):Option (AV×Hp):=
 match aS E x,aS E i with
 |some x,some i=>ret H (ej P t x i)
 |_,_=>none
def CY(E:ax)(H:Hp)(t:TypeId)(x i:Operand):Option (AV×Hp):=
 match aS E x,aS E i with
 |some x,some i=>ret H (sc P t x i)
 |_,_=>none
def Ai(E:ax)(H:Hp)(t:TypeId)(m k:Operand)(ok:Bool):Option (AV×Hp):=
 match aS E m,aS E k with
 |some m,some k=>ret H (mL P H t m k ok)
 |_,_=>none
def CZ(E:ax)(H:Hp)(t:TypeId)(m k v:Operand):Option (AV×Hp):=
 match aS E m,aS E k,aS E v with
 |some m,some k,some v=>match re P H t m k v with
  |some H=>some (dK,H)
  |none=>none
 |_,_,_=>none
def C0(E:ax)(H:Hp)(x:Operand)(i:Nat):Option (AV×Hp):=
 match aS E x with
 |some x=>ret H (extract x i)
 |none=>none
def dM(D:BinOp->Sx->Sx->qG)(E:ax)(H:Hp)(op:Op):Option (AV×Hp):=
 match op with
 | .move x=>ret H (aS E x)
 | .assign x=>ret H (aS E x)
 | .pick c a b=>CO E H c a b
 | .alloc t=>z8 P H t
 | .box _ x=>z9 E H x
 | .build t L=>CP P E H t L
 | .buildSlice t V L=>Ac P E H t V L
 | .load t a=>Ad P E H t a
 | .store t a x=>CQ P E H t a x
 | .nilCheck x=>CR E H x
 | .binOp op t x y _=>CS P D E H op t x y
 | .unOp op _ x=>CT E H op x
 | .convert s d x=>Ae P E H s d x
 | .makeFunc z first Y=>CU E H z first Y
 | .makeMap _ r=>Af H r
 | .makeSlice t l c=>Ag P E H t l c
 | .slice t x U C Z=>Ah P E H t x U C Z
 | .fieldAddr t x f=>CV P E H t x f
 | .field t x f=>CW P E H t x f
 | .indexAddr t x i=>CX P E H t x i
 | .index t x i=>CY P E H t x i
 | .lookup t m k ok=>Ai P E H t m k ok
 | .mapUpdate t m k v=>CZ P E H t m k v
 | .extract x i=>C0 E H x i
 |_=>none
inductive zd3 where
 |aP (f:FuncId) (N:Nat) (c:Code) (E:ax) (H:Hp)
 |call (f:FuncId) (args:qt) (H:Hp)
inductive AX where
 |normal|exit (id:Nat)|ret
inductive Res where
 |done (x:AX) (E:ax) (H:Hp)
 |val (v:AV) (H:Hp)
 |aQ
def gB(N:Nat)(E:ax)(M:Option Tmp)(v:AV):Option ax:=
 match M with
 |some d=>match Nat.blt d N with
  |true=>some (T.set E d (some v))
  |false=>none
 |none=>some E
def C1(ops:qA)(E:ax)(j:Nat):qG:=
 match (ops[j]?).bind (·.dst)with
 |some d=>match E.at d with|.bool b=>some b |_=>none
 |none=>none
def kN(ops:qA)(E:ax)(o:Oper):Bool:=
 match o.guard with
 |none=>true
 |some (j,Y)=>match C1 ops E j with
  |some b=>b == Y
  |none=>false
variable (cfg:Cfg)
def u5(ih:zd3->Res)(f:FuncId)(E:ax)(H:Hp)(c:Call):Res:=
 match c.callee with
 | .value g=>match aS E g,jx E c.args.toList with
   |some (.bm k J),some vs=>ih (.call k (vs++J) H)
   |_,_=>.aQ
 | .builtin b=>match jx E c.args.toList with
   |some vs=>match sV P (cfg.keep f) H b c.argTypes.toList vs with
    |some (v,H)=>.val v H
    |none=>.aQ
   |none=>.aQ
 |_=>.aQ
def iY:Option (AV×Hp)->Res
 |some (v,H)=>.val v H
 |none=>.aQ
def eR(ih:zd3->Res)(f:FuncId)(E:ax)(H:Hp)(op:Op):Res:=
 match op with
 | .call c=>u5 P cfg ih f E H c
 |op=>iY (dM P cfg.cl E H op)
def Sx.beq:Sx->Sx->Bool
 | .var i,.var j=>Nat.beq i j
 | .lit a,.lit b=>a == b
 | .ca o k a b,.ca Z k' Y U=>decide (o=Z)&&decide (k=k')&&Sx.beq a Y&&Sx.beq b U
 | .di k a,.di k' b=>decide (k=k')&&Sx.beq a b
 |_,_=>false
mutual
def AV.beq:AV->AV->Bool
 | .int k a,.int k' b=>decide (k=k')&&(a == b)
 | .sx k a,.sx k' b=>decide (k=k')&&Sx.beq a b
 | .bool a,.bool b=>a == b
 | .aq a,.aq b=>a == b
 | .bC,.bC|.bi,.bi|.bL,.bL|.ak,.ak=>true
 | .ptr r o,.ptr V j=>Nat.beq r V&&Nat.beq o j
 | .bj a,.bj b=>mN a b
 | .sl r o l z,.sl V j C g=>Nat.beq r V&&Nat.beq o j&&Nat.beq l C&&Nat.beq z g
 | .aE a,.aE b=>wN a b
 | .map r,.map V=>Nat.beq r V
 | .bm f a,.bm Z b=>Nat.beq f Z&&mN a b
 | .agg a,.agg b=>mN a b
 | .aX a,.aX b=>mN a b
 |_,_=>false
def mN:qt->qt->Bool
 |[],[]=>true
 |a::x,b::y=>AV.beq a b&&mN x y
 |_,_=>false
def wN:List qt->List qt->Bool
 |[],[]=>true
 |a::x,b::y=>mN a b&&wN x y
 |_,_=>false
end
inductive Kind where
 |b3   -- looks at no memory
 |read
 |make
 |cU
def iS:Op->Kind
 | .load ..|.lookup ..|.convert ..|.slice ..=>.read
 | .alloc _|.box ..|.buildSlice ..|.makeMap ..|.makeSlice ..=>.make
 | .store ..|.mapUpdate ..=>.cU
 | .call c=>match c.callee with
   | .builtin .len|.builtin .max|.builtin .min=>.read
   |_=>.cU
 |_=>.b3
structure Rec where
 o:Oper
 did:Bool
 E:ax
 H:Hp
 val:AV
 H':Hp
inductive zf7 where
 |done (E:ax) (H:Hp) (rs:List Rec)
 |aQ
def rh(r:Rec):zf7->zf7
 | .done E H rs=>.done E H (r::rs)
 | .aQ=>.aQ
def ri(V:ax->Hp->zf7)(H:Hp):Option ax->zf7
 |some E=>V E H
 |none=>.aQ
def kO(ih:zd3->Res)(f N:Nat)(Y:qA):qA->ax->Hp->zf7
 |[],E,H=>.done E H []
 |o::rest,E,H=>match kN Y E o with
  |true=>match eR P cfg ih f E H o.op with
   | .val v H'=>rh ⟨o,true,E,H,v,H'⟩ (ri (kO ih f N Y rest) H' (gB N E o.dst v))
   |_=>.aQ
  |false=>rh ⟨o,false,E,H,dK,H⟩ (ri (kO ih f N Y rest) H (gB N E o.dst dK))
def preds(o:Oper):qD:=(o.after.toList.filter (Region.binds .any)).map (·.on)
def yq:qD->qD->qD
 |acc,[]=>acc
 |acc,x::xs=>match acc.contains x with
  |true=>yq acc xs
  |false=>yq (x::acc) xs
def Ak(l:qD):qD:=yq [] l
def jq:qA->List qD->List qD
 |[],acc=>acc
 |o::rest,acc=>jq rest (acc++[Ak (preds o++(preds o).flatMap fun i=>acc.getD i [])])
def L2(o:Oper):qD:=o.dst.toList++o.op.operands.toList.filterMap fun|.tmp t=>some t |_=>none
def u7(Y:qA)(o:Oper):qD:=L2 o++(match o.guard with|some (j,_)=>((Y[j]?).bind (·.dst)).toList|none=>[])
def oA(o:Oper):Bool:=match iS o.op with|.cU=>true |_=>false
def u9(o:Oper):Bool:=match iS o.op with|.make=>true |_=>false
def clash(Y:qA)(p q:Oper):Bool:=
 (oA p&&(oA q||u9 q)) ||
 (p.dst.toList.any fun d=>(u7 Y q).contains d)||(q.dst.toList.any fun d=>(u7 Y p).contains d)
def sW(Y:qA):Bool:=
 let A:=jq Y []
 (List.range Y.length).all fun j=>match Y[j]? with
   |none=>true
   |some q=>(preds q).all (·< j)&&(match q.guard with|some (g,_)=>(A.getD j []).contains g|none=>true) &&
    (List.range j).all fun i=>match Y[i]? with
      |none=>true
      |some p=>!clash Y p q||(A.getD j []).contains i
def kQ(ops:qA):qD:=(List.range ops.length).filter fun i=>match ops[i]? with
 |some o=>oA o
 |none=>false
def cO(rs:List Rec)(H':Hp)(e:Nat):Hp:=match rs[e]? with
 |some r=>r.H
 |none=>H'
def HB.beq:HB->HB->Bool
 | .cells a i t,.cells b j u=>mN a b&&Nat.beq i j&&(t == u)
 | .map a,.map b=>mN (a.map (·.1)) (b.map (·.1))&&mN (a.map (·.2)) (b.map (·.2))
 |_,_=>false
def zeo(r:Rec)(H:Hp):Bool:=
 match iS r.o.op with
 | .read=>match eR P cfg (fun _=>.aQ) 0 r.E H r.o.op with
   | .val v _=>AV.beq v r.val
   |_=>false
 | .make=>match H.get r.H.next,r.H'.get r.H.next with
   |some b,some U=>HB.beq b U
   |_,_=>false
 |_=>true
def C2(A:List qD)(O:qD)(i m:Nat):Bool:=
 !(O.any (fun e=>(A.getD i []).contains e&&Nat.ble m e)||O.any (fun e=>(A.getD e []).contains i&&Nat.blt e m))
def rj(ops:qA):qP:=
 (List.range ops.length).flatMap fun i=>match ops[i]? with
   |some o=>match iS o.op with
    | .read|.make=>((kQ ops++[ops.length]).filter (C2 (jq ops []) (kQ ops) i)).map fun m=>(i,m)
    |_=>[]
   |none=>[]
def wO(need:qP)(rs:List Rec)(H':Hp):Bool:=
 rs.all (fun r=>Nat.ble r.H.next r.H'.next)&&need.all fun p=>match rs[p.1]? with
  |some r=>!r.did||zeo P cfg r (cO rs H' p.2)
  |none=>true
def oB(ih:zd3->Res)(f N:Nat)(ops:qA)(E:ax)(H:Hp):Res:=
 match sW ops with
 |true=>match kO P cfg ih f N ops ops E H with
  | .done E' H' rs=>match wO P cfg (rj ops) rs H' with
    |true=>.done .normal E' H'
    |false=>.aQ
  | .aQ=>.aQ
 |false=>.aQ
def jJ:qD->Nat->Nat
 |[],_=>0
 |x::xs,i=>match Nat.beq x i with
  |true=>0
  |false=>jJ xs i+1
def va(ord:qD)(o:Oper):Oper:=
 {o with after:=((o.after.toList.filter (Region.binds .any)).map fun e=>{e with on:=jJ ord e.on}).toArray,guard:=match o.guard with|some (j,b)=>some (jJ ord j,b)|none=>none}
def jr(ord:qD)(l:qA):qA:=ord.filterMap fun i=>match l[i]? with
 |some o=>some (va ord o)
 |none=>none
def Al(ord:qD)(l:qA):Bool:=
 Nat.beq ord.length l.length &&
 (List.range l.length).all (fun k=>(match ord[k]? with|some i=>Nat.blt i l.length&&Nat.beq (jJ ord i) k|none=>false)&&Nat.blt (jJ ord k) l.length&&(match ord[jJ ord k]? with|some i=>Nat.beq i k|none=>false)) &&
 l.all (fun o=>(preds o).all (fun p=>Nat.blt p l.length)&&(match o.guard with|some (j,_)=>Nat.blt j l.length|none=>true))
def kR(q p:Nat)(l:qA):qA:=match l[q]? with
 |some o=>l.set q {o with after:=o.after.push {on:=p,ground:=.data} }
 |none=>l
def T.beq{I:Type}(g:I->I->Bool):T I->T I->Bool
 | .e,.e=>true
 | .n v l r,.n O C V=>(match v,O with|some a,some b=>g a b|none,none=>true |_,_=>false)&&T.beq g l C&&T.beq g r V
 |_,_=>false
def HA(ops:qA)(Z j:ax)(Y i:Hp):Bool:=
 ops.all (fun o=>match o.dst with|some d=>AV.beq (Z.at d) (j.at d)|none=>true)&&Nat.beq Y.next i.next&&T.beq HB.beq Y.t i.t
def wP(ops:qA):Res->Res->Res
 | .done .normal E1 H1,.done .normal j i=>match HA ops E1 j H1 i with
   |true=>.done .normal E1 H1
   |false=>.aQ
 |_,_=>.aQ
def lA(ih:zd3->Res)(f N:Nat)(E:ax)(H:Hp):zf0->qA->Res
 | .text,ops=>oB P cfg ih f N ops E H
 | .bA ord,ops=>match Al ord ops with
   |true=>oB P cfg ih f N (jr ord ops) E H
   |false=>.aQ
 | .split p q a b,ops=>match Nat.beq p q with
   |true=>.aQ
   |false=>wP ops (lA ih f N E H a (kR q p ops)) (lA ih f N E H b (kR p q ops))
def lS(V:ax->Hp->Res)(H:Hp):Option ax->Res
 |some E=>V E H
 |none=>.aQ
def lB(ih:zd3->Res)(f N:Nat)(Y:qA)(ops:qA):ax->Hp->Res:=
 List.rec (motive:=fun _=>ax->Hp->Res) (fun E H=>.done .normal E H)
  (fun o _ V E H=>match kN Y E o with
    |true=>match eR P cfg ih f E H o.op with
     | .val v H=>lS V H (gB N E o.dst v)
     |_=>.aQ
    |false=>lS V H (gB N E o.dst dK)) ops
def Am:Nat->ax
 |0=>.e
 |d+1=>.n (some dK) (Am d) (Am d)
def wQ(N:Nat):ax:=Am (Nat.log2 N+1)
def aW:Nat->qt->ax->ax
 |_,[],E=>E
 |i,v::vs,E=>aW (i+1) vs (T.set E i (some v))
def cY(E:ax)(H:Hp):ResultVar->qC
 | .tmp t=>some (E.at t)
 | .cell a t=>gL P H t (E.at a)
def cL(E:ax)(H:Hp):List ResultVar->Option qt
 |[]=>some []
 |r::rs=>match cY P E H r,cL E H rs with
  |some v,some vs=>some (v::vs)
  |_,_=>none
def am:qt->AV
 |[v]=>v
 |vs=>.aX vs
def yr(rs:List ResultVar)(E:ax)(H:Hp):Res:=
 match cL P E H rs with
 |some vs=>.val (am vs) H
 |none=>.aQ
def rm(ih:zd3->Res)(f:FuncId)(O:qt)(H:Hp):Res:=
 match P.funcs[f]? with
 |some z=>match z.body with
  |some c=>match ih (.aP f (max z.ntmps O.length) c (aW 0 O (wQ (max z.ntmps O.length))) H)with
   | .done .normal E H=>yr P z.results.toList E H
   | .done .ret E H=>yr P z.results.toList E H
   |_=>.aQ
  |none=>.aQ
 |none=>.aQ
def ro(ih:zd3->Res)(f N:Nat)(b:Code):Res->Res
 | .done .normal E H=>ih (.aP f N b E H)
 |r=>r
def pi(id:Nat):Res->Res
 | .done (.exit Y) E H=>match Nat.beq Y id with
   |true=>.done .normal E H
   |false=>.done (.exit Y) E H
 |r=>r
def wR(ih:zd3->Res)(f N:Nat)(x:Operand)(a b:Code)(E:ax)(H:Hp):Res:=
 match aS E x with
 |some (.bool true)=>ih (.aP f N a E H)
 |some (.bool false)=>ih (.aP f N b E H)
 |_=>.aQ
def fP(z:Nat):Nat->qt->List qt
 |0,_=>[]
 |n+1,l=>l.take z::fP z n (l.drop z)
def iA(g:AV->Hp->Option (AV×Hp)):qt->Hp->Option (qt×Hp)
 |[],H=>some ([],H)
 |c::cs,H=>match g c H with
  |some (d,H)=>match iA g cs H with
   |some (V,H)=>some (d::V,H)
   |none=>none
  |none=>none
def fF:Nat->AV->Hp->Option (AV×Hp)
 |0,_,_=>none
 |n+1,v,H=>match v with
  | .sl r I V z=>match H.get r with
    |some (.cells g Z Y)=>match Nat.ble (I+V*z) g.length&&Nat.ble Z g.length with
     |true=>match iA (fF n) ((g.drop I).take (V*z)) (H.set r (.cells g (max Z (I+V*z)) Y))with
      |some (l,H)=>some (.aE (fP z V l),H)
      |none=>none
     |false=>none
    |_=>none
  | .agg g=>match iA (fF n) g H with
    |some (U,H)=>some (.agg U,H)
    |none=>none
  | .ptr _ _=>none
  | .map _=>none
  |v=>some (v,H)
def An(ih:zd3->Res)(f:FuncId)(O:qt)(H:Hp):Option (qt×Hp)->Res
 |some (Z,H')=>match cfg.call f Z with
  |some r=>.val r H'
  |none=>rm P ih f O H
 |none=>rm P ih f O H
def yu:Bool->Res->Res
 |true,.val v H=>iY (fF 100 v H)
 |_,r=>r
def rp(ih:zd3->Res)(f:FuncId)(O:qt)(H:Hp):Res:=match cfg.aG f with
 |true=>An P cfg ih f O H (iA (fF 100) O H)
 |false=>rm P ih f O H
def step(ih:zd3->Res):zd3->Res
 | .call f O H=>match cfg.call f O with
   |some r=>.val r H
   |none=>yu (cfg.az f) (rp P cfg ih f O H)
 | .aP f N c E H=>match c with
   | .skip=>.done .normal E H
   | .region id ops draw=>match draw with
     |false=>lB P cfg ih f N ops.toList ops.toList E H
     |true=>lA P cfg ih f N E H (cfg.bU f id) ops.toList
   | .seq a b=>ro ih f N b (ih (.aP f N a E H))
   | .cond x a b=>wR ih f N x a b E H
   | .block id a=>pi id (ih (.aP f N a E H))
   | .loop a=>ro ih f N (.loop a) (ih (.aP f N a E H))
   | .exit id=>.done (.exit id) E H
   | .ret=>.done .ret E H
   |_=>.aQ
def ek(n:Nat):zd3->Res:=Nat.rec (motive:=fun _=>zd3->Res) (fun _=>.aQ) (fun _ ih=>step P cfg ih) n
end
def bM:Hp:={next:=0,t:=.e}
def iceL(g:AV->qC):qt->Option qt
 |[]=>some []
 |c::cs=>match g c,iceL g cs with
  |some d,some V=>some (d::V)
  |_,_=>none
def vb(g:AV->qC):List qt->Option (List qt)
 |[]=>some []
 |c::cs=>match iceL g c,vb g cs with
  |some d,some V=>some (d::V)
  |_,_=>none
def iceV(H:Hp):Nat->AV->qC
 |0,_=>none
 |n+1,v=>match v with
  | .sl r I V z=>match H.get r with
    |some (.cells g _ _)=>match iceL (iceV H n) ((g.drop I).take (V*z))with
     |some l=>if l.length=V*z then some (.aE (fP z V l))else none
     |none=>none
    |_=>none
  | .aE C=>match vb (iceV H n) C with
    |some Y=>some (.aE Y)
    |none=>none
  | .agg g=>match iceL (iceV H n) g with
    |some Z=>some (.agg Z)
    |none=>none
  | .aX g=>match iceL (iceV H n) g with
    |some Z=>some (.aX Z)
    |none=>none
  | .int k a=>some (.int k a)
  | .sx k e=>some (.sx k e)
  | .bool b=>some (.bool b)
  | .aq s=>some (.aq s)
  | .bC=>some .bC
  | .bi=>some .bi
  | .bL=>some .bL
  | .ak=>some .ak
  |_=>none
def C3(P:Program)(cfg:Cfg)(n m:Nat)(f:FuncId)(O:qt):qC:=
 match ek P cfg n (.call f O bM)with
 | .val v H=>iceV H m v
 |_=>none
def vc(m:Nat)(O:qt):Bool:=
 match iceL (iceV bM m) O with
 |some Z=>mN Z O
 |none=>false
def HC(P:Program)(cfg:Cfg)(n m:Nat)(f:FuncId)(O:qt)(r:AV):Bool:=
 match C3 P cfg n m f O with
 |some q=>AV.beq q r
 |none=>false
def wS:List (FuncId×qt×AV)->FuncId->qt->qC
 |[],_,_=>none
 |p::l,f,args=>match Nat.beq p.1 f with
  |true=>match mN p.2.1 args with
   |true=>some p.2.2
   |false=>wS l f args
  |false=>wS l f args
end
end Go.Ab
