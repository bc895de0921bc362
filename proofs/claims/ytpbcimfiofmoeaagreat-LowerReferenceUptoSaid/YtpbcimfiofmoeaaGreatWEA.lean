/- Lemmas for the last file. -/
import GoSem.Step
set_option linter.all false
set_option maxHeartbeats 32000000
namespace Go.Ab
variable{P C Z z j Y m:Prop}{I:Type}
abbrev qQ:=Array Oper
abbrev qP:=List (Nat×Nat)
abbrev qK:=Option Nat
abbrev qJ:=Option Bool
abbrev qG:=List Nat
abbrev qB:=List Oper
abbrev qA:=List UInt8
structure Bxx (p:Prop):Type where
 o:p
def bQ(q0:C)(h:Bxx C->P:=by
 intro q0;first
  |apply Ry.o ?_|apply iS ?_|apply Ry.gu ?_|apply cW ?_|apply eP ?_|apply jL rfl ?_|apply Ry.gv ?_|apply dX ?_|apply fA ?_|apply gJ ?_|apply iT ?_|fail
 exact q0.o):P:=h ⟨q0⟩
def aV(q0:C)(h:Bxx C->P:=by
 intro q0;first
  |apply Rx.o ?_|apply jc ?_|apply Rx.gu ?_|apply cW ?_|apply eP ?_|apply jL rfl ?_|apply Rx.gv ?_|apply dX ?_|apply fA ?_|apply gJ ?_|apply iT ?_|fail
 exact q0.o):P:=h ⟨q0⟩
def Vj{I:Prop}(q0:C)(q1:(Z->z->j))(q2:(Y->m->I))(h:Bxx C->Bxx (Z->z->j)->Bxx (Y->m->I)->P:=by
 intro q0 q1 q2;(repeat' (first
  |(apply aj ?_;try clear hK K)|apply aV ?_|(apply bz ?_ ?_<;>(intro hb hbp;try(cases hb;done)))|(apply am fun K hK=>?_)|(apply bD ?_;try intro _)|(apply ch ?_ ?_<;>try clear hK K)|fail))
 exact q0.o;exact q1.o hb hbp;exact q2.o hb hbp):P:=h ⟨q0⟩ ⟨q1⟩ ⟨q2⟩
def pE(q0:(z->m->C))(h:Bxx (z->m->C)->P:=by
 intro q0;(repeat' (first
  |(apply aj ?_;try clear hK K)|apply bQ ?_|(apply bu ?_ ?_<;>(intro hb hbp;try(cases hb;done)))|(apply am fun K hK=>?_)|fail))
 exact q0.o hb hbp):P:=h ⟨q0⟩
def tz(q0:(z->m->C))(q1:(Z->Y->j))(h:Bxx (z->m->C)->Bxx (Z->Y->j)->P:=by
 intro q0 q1;(repeat' (first
  |(apply aj ?_;try clear hK K)|apply aV ?_|(apply bz ?_ ?_<;>(intro hb hbp;try(cases hb;done)))|(apply am fun K hK=>?_)|fail))
 exact q0.o hb hbp;exact q1.o hb hbp):P:=h ⟨q0⟩ ⟨q1⟩
def GA{m:Type}{z:m->Prop}{C:∀K,z K->Prop}(q0:(∀K hK,C K hK))(h:Bxx (∀K hK,C K hK)->P:=by
 intro q0;(repeat' (first
  |(apply aj ?_;try clear hK K)|apply bQ ?_|(apply bu ?_ ?_<;>(intro hb hbp;try(cases hb;done)))|(apply am fun K hK=>?_)|(apply ci 3 [(3,14),(3,16),(7,14),(7,16),(9,14),(9,16),(10,14),(10,16),(13,14)] fun K hK=>?_)|(apply ci 14 [(2,5),(2,6)] fun K hK=>?_)|(apply bD ?_;try intro _)|fail))
 exact q0.o K hK):P:=h ⟨q0⟩
def KZ{J:Type}{M:J->Prop}{j:∀K,M K->Prop}(q0:C)(q1:(∀K hK,j K hK))(h:Bxx C->Bxx (∀K hK,j K hK)->P:=by
 intro q0 q1;(repeat' (first
  |(apply aj ?_;try clear hK K)|apply aV ?_|(apply am fun K hK=>?_)|(apply ci 2 [(3,8),(3,11),(7,8)] fun K hK=>?_)|(apply ci 4 [(3,10),(7,10)] fun K hK=>?_)|(apply bD ?_;try intro _)|(apply ch ?_ ?_<;>try clear hK K)|fail))
 exact q0.o;exact q1.o K hK):P:=h ⟨q0⟩ ⟨q1⟩
def Cc(q0:C)(q1:j)(h:Bxx C->Bxx j->P:=by
 intro q0 q1;(repeat' (first
  |(apply aj ?_;try clear hK K)|apply aV ?_|(apply am fun K hK=>?_)|(apply bD ?_;try intro _)|(apply ch ?_ ?_<;>try clear hK K)|fail))
 exact q0.o;exact q1.o):P:=h ⟨q0⟩ ⟨q1⟩
def K0(q0:(z->m->C))(h:Bxx (z->m->C)->P:=by
 intro q0;(repeat' (first
  |(apply aj ?_;try clear hK K)|apply bQ ?_|(apply bu ?_ ?_<;>(intro hb hbp;try(cases hb;done)))|(apply am fun K hK=>?_)|fail))
 exact q0.o hb hbp):P:=h ⟨q0⟩
def K1(q0:(z->m->C))(q1:(Z->Y->j))(h:Bxx (z->m->C)->Bxx (Z->Y->j)->P:=by
 intro q0 q1;(repeat' (first
  |(apply aj ?_;try clear hK K)|apply aV ?_|(apply bz ?_ ?_<;>(intro hb hbp;try(cases hb;done)))|(apply am fun K hK=>?_)|fail))
 exact q0.o hb hbp;exact q1.o hb hbp):P:=h ⟨q0⟩ ⟨q1⟩
def gW(q0:C)(h:Bxx C->P:=by
 intro q0;(repeat' (first
  |(apply aj ?_;try clear hK K)|apply aV ?_|(apply cL ?_ ?_<;>(intro hg hgp;try(cases hg;done)))|(apply bz ?_ ?_<;>(intro hb hbp;try(cases hb;done)))|(apply am fun K hK=>?_)|fail))
 exact q0.o):P:=h ⟨q0⟩
def wd(q0:(z->m->C))(h:Bxx (z->m->C)->P:=by
 intro q0;(repeat' (first
  |(apply aj ?_;try clear hK K)|apply bQ ?_|(apply bu ?_ ?_<;>(intro hb hbp;try(cases hb;done)))|(apply am fun K hK=>?_)|fail))
 exact q0.o hb hbp):P:=h ⟨q0⟩
def K2(q0:C)(q1:j)(h:Bxx C->Bxx j->P:=by
 intro q0 q1;(repeat' (first
  |(apply aj ?_;try clear hK K)|apply bQ ?_|(apply bu ?_ ?_<;>(intro hb hbp;try(cases hb;done)))|(apply am fun K hK=>?_)|(apply bD ?_;try intro _)|(apply ch ?_ ?_<;>try clear hK K)|fail))
 exact q0.o;exact q1.o):P:=h ⟨q0⟩ ⟨q1⟩
def xH(q0:(z->m->C))(q1:(Z->Y->j))(h:Bxx (z->m->C)->Bxx (Z->Y->j)->P:=by
 intro q0 q1;(repeat' (first
  |(apply aj ?_;try clear hK K)|apply aV ?_|(apply bz ?_ ?_<;>(intro hb hbp;try(cases hb;done)))|(apply am fun K hK=>?_)|fail))
 exact q0.o hb hbp;exact q1.o hb hbp):P:=h ⟨q0⟩ ⟨q1⟩
def K3(q0:(z->m->C))(q1:(Z->Y->j))(h:Bxx (z->m->C)->Bxx (Z->Y->j)->P:=by
 intro q0 q1;(repeat' (first
  |(apply aj ?_;try clear hK K)|apply bQ ?_|(apply bu ?_ ?_<;>(intro hb hbp;try(cases hb;done)))|(apply am fun K hK=>?_)|fail))
 exact q0.o hb hbp;exact q1.o hb hbp):P:=h ⟨q0⟩ ⟨q1⟩
def Vk(q0:C)(h:Bxx C->P:=by
 intro q0;(repeat' (first
  |(apply aj ?_;try clear hK K)|apply bQ ?_|(apply bu ?_ ?_<;>(intro hb hbp;try(cases hb;done)))|(apply am fun K hK=>?_)|fail))
 exact q0.o):P:=h ⟨q0⟩
def dJ(q0:C)(h:Bxx C->P:=by
 intro q0;(repeat' (first
  |(apply aj ?_;try clear hK K)|apply aV ?_|(apply am fun K hK=>?_)|fail))
 exact q0.o):P:=h ⟨q0⟩
def xI{m:Type}{z:m->Prop}{C:∀K,z K->Prop}(q0:(∀K hK,C K hK))(h:Bxx (∀K hK,C K hK)->P:=by
 intro q0;(repeat' (first
  |(apply aj ?_;try clear hK K)|apply bQ ?_|(apply jy ?_ ?_<;>(intro hg hgp;try(cases hg;done)))|(apply bu ?_ ?_<;>(intro hb hbp;try(cases hb;done)))|(apply am fun K hK=>?_)|fail))
 exact q0.o K hK):P:=h ⟨q0⟩
def xJ(q0:C)(h:Bxx C->P:=by
 intro q0;(repeat' (first
  |(apply aj ?_;try clear hK K)|apply bQ ?_|(apply bu ?_ ?_<;>(intro hb hbp;try(cases hb;done)))|(apply am fun K hK=>?_)|fail))
 exact q0.o):P:=h ⟨q0⟩
def tA(q0:(z->m->C))(h:Bxx (z->m->C)->P:=by
 intro q0;(repeat' (first
  |(apply aj ?_;try clear hK K)|apply bQ ?_|(apply bu ?_ ?_<;>(intro hb hbp;try(cases hb;done)))|(apply am fun K hK=>?_)|fail))
 exact q0.o hb hbp):P:=h ⟨q0⟩
def jG(q0:C)(h:Bxx C->P:=by
 intro q0;(repeat' (first
  |(apply aj ?_;try clear hK K)|apply aV ?_|(apply bz ?_ ?_<;>(intro hb hbp;try(cases hb;done)))|(apply am fun K hK=>?_)|fail))
 exact q0.o):P:=h ⟨q0⟩
def GB{m:Type}{z:m->Prop}{C:∀K,z K->Prop}(q0:(∀K hK,C K hK))(h:Bxx (∀K hK,C K hK)->P:=by
 intro q0;(repeat' (first
  |(apply aj ?_;try clear hK K)|apply aV ?_|(apply am fun K hK=>?_)|(apply ci 16 [(0,3),(2,3),(5,3),(5,6)] fun K hK=>?_)|(apply bD ?_;try intro _)|fail))
 exact q0.o K hK):P:=h ⟨q0⟩
def Cd(q0:(z->m->C))(h:Bxx (z->m->C)->P:=by
 intro q0;(repeat' (first
  |(apply aj ?_;try clear hK K)|apply aV ?_|(apply bz ?_ ?_<;>(intro hb hbp;try(cases hb;done)))|(apply am fun K hK=>?_)|fail))
 exact q0.o hb hbp):P:=h ⟨q0⟩
def GC(q0:C)(h:Bxx C->P:=by
 intro q0;(repeat' (first
  |(apply aj ?_;try clear hK K)|apply bQ ?_|(apply bu ?_ ?_<;>(intro hb hbp;try(cases hb;done)))|(apply am fun K hK=>?_)|fail))
 exact q0.o):P:=h ⟨q0⟩
def K4{m:Type}{z:m->Prop}{C:∀K,z K->Prop}(q0:(∀K hK,C K hK))(h:Bxx (∀K hK,C K hK)->P:=by
 intro q0;(repeat' (first
  |(apply aj ?_;try clear hK K)|apply bQ ?_|(apply bu ?_ ?_<;>(intro hb hbp;try(cases hb;done)))|(apply am fun K hK=>?_)|fail))
 exact q0.o K hK):P:=h ⟨q0⟩
def Ce(q0:C)(h:Bxx C->P:=by
 intro q0;(repeat' (first
  |(apply aj ?_;try clear hK K)|apply aV ?_|(apply am fun K hK=>?_)|fail))
 exact q0.o):P:=h ⟨q0⟩
def zq{m:Type}{z:m->Prop}{C:∀K,z K->Prop}(q0:(∀K hK,C K hK))(h:Bxx (∀K hK,C K hK)->P:=by
 intro q0;(repeat' (first
  |(apply aj ?_;try clear hK K)|apply bQ ?_|(apply bu ?_ ?_<;>(intro hb hbp;try(cases hb;done)))|(apply am fun K hK=>?_)|fail))
 exact q0.o K hK):P:=h ⟨q0⟩
def Cf{m:Type}{z:m->Prop}{C:∀K,z K->Prop}(q0:(∀K hK,C K hK))(h:Bxx (∀K hK,C K hK)->P:=by
 intro q0;(repeat' (first
  |(apply aj ?_;try clear hK K)|apply aV ?_|(apply am fun K hK=>?_)|(apply ci 30 [(5,6),(9,6),(9,10)] fun K hK=>?_)|(apply bD ?_;try intro _)|fail))
 exact q0.o K hK):P:=h ⟨q0⟩
def jH(q0:C)(h:Bxx C->P:=by
 intro q0;(repeat' (first
  |(apply aj ?_;try clear hK K)|apply aV ?_|(apply am fun K hK=>?_)|fail))
 exact q0.o):P:=h ⟨q0⟩
def GD(q0:C)(h:Bxx C->P:=by
 intro q0;(repeat' (first
  |(apply aj ?_;try clear hK K)|apply aV ?_|(apply am fun K hK=>?_)|fail))
 exact q0.o):P:=h ⟨q0⟩
def cY{m:Type}{z:m->Prop}{C:∀K,z K->Prop}(q0:(∀K hK,C K hK))(h:Bxx (∀K hK,C K hK)->P:=by
 intro q0;(repeat' (first
  |(apply aj ?_;try clear hK K)|apply aV ?_|(apply am fun K hK=>?_)|fail))
 exact q0.o K hK):P:=h ⟨q0⟩
def Cg{m:Type}{z:m->Prop}{C:∀K,z K->Prop}(q0:(∀K hK,C K hK))(h:Bxx (∀K hK,C K hK)->P:=by
 intro q0;(repeat' (first
  |(apply aj ?_;try clear hK K)|apply bQ ?_|(apply am fun K hK=>?_)|fail))
 exact q0.o K hK):P:=h ⟨q0⟩
def wh{m:Type}{z:m->Prop}{C:∀K,z K->Prop}(q0:(∀K hK,C K hK))(h:Bxx (∀K hK,C K hK)->P:=by
 intro q0;(repeat' (first
  |(apply aj ?_;try clear hK K)|apply aV ?_|(apply bz ?_ ?_<;>(intro hb hbp;try(cases hb;done)))|(apply am fun K hK=>?_)|fail))
 exact q0.o K hK):P:=h ⟨q0⟩
def zr(q0:C)(h:Bxx C->P:=by
 intro q0;(repeat' (first
  |(apply aj ?_;try clear hK K)|apply bQ ?_|(apply am fun K hK=>?_)|fail))
 exact q0.o):P:=h ⟨q0⟩
def Ch{m:Type}{z:m->Prop}{C:∀K,z K->Prop}(q0:(∀K hK,C K hK))(h:Bxx (∀K hK,C K hK)->P:=by
 intro q0;(repeat' (first
  |(apply aj ?_;try clear hK K)|apply aV ?_|(apply am fun K hK=>?_)|fail))
 exact q0.o K hK):P:=h ⟨q0⟩
def rB(q0:C)(h:Bxx C->P:=by
 intro q0;(repeat' (first
  |apply aV ?_|(apply bD ?_;try intro _)|fail))
 exact q0.o):P:=h ⟨q0⟩
def K5(q0:C)(h:Bxx C->P:=by
 intro q0;(repeat' (first
  |(apply aj ?_;try clear hK K)|apply aV ?_|fail))
 exact q0.o):P:=h ⟨q0⟩
def K6(q0:C)(h:Bxx C->P:=by
 intro q0;(repeat' (first
  |(apply aj ?_;try clear hK K)|fail))
 exact q0.o):P:=h ⟨q0⟩
noncomputable section
open Go
inductive T (α:Type) where
 |e
 |n (v:Option α) (l r:T α)
def kJ(b:Bool)(x y:I):I:=Bool.rec y x b
def T.get(t:T I):Nat->Option I:=
 T.rec (motive:=fun _=>Nat->Option I) (fun _=>none)
  (fun v _ _ O J k=>kJ (Nat.beq k 0) v (kJ (Nat.beq (Nat.mod k 2) 1) (O (Nat.div k 2)) (J (Nat.sub (Nat.div k 2) 1)))) t
def jR(v:Option I)(f:Nat):T I->Nat->T I:=
 Nat.rec (motive:=fun _=>T I->Nat->T I) (fun t _=>t)
  (fun _ ih t k=>T.casesOn t
    (kJ (Nat.beq k 0) (.n v .e .e) (kJ (Nat.beq (Nat.mod k 2) 1) (.n none (ih .e (Nat.div k 2)) .e) (.n none .e (ih .e (Nat.sub (Nat.div k 2) 1)))))
    (fun u l r=>kJ (Nat.beq k 0) (.n v l r) (kJ (Nat.beq (Nat.mod k 2) 1) (.n u (ih l (Nat.div k 2)) r) (.n u l (ih r (Nat.sub (Nat.div k 2) 1)))))) f
def T.set(t:T I)(k:Nat)(v:Option I):T I:=jR v (k+1) t k
inductive Sx where
 |var (i:Nat)
 |lit (n:Int)
 |dn (op:BinOp) (k:IntKind) (a b:Sx)
 |eO (k:IntKind) (a:Sx)
inductive AV where
 |int (k:IntKind) (n:Int)
 |sx (k:IntKind) (e:Sx)
 |bool (b:Bool)
 |aj (s:qA)
 |b0|bD|ch|ag
 |ptr (r:Nat) (off:Nat)
 |bI (cs:List AV)
 |sl (r off len z:Nat)
 |az (xs:List (List AV))
 |map (r:Nat)
 |bJ (f:Nat) (cap:List AV)
 |agg (cs:List AV)
 |a6 (vs:List AV)
abbrev qR:=List (AV×AV)
abbrev qO:=List (Nat×AV)
abbrev qE:=Option AV
abbrev qu:=List AV
inductive HB where
 |cells (cs:qu) (imm:Nat) (tip:Bool)
 |map (es:qR)
structure Hp where
 next:Nat
 t:T HB
def Hp.get(h:Hp)(r:Nat):Option HB:=h.t.get r
def Hp.set(h:Hp)(r:Nat)(b:HB):Hp:={next:=h.next,t:=h.t.set r (some b) }
def Hp.a0(h:Hp)(r:Nat):Hp:={next:=h.next,t:=h.t.set r none}
def Hp.alloc(h:Hp)(b:HB):Hp:={next:=h.next+1,t:=h.t.set h.next (some b) }
inductive zf4 where
 |text
 |cn (ord:qG)
 |split (p q:Nat) (a b:zf4)
structure Cfg where
 keep:FuncId->Bool
 dI:BinOp->Sx->Sx->qJ:=fun _ _ _=>none
 call:FuncId->qu->qE:=fun _ _=>none
 aG:FuncId->Bool:=fun _=>false
 ca:FuncId->Nat->zf4:=fun _ _=>.text
 aB:FuncId->Bool:=fun _=>false
abbrev aq:=T AV
def dH:AV:=.a6 []
def aq.at(E:aq)(t:Nat):AV:=(T.get E t).getD dH
def zt:Value->qE
 | .int k n=>some (.int k n)
 | .bool b=>some (.bool b)
 | .string s=>some (.aj s.data.toList)
 | .pointer none=>some .b0
 | .slice none 0 0=>some .ag
 | .map none=>some .bD
 | .nilFunc=>some .ch
 |_=>none
def xK:Value->qE
 | .agg I=>(I.toList.mapM zt).map .agg
 |v=>zt v
def aT(E:aq):Operand->qE
 | .tmp t=>some (E.at t)
 | .const v=>xK v
 | .global _=>none
 | .func f=>some (.bJ f [])
def jj(E:aq):List Operand->Option qu
 |[]=>some []
 |x::xs=>match aT E x,jj E xs with
  |some v,some vs=>some (v::vs)
  |_,_=>none
def AV.cells:AV->qu
 | .agg I=>I
 |v=>[v]
def AV.one:AV->Bool
 | .agg _|.a6 _=>false
 |_=>true
section
variable (P:Program)
def bL(t:TypeId):qK:=(P.info? t).map (·.size)
def dF(t:TypeId):qK:=(P.info? t).map (·.bytes)
def tB(t:TypeId):qE:=
 match P.info? t with
 |some {zero:=some z,.. }=>xK z
 |_=>none
def cQ(t:TypeId):Option qu:=
 match tB P t with
 |some v=>some v.cells
 |none=>none
def dc(t:TypeId)(cs:qu)(off:Nat):qE:=
 match P.underlying t with
 |some (.struct _)|some (.array _ _)=>
  match bL P t with
  |some s=>let l:=(cs.drop off).take s;if l.length=s then some (.agg l)else none
  |none=>none
 |some _=>cs[off]?
 |none=>none
def gX(H:Hp)(t:TypeId):AV->qE
 | .ptr r Y=>match H.get r with
   |some (.cells I _ _)=>dc P t I Y
   |_=>none
 | .bI I=>dc P t I 0
 |_=>none
def splice(cs:qu)(off:Nat)(O:qu):qu:=cs.take off++O++cs.drop (off+O.length)
def lW(H:Hp)(t:TypeId)(a v:AV):Option Hp:=
 match a with
 | .ptr r Y=>match H.get r,bL P t with
   |some (.cells I z C),some s=>
    if v.cells.length=s/\z<=Y/\Y+s<=I.length/\v.cells.all AV.one then some (H.set r (.cells (splice I Y v.cells) z C))else none
   |_,_=>none
 |_=>none
def uK(t:TypeId)(a:AV)(i:Nat):qE:=
 match P.underlying t with
 |some (.struct C)=>match C[i]? with
  |some f=>match bL P f.type with
   |some (_+1)=>match a with
    | .ptr r Y=>some (.ptr r (Y+f.offset))
    | .bI I=>some (.bI (I.drop f.offset))
    |_=>none
   |_=>none
  |none=>none
 |_=>none
def wi(t:TypeId)(x:AV)(i:Nat):qE:=
 match P.underlying t,x with
 |some (.struct C),.agg I=>match C[i]? with
  |some f=>dc P f.type I f.offset
  |none=>none
 |_,_=>none
def zid(n:Int):qK:=match n with|.ofNat k=>some k |_=>none
def el(t:TypeId)(x i:AV):qE:=
 match i with
 | .int _ (.ofNat k)=>match P.underlying t with
   |some (.slice e)=>match bL P e with
    |some s=>match x with
     | .sl r Y j _=>if k<j then some (.ptr r (Y+k*s))else none
     | .az z=>match z[k]? with
       |some I=>if I.length=s then some (.bI I)else none
       |none=>none
     |_=>none
    |none=>none
   |some (.array n e)=>match bL P e with
    |some s=>match x with
     | .ptr r Y=>if k<n then some (.ptr r (Y+k*s))else none
     |_=>none
    |none=>none
   |_=>none
 |_=>none
def rC(t:TypeId)(x i:AV):qE:=
 match i with
 | .int _ (.ofNat k)=>match P.underlying t,x with
   |some .string,.aj s=>match s[k]? with
    |some b=>some (.int .u8 b.toNat)
    |none=>none
   |some (.array n e),.agg I=>if k<n then (match bL P e with|some s=>dc P e I (k*s)|none=>none)else none
   |_,_=>none
 |_=>none
def iQ(d:Nat):qE->qK
 |none=>some d
 |some (.int _ (.ofNat k))=>some k
 |some _=>none
def kW(t:TypeId)(x:AV)(lo I:qE):qE:=
 match P.underlying t,x with
 |some .string,.aj s=>
  match iQ 0 lo,iQ s.length I with
  |some l,some h=>if l<=h/\h<=s.length then some (.aj ((s.drop l).take (h-l)))else none
  |_,_=>none
 |some (.slice e),x=>match bL P e with
  |some z=>match x with
   | .sl r Y j C=>match iQ 0 lo,iQ j I with
     |some l,some h=>if l<=h/\h<=j/\C=z then (if l=h then some (.az [])else some (.sl r (Y+l*z) (h-l) z))else none
     |_,_=>none
   | .az Z=>match iQ 0 lo,iQ Z.length I with
     |some l,some h=>if l<=h/\h<=Z.length then (match (Z.drop l).take (h-l)with
      |[]=>some (.az [])
      |row::rows=>if row.length=z then some (.az (row::rows))else none)else none
     |_,_=>none
   | .ag=>match iQ 0 lo,iQ 0 I with
     |some 0,some 0=>some .ag
     |_,_=>none
   |_=>none
  |none=>none
 |_,_=>none
def pF(H:Hp)(t:TypeId)(x:AV)(lo I:qE):qE:=
 match x with
 | .ptr r Y=>match P.underlying t,H.get r with
   |some (.array n e),some (.cells Z _ _)=>match bL P e,iQ 0 lo,iQ n I with
    |some z,some l,some h=>if l<=h/\h<=n/\Y+n*z<=Z.length then (if l=h then some (.az [])else some (.sl r (Y+l*z) (h-l) z))else none
    |_,_,_=>none
   |_,_=>none
 |x=>kW P t x lo I
def sA(J:Nat->Option (Nat×Nat))(cells:qu):qO->Option qu
 |[]=>some cells
 |(i,v)::rest=>match J i with
  |none=>none
  |some (Y,Z)=>if v.cells.length≠Z\/Y+v.cells.length > cells.length then none else sA J (splice cells Y v.cells) rest
def lJ(E:aq):List (Nat×Operand)->Option qO
 |[]=>some []
 |(i,x)::rest=>match aT E x,lJ E rest with
  |some v,some vs=>some ((i,v)::vs)
  |_,_=>none
def K7(C:List Field):Option qP:=C.mapM fun f=>(P.info? f.type).map fun i=>(f.offset,i.size)
def dd(t:TypeId)(M:qO):qE:=
 match cQ P t,P.underlying t with
 |some z,some (.struct C)=>match K7 P C.toList with
  |some j=>match sA (fun i=>j[i]?) z M with
   |some I=>some (.agg I)
   |none=>none
  |none=>none
 |some z,some (.array _ e)=>match bL P e with
  |some s=>match sA (fun i=>some (i*s,s)) z M with
   |some I=>some (.agg I)
   |none=>none
  |none=>none
 |_,_=>none
def pG(z:qu):Nat->qu
 |0=>[]
 |n+1=>z++pG z n
def de(H:Hp)(t:TypeId)(len:Nat)(M:qO):Option (AV×Hp):=
 match P.underlying t with
 |some (.slice e)=>match bL P e,cQ P e with
  |some s,some z=>if len*s<=16777216/\z.length=s then (match sA (fun i=>some (i*s,s)) (pG z len) M with
   |some I=>some (.sl H.next 0 len s,H.alloc (.cells I 0 true))
   |none=>none)else none
  |_,_=>none
 |_=>none
def ee:Nat:=70368744177664   -- 2^46
def fk(H:Hp)(s:Nat):AV->Option (Nat×qu)
 | .sl r Y j _=>match H.get r with
   |some (.cells Z _ _)=>let l:=(Z.drop Y).take (j*s);if l.length=j*s then some (j,l)else none
   |_=>none
 | .az z=>if z.all (fun I=>I.length == s)then some (z.length,z.flatten)else none
 | .ag=>some (0,[])
 | .aj b=>if s=1 then some (b.length,b.map fun x=>.int .u8 x.toNat)else none
 |_=>none
def nL(keep:Bool)(H:Hp)(s b:Nat)(V:AV)(n:Nat)(O:qu):Option (AV×Hp):=
 match V with
 | .ag=>if n*b<=ee/\n<=ee then some (.sl H.next 0 n s,H.alloc (.cells O 0 true))else none
 | .sl r Y j z=>match H.get r with
   |some (.cells I Z true)=>
    if (j+n)*b<=ee/\j+n<=ee/\Y+j*s=I.length/\z=s/\Z<=I.length then
     (if keep then some (.sl H.next 0 (j+n) s,(H.set r (.cells I I.length false)).alloc (.cells (I.drop Y++O) (j*s) true))
      else some (.sl H.next 0 (j+n) s,(H.a0 r).alloc (.cells (I.drop Y++O) (Z-Y) true)))
    else none
   |_=>none
 |_=>none
def gY(keep:Bool)(H:Hp)(s:Nat):AV->Hp
 | .sl r Y j _=>match H.get r with
   |some (.cells I z true)=>match !keep&&Nat.blt (Y+j*s) I.length&&Nat.ble z (Y+j*s)with
    |true=>H.set r (.cells (I.take (Y+j*s)) z true)
    |false=>H
   |_=>H
 |_=>H
def gN(t:TypeId):Bool:=
 match P.underlying t with
 |some (.slice _)|some .string=>true
 |_=>false
def cD(keep:Bool)(H:Hp)(t u:TypeId)(Z x:AV):Option (AV×Hp):=
 match P.underlying t with
 |some (.slice e)=>match bL P e,dF P e,cQ P e with
  |some s,some b,some z=>match gN P u,fk H s x with
   |true,some (0,_)=>match Z with
    | .sl ..|.az _|.ag=>some (Z,H)
    |_=>none
   |true,some (n,O)=>if O.all AV.one/\z.length=s then nL keep (gY keep H s Z) s b Z n O else none
   |_,_=>none
  |_,_,_=>none
 |_=>none
def pH(U:TypeDesc)(x y:AV):qJ:=
 match U with
 | .int _=>match x,y with
   | .int k a,.int k' b=>if k=k' then some (a == b)else none
   |_,_=>none
 | .string=>match x,y with
   | .aj a,.aj b=>some (a == b)
   |_,_=>none
 | .bool=>match x,y with
   | .bool a,.bool b=>some (a == b)
   |_,_=>none
 |_=>none
def nM(t:TypeId):Option TypeDesc:=
 match P.underlying t with
 |some (.int k)=>some (.int k)
 |some .string=>some .string
 |some .bool=>some .bool
 |_=>none
def fM(U:TypeDesc)(k:AV):qR->Nat->Option (Option (Nat×AV))
 |[],_=>some none
 |(k',v)::es,i=>match pH U k k' with
  |some true=>some (some (i,v))
  |some false=>fM U k es (i+1)
  |none=>none
def wj(H:Hp):AV->Option qR
 | .bD=>some []
 | .map r=>match H.get r with
   |some (.map I)=>some I
   |_=>none
 |_=>none
def zu(ok:Bool)(v:AV)(U:Bool):AV:=match ok with
 |true=>.a6 [v,.bool U]
 |false=>v
def jS(H:Hp)(t:TypeId)(m k:AV)(ok:Bool):qE:=
 match P.underlying t with
 |some (.map M e)=>match wj H m,nM P M with
  |some I,some U=>match fM U k I 0 with
   |some (some (_,v))=>some (zu ok v true)
   |some none=>match tB P e with
    |some v=>some (zu ok v false)
    |none=>none
   |none=>none
  |_,_=>none
 |_=>none
def oJ(H:Hp)(t:TypeId)(m k v:AV):Option Hp:=
 match P.underlying t with
 |some (.map M _)=>match m,nM P M with
  | .map r,some U=>match H.get r with
    |some (.map I)=>match fM U k I 0 with
     |some (some (i,_))=>some (H.set r (.map (I.set i (k,v))))
     |some none=>some (H.set r (.map (I++[(k,v)])))
     |none=>none
    |_=>none
  |_,_=>none
 |_=>none
def uL:qA->qA->Bool
 |_,[]=>false
 |[],_::_=>true
 |a::x,b::y=>a<b||(a == b&&uL x y)
def kK(op:BinOp)(k:IntKind)(a b:Int):qE:=
 match op with
 | .add=>some (.int k (k.wrap (a+b)))
 | .sub=>some (.int k (k.wrap (a-b)))
 | .mul=>some (.int k (k.wrap (a*b)))
 | .quo=>if b=0 then none else some (.int k (k.wrap (a.tdiv b)))
 | .rem=>if b=0 then none else some (.int k (a.tmod b))
 | .and=>some (.int k (k.wrap (BitVec.ofInt k.bits a &&& BitVec.ofInt k.bits b).toNat))
 | .or=>some (.int k (k.wrap (BitVec.ofInt k.bits a |||BitVec.ofInt k.bits b).toNat))
 | .xor=>some (.int k (k.wrap (BitVec.ofInt k.bits a^^^ BitVec.ofInt k.bits b).toNat))
 | .andNot=>some (.int k (k.wrap (BitVec.ofInt k.bits a &&& ~~~ BitVec.ofInt k.bits b).toNat))
 | .eql=>some (.bool (a == b))
 | .neq=>some (.bool (a != b))
 | .lss=>some (.bool (a<b))
 | .leq=>some (.bool (a<=b))
 | .gtr=>some (.bool (a > b))
 | .geq=>some (.bool (a>=b))
 |_=>none
def GE(op:BinOp)(k:IntKind)(a b:Int):Int:=
 match kK op k a b with
 |some (.int _ n)=>n
 |_=>0
def Sx.eval(ρ:Nat->Int):Sx->Int
 | .var i=>ρ i
 | .lit n=>n
 | .dn O k a b=>GE O k (a.eval ρ) (b.eval ρ)
 | .eO k a=>k.wrap (a.eval ρ)
def Ci:AV->Option (IntKind×Sx)
 | .int k n=>some (k,.lit n)
 | .sx k e=>some (k,e)
 |_=>none
def GF(D:BinOp->Sx->Sx->qJ)(op:BinOp)(k:IntKind)(a b:Sx):qE:=
 match op with
 | .add=>some (.sx k (.dn .add k a b))
 | .sub=>some (.sx k (.dn .sub k a b))
 | .mul=>some (.sx k (.dn .mul k a b))
 | .and=>some (.sx k (.dn .and k a b))
 | .or=>some (.sx k (.dn .or k a b))
 | .xor=>some (.sx k (.dn .xor k a b))
 | .andNot=>some (.sx k (.dn .andNot k a b))
 | .quo=>match D .eql b (.lit 0)with
   |some false=>some (.sx k (.dn .quo k a b))
   |_=>none
 | .rem=>match D .eql b (.lit 0)with
   |some false=>some (.sx k (.dn .rem k a b))
   |_=>none
 | .shl=>none
 | .shr=>none
 |op=>match D op a b with
  |some r=>some (.bool r)
  |none=>none
def Ck(D:BinOp->Sx->Sx->qJ)(op:BinOp)(x y:AV):qE:=
 match Ci x,Ci y with
 |some (k,a),some (k',b)=>if k=k' then GF D op k a b else none
 |_,_=>none
def xL(op:BinOp)(a b:qA):qE:=
 match op with
 | .add=>if a.length+b.length<=ee then some (.aj (a++b))else none
 | .eql=>some (.bool (a == b))
 | .neq=>some (.bool !(a == b))
 | .lss=>some (.bool (uL a b))
 | .leq=>some (.bool (uL a b||a == b))
 | .gtr=>some (.bool !(uL a b||a == b))
 | .geq=>some (.bool !(uL a b))
 |_=>none
def Cl(t:TypeId)(x y:AV):qJ:=
 match P.underlying t with
 |some .bool=>match x,y with
  | .bool a,.bool b=>some (a == b)
  |_,_=>none
 |some (.pointer _)=>match x,y with
  | .b0,.b0=>some true
  | .ptr _ _,.b0|.b0,.ptr _ _|.bI _,.b0|.b0,.bI _=>some false
  |_,_=>none
 |some (.map _ _)=>match x,y with
  | .bD,.bD=>some true
  | .map _,.bD|.bD,.map _=>some false
  |_,_=>none
 |some (.func _ _ _)=>match x,y with
  | .ch,.ch=>some true
  | .bJ _ _,.ch|.ch,.bJ _ _=>some false
  |_,_=>none
 |some (.slice _)=>match x,y with
  | .ag,.ag=>some true
  | .sl _ _ _ _,.ag|.ag,.sl _ _ _ _|.az (_::_),.ag|.ag,.az (_::_)=>some false
  |_,_=>none
 |_=>none
def tC(t:TypeId)(x y:AV):qJ:=
 match x,y with
 | .int k a,.int k' b=>match P.underlying t with
   |some (.int _)=>if k=k' then some (a == b)else none
   |_=>none
 | .aj a,.aj b=>match P.underlying t with
   |some .string=>some (a == b)
   |_=>none
 |x,y=>Cl P t x y
def xM(xs I:qu):List Field->qJ
 |[]=>some true
 |f::fs=>match f.name == "_" with
  |true=>xM xs I fs
  |false=>match dc P f.type xs f.offset,dc P f.type I f.offset with
   |some a,some b=>match tC P f.type a b with
    |some true=>xM xs I fs
    |some false=>some false
    |none=>none
   |_,_=>none
def Cm(t:TypeId)(xs I:qu):qJ:=
 match P.underlying t with
 |some (.struct C)=>match P.stoodInHeld t||P.eqGuardType P.depth t with
  |true=>none
  |false=>xM P xs I C.toList
 |_=>none
def wl(t:TypeId)(x y:AV):qJ:=
 match x,y with
 | .agg z,.agg I=>Cm P t z I
 |x,y=>Cl P t x y
def xN(op:BinOp)(k:IntKind)(a b:Int):qE:=
 match b with
 | .ofNat m=>match op with
   | .shl=>some (.int k (k.wrap (a*2^ min m k.bits)))
   | .shr=>some (.int k (a.fdiv (2^ min m k.bits)))
   |_=>none
 |_=>none
def uM(op:BinOp)(k m:IntKind)(a b:Int):qE:=
 match op with
 | .shl=>xN .shl k a b
 | .shr=>xN .shr k a b
 |op=>if k=m then kK op k a b else none
def GG(op:BinOp)(t:TypeId)(x y:AV):qE:=
 match op with
 | .eql=>match wl P t x y with
   |some b=>some (.bool b)
   |none=>none
 | .neq=>match wl P t x y with
   |some b=>some (.bool !b)
   |none=>none
 |_=>none
def eD(D:BinOp->Sx->Sx->qJ)(op:BinOp)(t:TypeId)(x y:AV):qE:=
 match x,y with
 | .int k a,.int k' b=>uM op k k' a b
 | .aj a,.aj b=>xL op a b
 | .sx k a,y=>Ck D op (.sx k a) y
 | .int k a,.sx k' b=>Ck D op (.int k a) (.sx k' b)
 |x,y=>GG P op t x y
def uN(op:UnOp)(x:AV):qE:=
 match op,x with
 | .neg,.sx k e=>some (.sx k (.dn .sub k (.lit 0) e))
 | .xor,.sx k e=>some (.sx k (.dn .xor k (.lit (if k.signed then -1 else k.max)) e))
 | .neg,.int k n=>kK .sub k 0 n
 | .xor,.int k n=>kK .xor k (if k.signed then -1 else k.max) n
 | .not,.bool b=>some (.bool !b)
 |_,_=>none
def wm:qu->Option qA
 |[]=>some []
 | .int .u8 n::cs=>match wm cs with
   |some bs=>some (UInt8.ofNat n.toNat::bs)
   |none=>none
 |_=>none
def kX(H:Hp)(m U:TypeId)(x:AV):qE:=
 match P.underlying m,P.underlying U with
 |some (.slice e),some .string=>match P.underlying e with
  |some (.int .u8)=>match fk H 1 x with
   |some (_,I)=>match wm I with
    |some bs=>match x with
     | .sl _ _ _ _|.ag=>some (.aj bs)
     |_=>none
    |none=>none
   |none=>none
  |_=>none
 |some _,some (.int k)=>match x with
  | .int _ n=>some (.int k (k.wrap n))
  | .sx _ e=>some (.sx k (.eO k e))
  |_=>none
 |some .string,some .string=>match x with
  | .aj s=>some (.aj s)
  |_=>none
 |_,_=>none
def pI(H:Hp)(t:TypeId)(l c:AV):Option (AV×Hp):=
 match P.underlying t,l,c with
 |some (.slice e),.int _ (.ofNat l),.int _ (.ofNat c)=>match bL P e,dF P e,cQ P e with
  |some s,some b,some z=>if l<=c/\c*b<=ee/\c<=ee/\z.length=s then some (.sl H.next 0 l s,H.alloc (.cells (pG z l) 0 true))else none
  |_,_,_=>none
 |_,_,_=>none
def extract(x:AV)(i:Nat):qE:=
 match x with
 | .a6 vs=>vs[i]?
 |_=>none
def mm(V:Bool):AV->AV->qE
 | .int k x,.int _ y=>some (.int k (if (if V then decide (y > x)else decide (y<x))then y else x))
 |_,_=>none
def uO(V:Bool)(x:AV):qu->qE
 |[]=>some x
 |y::ys=>match mm V x y with
  |some z=>uO V z ys
  |none=>none
def gO(H:Hp)(t:TypeId)(x:AV):qE:=
 match P.underlying t with
 |some .string=>match x with
  | .aj s=>some (.int .i64 s.length)
  |_=>none
 |some (.slice _)=>match x with
  | .sl _ _ n _=>some (.int .i64 n)
  | .az z=>some (.int .i64 z.length)
  | .ag=>some (.int .i64 0)
  |_=>none
 |some (.array n _)=>some (.int .i64 n)
 |some (.map _ _)=>match wj H x with
  |some I=>some (.int .i64 I.length)
  |none=>none
 |_=>none
def sB(keep:Bool)(H:Hp)(b:Builtin)(J:List TypeId)(V:qu):Option (AV×Hp):=
 match b with
 | .append=>match J,V with
   |[t,u],[s,x]=>cD P keep H t u s x
   |_,_=>none
 | .len=>match J,V with
   |[t],[x]=>match gO P H t x with
    |some v=>some (v,H)
    |none=>none
   |_,_=>none
 | .max=>match V with
   |x::xs=>match uO true x xs with
    |some v=>some (v,H)
    |none=>none
   |[]=>none
 | .min=>match V with
   |x::xs=>match uO false x xs with
    |some v=>some (v,H)
    |none=>none
   |[]=>none
 |_=>none
def ret(H:Hp):qE->Option (AV×Hp)
 |some v=>some (v,H)
 |none=>none
def Cn(E:aq)(H:Hp)(c a b:Operand):Option (AV×Hp):=
 match aT E c with
 |some (.bool true)=>ret H (aT E a)
 |some (.bool false)=>ret H (aT E b)
 |_=>none
def zw(H:Hp)(t:TypeId):Option (AV×Hp):=
 match cQ P t with
 |some z=>some (.ptr H.next 0,H.alloc (.cells z 0 true))
 |none=>none
def zx(E:aq)(H:Hp)(x:Operand):Option (AV×Hp):=
 match aT E x with
 |some v=>some (.ptr H.next 0,H.alloc (.cells v.cells 0 true))
 |none=>none
def Co(E:aq)(H:Hp)(t:TypeId)(M:Array (Nat×Operand)):Option (AV×Hp):=
 match lJ E M.toList with
 |some z=>ret H (dd P t z)
 |none=>none
def zy(E:aq)(H:Hp)(t:TypeId)(len:Nat)(M:Array (Nat×Operand)):Option (AV×Hp):=
 match lJ E M.toList with
 |some z=>de P H t len z
 |none=>none
def zA(E:aq)(H:Hp)(t:TypeId)(a:Operand):Option (AV×Hp):=
 match aT E a with
 |some v=>ret H (gX P H t v)
 |none=>none
def Cp(E:aq)(H:Hp)(t:TypeId)(a x:Operand):Option (AV×Hp):=
 match aT E a,aT E x with
 |some a,some x=>match lW P H t a x with
  |some H=>some (dH,H)
  |none=>none
 |_,_=>none
def Cq(E:aq)(H:Hp)(x:Operand):Option (AV×Hp):=
 match aT E x with
 |some (.ptr r o)=>some (.ptr r o,H)
 |some (.bI I)=>some (.bI I,H)
 |_=>none
def Cr(D:BinOp->Sx->Sx->qJ)(E:aq)(H:Hp)(op:BinOp)(t:TypeId)(x y:Operand):Option (AV×Hp):=
 match aT E x,aT E y with
 |some x,some y=>ret H (eD P D op t x y)
 |_,_=>none
def Ct(E:aq)(H:Hp)(op:UnOp)(x:Operand):Option (AV×Hp):=
 match aT E x with
 |some x=>ret H (uN op x)
 |none=>none
def zB(E:aq)(H:Hp)(s d:TypeId)(x:Operand):Option (AV×Hp):=
 match aT E x with
 |some x=>ret H (kX P H s d x)
 |none=>none
def Cu(E:aq)(H:Hp)(Z:Fn)(first z:Array Operand):Option (AV×Hp):=
 match Z,first.toList,jj E z.toList with
 | .func f,[],some vs=>some (.bJ f vs,H)
 |_,_,_=>none
def zC(H:Hp)(r:Option Operand):Option (AV×Hp):=
 match r with
 |none=>some (.map H.next,H.alloc (.map []))
 |some _=>none
def zD(E:aq)(H:Hp)(t:TypeId)(l c:Operand):Option (AV×Hp):=
 match aT E l,aT E c with
 |some l,some c=>pI P H t l c
 |_,_=>none
def kY(E:aq):Option Operand->Option qE
 |none=>some none
 |some x=>match aT E x with
  |some v=>some (some v)
  |none=>none
def zE(E:aq)(H:Hp)(t:TypeId)(x:Operand)(lo I V:Option Operand):Option (AV×Hp):=
 match V,aT E x,kY E lo,kY E I with
 |none,some x,some l,some h=>ret H (pF P H t x l h)
 |_,_,_,_=>none
def Cv(E:aq)(H:Hp)(t:TypeId)(x:Operand)(f:Nat):Option (AV×Hp):=
 match aT E x with
 |some x=>ret H (uK P t x f)
 |none=>none
def Cw(E:aq)(H:Hp)(t:TypeId)(x:Operand)(f:Nat):Option (AV×Hp):=
 match aT E x with
 |some x=>ret H (wi P t x f)
 |none=>none
def Cy(E:aq)(H:Hp)(t:TypeId)(x i:Operand):Option (AV×Hp):=
 match aT E x,aT E i with
 |some x,some i=>ret H (el P t x i)
 |_,_=>none
def Cz(E:aq)(H:Hp)(t:TypeId)(x i:Operand):Option (AV×Hp):=
 match aT E x,aT E i with
 |some x,some i=>ret H (rC P t x i)
 |_,_=>none
def zF(E:aq)(H:Hp)(t:TypeId)(m k:Operand)(ok:Bool):Option (AV×Hp):=
 match aT E m,aT E k with
 |some m,some k=>ret H (jS P H t m k ok)
 |_,_=>none
def CA(E:aq)(H:Hp)(t:TypeId)(m k v:Operand):Option (AV×Hp):=
 match aT E m,aT E k,aT E v with
 |some m,some k,some v=>match oJ P H t m k v with
  |some H=>some (dH,H)
  |none=>none
 |_,_,_=>none
def CB(E:aq)(H:Hp)(x:Operand)(i:Nat):Option (AV×Hp):=
 match aT E x with
 |some x=>ret H (extract x i)
 |none=>none
def dK(D:BinOp->Sx->Sx->qJ)(E:aq)(H:Hp)(op:Op):Option (AV×Hp):=
 match op with
 | .move x=>ret H (aT E x)
 | .assign x=>ret H (aT E x)
 | .pick c a b=>Cn E H c a b
 | .alloc t=>zw P H t
 | .box _ x=>zx E H x
 | .build t M=>Co P E H t M
 | .buildSlice t j M=>zy P E H t j M
 | .load t a=>zA P E H t a
 | .store t a x=>Cp P E H t a x
 | .nilCheck x=>Cq E H x
 | .binOp op t x y _=>Cr P D E H op t x y
 | .unOp op _ x=>Ct E H op x
 | .convert s d x=>zB P E H s d x
 | .makeFunc Z first z=>Cu E H Z first z
 | .makeMap _ r=>zC H r
 | .makeSlice t l c=>zD P E H t l c
 | .slice t x lo I V=>zE P E H t x lo I V
 | .fieldAddr t x f=>Cv P E H t x f
 | .field t x f=>Cw P E H t x f
 | .indexAddr t x i=>Cy P E H t x i
 | .index t x i=>Cz P E H t x i
 | .lookup t m k ok=>zF P E H t m k ok
 | .mapUpdate t m k v=>CA P E H t m k v
 | .extract x i=>CB E H x i
 |_=>none
inductive zd4 where
 |aS (f:FuncId) (N:Nat) (c:Code) (E:aq) (H:Hp)
 |call (f:FuncId) (args:qu) (H:Hp)
inductive AX where
 |normal|exit (id:Nat)|ret
inductive Res where
 |done (x:AX) (E:aq) (H:Hp)
 |val (v:AV) (H:Hp)
 |aY
def fN(N:Nat)(E:aq)(U:Option Tmp)(v:AV):Option aq:=
 match U with
 |some d=>match Nat.blt d N with
  |true=>some (T.set E d (some v))
  |false=>none
 |none=>some E
def CC(ops:qB)(E:aq)(j:Nat):qJ:=
 match (ops[j]?).bind (·.dst)with
 |some d=>match E.at d with|.bool b=>some b |_=>none
 |none=>none
def jT(ops:qB)(E:aq)(o:Oper):Bool:=
 match o.guard with
 |none=>true
 |some (j,M)=>match CC ops E j with
  |some b=>b == M
  |none=>false
variable (cfg:Cfg)
def uQ(ih:zd4->Res)(f:FuncId)(E:aq)(H:Hp)(c:Call):Res:=
 match c.callee with
 | .value g=>match aT E g,jj E c.args.toList with
   |some (.bJ k z),some vs=>ih (.call k (vs++z) H)
   |_,_=>.aY
 | .builtin b=>match jj E c.args.toList with
   |some vs=>match sB P (cfg.keep f) H b c.argTypes.toList vs with
    |some (v,H)=>.val v H
    |none=>.aY
   |none=>.aY
 |_=>.aY
def iF:Option (AV×Hp)->Res
 |some (v,H)=>.val v H
 |none=>.aY
def eF(ih:zd4->Res)(f:FuncId)(E:aq)(H:Hp)(op:Op):Res:=
 match op with
 | .call c=>uQ P cfg ih f E H c
 |op=>iF (dK P cfg.dI E H op)
def Sx.beq:Sx->Sx->Bool
 | .var i,.var j=>Nat.beq i j
 | .lit a,.lit b=>a == b
 | .dn o k a b,.dn V k' m b'=>decide (o=V)&&decide (k=k')&&Sx.beq a m&&Sx.beq b b'
 | .eO k a,.eO k' b=>decide (k=k')&&Sx.beq a b
 |_,_=>false
mutual
def AV.beq:AV->AV->Bool
 | .int k a,.int k' b=>decide (k=k')&&(a == b)
 | .sx k a,.sx k' b=>decide (k=k')&&Sx.beq a b
 | .bool a,.bool b=>a == b
 | .aj a,.aj b=>a == b
 | .b0,.b0|.bD,.bD|.ch,.ch|.ag,.ag=>true
 | .ptr r o,.ptr j V=>Nat.beq r j&&Nat.beq o V
 | .bI a,.bI b=>lX a b
 | .sl r o l z,.sl j V O C=>Nat.beq r j&&Nat.beq o V&&Nat.beq l O&&Nat.beq z C
 | .az a,.az b=>wn a b
 | .map r,.map j=>Nat.beq r j
 | .bJ f a,.bJ Z b=>Nat.beq f Z&&lX a b
 | .agg a,.agg b=>lX a b
 | .a6 a,.a6 b=>lX a b
 |_,_=>false
def lX:qu->qu->Bool
 |[],[]=>true
 |a::x,b::y=>AV.beq a b&&lX x y
 |_,_=>false
def wn:List qu->List qu->Bool
 |[],[]=>true
 |a::x,b::y=>lX a b&&wn x y
 |_,_=>false
end
inductive Kind where
 |cW   -- looks at no memory
 |read
 |make
 |eu
def iu:Op->Kind
 | .load ..|.lookup ..|.convert ..|.slice ..=>.read
 | .alloc _|.box ..|.buildSlice ..|.makeMap ..|.makeSlice ..=>.make
 | .store ..|.mapUpdate ..=>.eu
 | .call c=>match c.callee with
   | .builtin .len|.builtin .max|.builtin .min=>.read
   |_=>.eu
 |_=>.cW
structure Rec where
 o:Oper
 did:Bool
 E:aq
 H:Hp
 val:AV
 H':Hp
inductive zik where
 |done (E:aq) (H:Hp) (rs:List Rec)
 |aY
def pJ(r:Rec):zik->zik
 | .done E H rs=>.done E H (r::rs)
 | .aY=>.aY
def pK(U:aq->Hp->zik)(H:Hp):Option aq->zik
 |some E=>U E H
 |none=>.aY
def jU(ih:zd4->Res)(f N:Nat)(m:qB):qB->aq->Hp->zik
 |[],E,H=>.done E H []
 |o::rest,E,H=>match jT m E o with
  |true=>match eF P cfg ih f E H o.op with
   | .val v H'=>pJ ⟨o,true,E,H,v,H'⟩ (pK (jU ih f N m rest) H' (fN N E o.dst v))
   |_=>.aY
  |false=>pJ ⟨o,false,E,H,dH,H⟩ (pK (jU ih f N m rest) H (fN N E o.dst dH))
def preds(o:Oper):qG:=(o.after.toList.filter (Region.binds .any)).map (·.on)
def xO:qG->qG->qG
 |acc,[]=>acc
 |acc,x::xs=>match acc.contains x with
  |true=>xO acc xs
  |false=>xO (x::acc) xs
def zG(l:qG):qG:=xO [] l
def jk:qB->List qG->List qG
 |[],acc=>acc
 |o::rest,acc=>jk rest (acc++[zG (preds o++(preds o).flatMap fun i=>acc.getD i [])])
def K8(o:Oper):qG:=o.dst.toList++o.op.operands.toList.filterMap fun|.tmp t=>some t |_=>none
def uR(m:qB)(o:Oper):qG:=K8 o++(match o.guard with|some (j,_)=>((m[j]?).bind (·.dst)).toList|none=>[])
def nN(o:Oper):Bool:=match iu o.op with|.eu=>true |_=>false
def uS(o:Oper):Bool:=match iu o.op with|.make=>true |_=>false
def clash(m:qB)(p q:Oper):Bool:=
 (nN p&&(nN q||uS q)) ||
 (p.dst.toList.any fun d=>(uR m q).contains d)||(q.dst.toList.any fun d=>(uR m p).contains d)
def nO(m:qB):Bool:=
 let A:=jk m []
 (List.range m.length).all fun j=>match m[j]? with
   |none=>true
   |some q=>(preds q).all (·< j)&&(match q.guard with|some (g,_)=>(A.getD j []).contains g|none=>true) &&
    (List.range j).all fun i=>match m[i]? with
      |none=>true
      |some p=>!clash m p q||(A.getD j []).contains i
def kZ(ops:qB):qG:=(List.range ops.length).filter fun i=>match ops[i]? with
 |some o=>nN o
 |none=>false
def cE(rs:List Rec)(H':Hp)(e:Nat):Hp:=match rs[e]? with
 |some r=>r.H
 |none=>H'
def HB.beq:HB->HB->Bool
 | .cells a i t,.cells b j u=>lX a b&&Nat.beq i j&&(t == u)
 | .map a,.map b=>lX (a.map (·.1)) (b.map (·.1))&&lX (a.map (·.2)) (b.map (·.2))
 |_,_=>false
def zee(r:Rec)(H:Hp):Bool:=
 match iu r.o.op with
 | .read=>match eF P cfg (fun _=>.aY) 0 r.E H r.o.op with
   | .val v _=>AV.beq v r.val
   |_=>false
 | .make=>match H.get r.H.next,r.H'.get r.H.next with
   |some b,some b'=>HB.beq b b'
   |_,_=>false
 |_=>true
def GH(A:List qG)(V:qG)(i m:Nat):Bool:=
 !(V.any (fun e=>(A.getD i []).contains e&&Nat.ble m e)||V.any (fun e=>(A.getD e []).contains i&&Nat.blt e m))
def lY(ops:qB):qP:=
 (List.range ops.length).flatMap fun i=>match ops[i]? with
   |some o=>match iu o.op with
    | .read|.make=>((kZ ops++[ops.length]).filter (GH (jk ops []) (kZ ops) i)).map fun m=>(i,m)
    |_=>[]
   |none=>[]
def wo(need:qP)(rs:List Rec)(H':Hp):Bool:=
 rs.all (fun r=>Nat.ble r.H.next r.H'.next)&&need.all fun p=>match rs[p.1]? with
  |some r=>!r.did||zee P cfg r (cE rs H' p.2)
  |none=>true
def jV(ih:zd4->Res)(f N:Nat)(ops:qB)(E:aq)(H:Hp):Res:=
 match nO ops with
 |true=>match jU P cfg ih f N ops ops E H with
  | .done E' H' rs=>match wo P cfg (lY ops) rs H' with
    |true=>.done .normal E' H'
    |false=>.aY
  | .aY=>.aY
 |false=>.aY
def jt:qG->Nat->Nat
 |[],_=>0
 |x::xs,i=>match Nat.beq x i with
  |true=>0
  |false=>jt xs i+1
def tD(ord:qG)(o:Oper):Oper:=
 {o with after:=((o.after.toList.filter (Region.binds .any)).map fun e=>{e with on:=jt ord e.on}).toArray,guard:=match o.guard with|some (j,b)=>some (jt ord j,b)|none=>none}
def fo(ord:qG)(l:qB):qB:=ord.filterMap fun i=>match l[i]? with
 |some o=>some (tD ord o)
 |none=>none
def wq(ord:qG)(l:qB):Bool:=
 Nat.beq ord.length l.length &&
 (List.range l.length).all (fun k=>(match ord[k]? with|some i=>Nat.blt i l.length&&Nat.beq (jt ord i) k|none=>false)&&Nat.blt (jt ord k) l.length&&(match ord[jt ord k]? with|some i=>Nat.beq i k|none=>false)) &&
 l.all (fun o=>(preds o).all (fun p=>Nat.blt p l.length)&&(match o.guard with|some (j,_)=>Nat.blt j l.length|none=>true))
def eU(q p:Nat)(l:qB):qB:=match l[q]? with
 |some o=>l.set q {o with after:=o.after.push {on:=p,ground:=.data} }
 |none=>l
def T.beq{I:Type}(j:I->I->Bool):T I->T I->Bool
 | .e,.e=>true
 | .n v l r,.n Z O Y=>(match v,Z with|some a,some b=>j a b|none,none=>true |_,_=>false)&&T.beq j l O&&T.beq j r Y
 |_,_=>false
def zH(ops:qB)(Y C:aq)(U z:Hp):Bool:=
 ops.all (fun o=>match o.dst with|some d=>AV.beq (Y.at d) (C.at d)|none=>true)&&Nat.beq U.next z.next&&T.beq HB.beq U.t z.t
def uT(ops:qB):Res->Res->Res
 | .done .normal E1 H1,.done .normal C z=>match zH ops E1 C H1 z with
   |true=>.done .normal E1 H1
   |false=>.aY
 |_,_=>.aY
def jW(ih:zd4->Res)(f N:Nat)(E:aq)(H:Hp):zf4->qB->Res
 | .text,ops=>jV P cfg ih f N ops E H
 | .cn ord,ops=>match wq ord ops with
   |true=>jV P cfg ih f N (fo ord ops) E H
   |false=>.aY
 | .split p q a b,ops=>match Nat.beq p q with
   |true=>.aY
   |false=>uT ops (jW ih f N E H a (eU q p ops)) (jW ih f N E H b (eU p q ops))
def lc(U:aq->Hp->Res)(H:Hp):Option aq->Res
 |some E=>U E H
 |none=>.aY
def kL(ih:zd4->Res)(f N:Nat)(m:qB)(ops:qB):aq->Hp->Res:=
 List.rec (motive:=fun _=>aq->Hp->Res) (fun E H=>.done .normal E H)
  (fun o _ U E H=>match jT m E o with
    |true=>match eF P cfg ih f E H o.op with
     | .val v H=>lc U H (fN N E o.dst v)
     |_=>.aY
    |false=>lc U H (fN N E o.dst dH)) ops
def zI:Nat->aq
 |0=>.e
 |d+1=>.n (some dH) (zI d) (zI d)
def wr(N:Nat):aq:=zI (Nat.log2 N+1)
def bm:Nat->qu->aq->aq
 |_,[],E=>E
 |i,v::vs,E=>bm (i+1) vs (T.set E i (some v))
def cR(E:aq)(H:Hp):ResultVar->qE
 | .tmp t=>some (E.at t)
 | .cell a t=>gX P H t (E.at a)
def cF(E:aq)(H:Hp):List ResultVar->Option qu
 |[]=>some []
 |r::rs=>match cR P E H r,cF E H rs with
  |some v,some vs=>some (v::vs)
  |_,_=>none
def aA:qu->AV
 |[v]=>v
 |vs=>.a6 vs
def xP(rs:List ResultVar)(E:aq)(H:Hp):Res:=
 match cF P E H rs with
 |some vs=>.val (aA vs) H
 |none=>.aY
def pL(ih:zd4->Res)(f:FuncId)(V:qu)(H:Hp):Res:=
 match P.funcs[f]? with
 |some Z=>match Z.body with
  |some c=>match ih (.aS f (max Z.ntmps V.length) c (bm 0 V (wr (max Z.ntmps V.length))) H)with
   | .done .normal E H=>xP P Z.results.toList E H
   | .done .ret E H=>xP P Z.results.toList E H
   |_=>.aY
  |none=>.aY
 |none=>.aY
def pM(ih:zd4->Res)(f N:Nat)(b:Code):Res->Res
 | .done .normal E H=>ih (.aS f N b E H)
 |r=>r
def oK(id:Nat):Res->Res
 | .done (.exit C) E H=>match Nat.beq C id with
   |true=>.done .normal E H
   |false=>.done (.exit C) E H
 |r=>r
def wt(ih:zd4->Res)(f N:Nat)(x:Operand)(a b:Code)(E:aq)(H:Hp):Res:=
 match aT E x with
 |some (.bool true)=>ih (.aS f N a E H)
 |some (.bool false)=>ih (.aS f N b E H)
 |_=>.aY
def jI(z:Nat):Nat->qu->List qu
 |0,_=>[]
 |n+1,l=>l.take z::jI z n (l.drop z)
def iG(g:AV->Hp->Option (AV×Hp)):qu->Hp->Option (qu×Hp)
 |[],H=>some ([],H)
 |c::cs,H=>match g c H with
  |some (d,H)=>match iG g cs H with
   |some (Z,H)=>some (d::Z,H)
   |none=>none
  |none=>none
def fT:Nat->AV->Hp->Option (AV×Hp)
 |0,_,_=>none
 |n+1,v,H=>match v with
  | .sl r Y j z=>match H.get r with
    |some (.cells I Z C)=>match Nat.ble (Y+j*z) I.length&&Nat.ble Z I.length with
     |true=>match iG (fT n) ((I.drop Y).take (j*z)) (H.set r (.cells I (max Z (Y+j*z)) C))with
      |some (l,H)=>some (.az (jI z j l),H)
      |none=>none
     |false=>none
    |_=>none
  | .agg I=>match iG (fT n) I H with
    |some (V,H)=>some (.agg V,H)
    |none=>none
  | .ptr _ _=>none
  | .map _=>none
  |v=>some (v,H)
def zJ(ih:zd4->Res)(f:FuncId)(V:qu)(H:Hp):Option (qu×Hp)->Res
 |some (m,H')=>match cfg.call f m with
  |some r=>.val r H'
  |none=>pL P ih f V H
 |none=>pL P ih f V H
def xQ:Bool->Res->Res
 |true,.val v H=>iF (fT 100 v H)
 |_,r=>r
def pN(ih:zd4->Res)(f:FuncId)(V:qu)(H:Hp):Res:=match cfg.aG f with
 |true=>zJ P cfg ih f V H (iG (fT 100) V H)
 |false=>pL P ih f V H
def step(ih:zd4->Res):zd4->Res
 | .call f V H=>match cfg.call f V with
   |some r=>.val r H
   |none=>xQ (cfg.aB f) (pN P cfg ih f V H)
 | .aS f N c E H=>match c with
   | .skip=>.done .normal E H
   | .region id ops draw=>match draw with
     |false=>kL P cfg ih f N ops.toList ops.toList E H
     |true=>jW P cfg ih f N E H (cfg.ca f id) ops.toList
   | .seq a b=>pM ih f N b (ih (.aS f N a E H))
   | .cond x a b=>wt ih f N x a b E H
   | .block id a=>oK id (ih (.aS f N a E H))
   | .loop a=>pM ih f N (.loop a) (ih (.aS f N a E H))
   | .exit id=>.done (.exit id) E H
   | .ret=>.done .ret E H
   |_=>.aY
def dL(n:Nat):zd4->Res:=Nat.rec (motive:=fun _=>zd4->Res) (fun _=>.aY) (fun _ ih=>step P cfg ih) n
end
def bt:Hp:={next:=0,t:=.e}
def iceL(g:AV->qE):qu->Option qu
 |[]=>some []
 |c::cs=>match g c,iceL g cs with
  |some d,some Z=>some (d::Z)
  |_,_=>none
def uU(g:AV->qE):List qu->Option (List qu)
 |[]=>some []
 |c::cs=>match iceL g c,uU g cs with
  |some d,some Z=>some (d::Z)
  |_,_=>none
def iceV(H:Hp):Nat->AV->qE
 |0,_=>none
 |n+1,v=>match v with
  | .sl r Y j z=>match H.get r with
    |some (.cells I _ _)=>match iceL (iceV H n) ((I.drop Y).take (j*z))with
     |some l=>if l.length=j*z then some (.az (jI z j l))else none
     |none=>none
    |_=>none
  | .az V=>match uU (iceV H n) V with
    |some U=>some (.az U)
    |none=>none
  | .agg I=>match iceL (iceV H n) I with
    |some Z=>some (.agg Z)
    |none=>none
  | .a6 I=>match iceL (iceV H n) I with
    |some Z=>some (.a6 Z)
    |none=>none
  | .int k a=>some (.int k a)
  | .sx k e=>some (.sx k e)
  | .bool b=>some (.bool b)
  | .aj s=>some (.aj s)
  | .b0=>some .b0
  | .bD=>some .bD
  | .ch=>some .ch
  | .ag=>some .ag
  |_=>none
def CD(P:Program)(cfg:Cfg)(n m:Nat)(f:FuncId)(V:qu):qE:=
 match dL P cfg n (.call f V bt)with
 | .val v H=>iceV H m v
 |_=>none
def uV(m:Nat)(V:qu):Bool:=
 match iceL (iceV bt m) V with
 |some Z=>lX Z V
 |none=>false
def GI(P:Program)(cfg:Cfg)(n m:Nat)(f:FuncId)(V:qu)(r:AV):Bool:=
 match CD P cfg n m f V with
 |some q=>AV.beq q r
 |none=>false
def wu:List (FuncId×qu×AV)->FuncId->qu->qE
 |[],_,_=>none
 |p::l,f,args=>match Nat.beq p.1 f with
  |true=>match lX p.2.1 args with
   |true=>some p.2.2
   |false=>wu l f args
  |false=>wu l f args
end
end Go.Ab
