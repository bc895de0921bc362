/- Lemmas for the last file. -/
import GoSem.Step
set_option linter.all false
set_option maxHeartbeats 32000000
namespace Go.Ab
variable{W:Type}
abbrev qy:=List (Nat×Nat)
abbrev qv:=Array Oper
abbrev qt:=Option Nat
abbrev qp:=List Nat
abbrev qo:=Option Bool
abbrev qj:=List Oper
abbrev qi:=List UInt8
noncomputable section
open Go
inductive T (α:Type) where
 |e
 |n (v:Option α) (l r:T α)
def et(b:Bool)(x y:W):W:=Bool.rec y x b
def T.get(t:T W):Nat->Option W:=
 T.rec (motive:=fun _=>Nat->Option W) (fun _=>none)
  (fun v _ _ L M k=>et (Nat.beq k 0) v (et (Nat.beq (Nat.mod k 2) 1) (L (Nat.div k 2)) (M (Nat.sub (Nat.div k 2) 1)))) t
def kC(v:Option W)(f:Nat):T W->Nat->T W:=
 Nat.rec (motive:=fun _=>T W->Nat->T W) (fun t _=>t)
  (fun _ ih t k=>T.casesOn t
    (et (Nat.beq k 0) (.n v .e .e) (et (Nat.beq (Nat.mod k 2) 1) (.n none (ih .e (Nat.div k 2)) .e) (.n none .e (ih .e (Nat.sub (Nat.div k 2) 1)))))
    (fun u l r=>et (Nat.beq k 0) (.n v l r) (et (Nat.beq (Nat.mod k 2) 1) (.n u (ih l (Nat.div k 2)) r) (.n u l (ih r (Nat.sub (Nat.div k 2) 1)))))) f
def T.set(t:T W)(k:Nat)(v:Option W):T W:=kC v (k+1) t k
inductive Sx where
 |var (i:Nat)
 |lit (n:Int)
 |bJ (op:BinOp) (k:IntKind) (a b:Sx)
 |cB (k:IntKind) (a:Sx)
inductive AV where
 |int (k:IntKind) (n:Int)
 |sx (k:IntKind) (e:Sx)
 |bool (b:Bool)
 |ad (s:qi)
 |aY|aO|bh|ab
 |ptr (r:Nat) (off:Nat)
 |aN (cs:List AV)
 |sl (r off len z:Nat)
 |af (xs:List (List AV))
 |map (r:Nat)
 |bj (f:Nat) (cap:List AV)
 |agg (cs:List AV)
 |aC (vs:List AV)
abbrev qx:=List (AV×AV)
abbrev qu:=List (Nat×AV)
abbrev qk:=Option AV
abbrev qh:=List AV
inductive HB where
 |cells (cs:qh) (imm:Nat) (tip:Bool)
 |map (es:qx)
structure Hp where
 next:Nat
 t:T HB
def Hp.get(h:Hp)(r:Nat):Option HB:=h.t.get r
def Hp.set(h:Hp)(r:Nat)(b:HB):Hp:={next:=h.next,t:=h.t.set r (some b) }
def Hp.aG(h:Hp)(r:Nat):Hp:={next:=h.next,t:=h.t.set r none}
def Hp.alloc(h:Hp)(b:HB):Hp:={next:=h.next+1,t:=h.t.set h.next (some b) }
inductive zae where
 |text
 |b0 (ord:qp)
 |split (p q:Nat) (a b:zae)
structure Cfg where
 az:FuncId->Bool
 bC:BinOp->Sx->Sx->qo:=fun _ _ _=>none
 call:FuncId->qh->qk:=fun _ _=>none
 aB:FuncId->Bool:=fun _=>false
 bS:FuncId->Nat->zae:=fun _ _=>.text
 an:FuncId->Bool:=fun _=>false
abbrev ae:=T AV
def b5:AV:=.aC []
def ae.at(E:ae)(t:Nat):AV:=(T.get E t).getD b5
def ng:Value->qk
 | .int k n=>some (.int k n)
 | .bool b=>some (.bool b)
 | .string s=>some (.ad s.data.toList)
 | .pointer none=>some .aY
 | .slice none 0 0=>some .ab
 | .map none=>some .aO
 | .nilFunc=>some .bh
 |_=>none
def lU:Value->qk
 | .agg cs=>(cs.toList.mapM ng).map .agg
 |v=>ng v
def ay(E:ae):Operand->qk
 | .tmp t=>some (E.at t)
 | .const v=>lU v
 | .global _=>none
 | .func f=>some (.bj f [])
def cN(E:ae):List Operand->Option qh
 |[]=>some []
 |x::xs=>match ay E x,cN E xs with
  |some v,some vs=>some (v::vs)
  |_,_=>none
def AV.cells:AV->qh
 | .agg cs=>cs
 |v=>[v]
def AV.one:AV->Bool
 | .agg _|.aC _=>false
 |_=>true
section
variable (P:Program)
def aZ(t:TypeId):qt:=(P.info? t).map (·.size)
def bT(t:TypeId):qt:=(P.info? t).map (·.bytes)
def fN(t:TypeId):qk:=
 match P.info? t with
 |some {zero:=some z,.. }=>lU z
 |_=>none
def bM(t:TypeId):Option qh:=
 match fN P t with
 |some v=>some v.cells
 |none=>none
def bR(t:TypeId)(cs:qh)(off:Nat):qk:=
 match P.underlying t with
 |some (.struct _)|some (.array _ _)=>
  match aZ P t with
  |some s=>let l:=(cs.drop off).take s;if l.length=s then some (.agg l)else none
  |none=>none
 |some _=>cs[off]?
 |none=>none
def dq(H:Hp)(t:TypeId):AV->qk
 | .ptr r F=>match H.get r with
   |some (.cells cs _ _)=>bR P t cs F
   |_=>none
 | .aN cs=>bR P t cs 0
 |_=>none
def splice(cs:qh)(off:Nat)(O:qh):qh:=cs.take off++O++cs.drop (off+O.length)
def jg(H:Hp)(t:TypeId)(a v:AV):Option Hp:=
 match a with
 | .ptr r F=>match H.get r,aZ P t with
   |some (.cells cs C o),some s=>
    if v.cells.length=s/\C<=F/\F+s<=cs.length/\v.cells.all AV.one then some (H.set r (.cells (splice cs F v.cells) C o))else none
   |_,_=>none
 |_=>none
def jP(t:TypeId)(a:AV)(i:Nat):qk:=
 match P.underlying t with
 |some (.struct A)=>match A[i]? with
  |some f=>match aZ P f.type with
   |some (_+1)=>match a with
    | .ptr r F=>some (.ptr r (F+f.offset))
    | .aN cs=>some (.aN (cs.drop f.offset))
    |_=>none
   |_=>none
  |none=>none
 |_=>none
def kD(t:TypeId)(x:AV)(i:Nat):qk:=
 match P.underlying t,x with
 |some (.struct A),.agg cs=>match A[i]? with
  |some f=>bR P f.type cs f.offset
  |none=>none
 |_,_=>none
def HE(n:Int):qt:=match n with|.ofNat k=>some k |_=>none
def cV(t:TypeId)(x i:AV):qk:=
 match i with
 | .int _ (.ofNat k)=>match P.underlying t with
   |some (.slice e)=>match aZ P e with
    |some s=>match x with
     | .sl r F Z _=>if k<Z then some (.ptr r (F+k*s))else none
     | .af I=>match I[k]? with
       |some S=>if S.length=s then some (.aN S)else none
       |none=>none
     |_=>none
    |none=>none
   |some (.array n e)=>match aZ P e with
    |some s=>match x with
     | .ptr r F=>if k<n then some (.ptr r (F+k*s))else none
     |_=>none
    |none=>none
   |_=>none
 |_=>none
def iC(t:TypeId)(x i:AV):qk:=
 match i with
 | .int _ (.ofNat k)=>match P.underlying t,x with
   |some .string,.ad s=>match s[k]? with
    |some b=>some (.int .u8 b.toNat)
    |none=>none
   |some (.array n e),.agg cs=>if k<n then (match aZ P e with|some s=>bR P e cs (k*s)|none=>none)else none
   |_,_=>none
 |_=>none
def cX(d:Nat):qk->qt
 |none=>some d
 |some (.int _ (.ofNat k))=>some k
 |some _=>none
def ef(t:TypeId)(x:AV)(U I:qk):qk:=
 match P.underlying t,x with
 |some .string,.ad s=>
  match cX 0 U,cX s.length I with
  |some l,some h=>if l<=h/\h<=s.length then some (.ad ((s.drop l).take (h-l)))else none
  |_,_=>none
 |some (.slice e),x=>match aZ P e with
  |some z=>match x with
   | .sl r Z F V=>match cX 0 U,cX F I with
     |some l,some h=>if l<=h/\h<=F/\V=z then (if l=h then some (.af [])else some (.sl r (Z+l*z) (h-l) z))else none
     |_,_=>none
   | .af Y=>match cX 0 U,cX Y.length I with
     |some l,some h=>if l<=h/\h<=Y.length then (match (Y.drop l).take (h-l)with
      |[]=>some (.af [])
      |row::rows=>if row.length=z then some (.af (row::rows))else none)else none
     |_,_=>none
   | .ab=>match cX 0 U,cX 0 I with
     |some 0,some 0=>some .ab
     |_,_=>none
   |_=>none
  |none=>none
 |_,_=>none
def gD(H:Hp)(t:TypeId)(x:AV)(U I:qk):qk:=
 match x with
 | .ptr r F=>match P.underlying t,H.get r with
   |some (.array n e),some (.cells cs _ _)=>match aZ P e,cX 0 U,cX n I with
    |some z,some l,some h=>if l<=h/\h<=n/\F+n*z<=cs.length then (if l=h then some (.af [])else some (.sl r (F+l*z) (h-l) z))else none
    |_,_,_=>none
   |_,_=>none
 |x=>ef P t x U I
def iD(A:Nat->Option (Nat×Nat))(cells:qh):qu->Option qh
 |[]=>some cells
 |(i,v)::rest=>match A i with
  |none=>none
  |some (F,Y)=>if v.cells.length≠Y\/F+v.cells.length > cells.length then none else iD A (splice cells F v.cells) rest
def eL(E:ae):List (Nat×Operand)->Option qu
 |[]=>some []
 |(i,x)::rest=>match ay E x,eL E rest with
  |some v,some vs=>some ((i,v)::vs)
  |_,_=>none
def u4(A:List Field):Option qy:=A.mapM fun f=>(P.info? f.type).map fun i=>(f.offset,i.size)
def dA(t:TypeId)(O:qu):qk:=
 match bM P t,P.underlying t with
 |some z,some (.struct A)=>match u4 P A.toList with
  |some Z=>match iD (fun i=>Z[i]?) z O with
   |some cs=>some (.agg cs)
   |none=>none
  |none=>none
 |some z,some (.array _ e)=>match aZ P e with
  |some s=>match iD (fun i=>some (i*s,s)) z O with
   |some cs=>some (.agg cs)
   |none=>none
  |none=>none
 |_,_=>none
def eY(z:qh):Nat->qh
 |0=>[]
 |n+1=>z++eY z n
def eu(H:Hp)(t:TypeId)(len:Nat)(O:qu):Option (AV×Hp):=
 match P.underlying t with
 |some (.slice e)=>match aZ P e,bM P e with
  |some s,some z=>if len*s<=16777216/\z.length=s then (match iD (fun i=>some (i*s,s)) (eY z len) O with
   |some cs=>some (.sl H.next 0 len s,H.alloc (.cells cs 0 true))
   |none=>none)else none
  |_,_=>none
 |_=>none
def cm:Nat:=70368744177664   -- 2^46
def hS(H:Hp)(s:Nat):AV->Option (Nat×qh)
 | .sl r Z F _=>match H.get r with
   |some (.cells cs _ _)=>let l:=(cs.drop Z).take (F*s);if l.length=F*s then some (F,l)else none
   |_=>none
 | .af I=>if I.all (fun S=>S.length == s)then some (I.length,I.flatten)else none
 | .ab=>some (0,[])
 | .ad b=>if s=1 then some (b.length,b.map fun x=>.int .u8 x.toNat)else none
 |_=>none
def jQ(keep:Bool)(H:Hp)(s b:Nat)(J:AV)(n:Nat)(O:qh):Option (AV×Hp):=
 match J with
 | .ab=>if n*b<=cm/\n<=cm then some (.sl H.next 0 n s,H.alloc (.cells O 0 true))else none
 | .sl r Z F z=>match H.get r with
   |some (.cells cs C true)=>
    if (F+n)*b<=cm/\F+n<=cm/\Z+F*s=cs.length/\z=s/\C<=cs.length then
     (if keep then some (.sl H.next 0 (F+n) s,(H.set r (.cells cs cs.length false)).alloc (.cells (cs.drop Z++O) (F*s) true))
      else some (.sl H.next 0 (F+n) s,(H.aG r).alloc (.cells (cs.drop Z++O) (C-Z) true)))
    else none
   |_=>none
 |_=>none
def fO(keep:Bool)(H:Hp)(s:Nat):AV->Hp
 | .sl r F Z _=>match H.get r with
   |some (.cells cs C true)=>match !keep&&Nat.blt (F+Z*s) cs.length&&Nat.ble C (F+Z*s)with
    |true=>H.set r (.cells (cs.take (F+Z*s)) C true)
    |false=>H
   |_=>H
 |_=>H
def gE(t:TypeId):Bool:=
 match P.underlying t with
 |some (.slice _)|some .string=>true
 |_=>false
def u5(keep:Bool)(H:Hp)(s b:Nat)(z:qh)(u:TypeId)(J x:AV):Option (AV×Hp):=
 match P.underlying u,x with
 |some (.int _),.int _ (.ofNat m)=>
  if m*b<=cm/\m<=cm/\z.length=s/\z.all AV.one=true then
   (match m with
   |0=>(match J with
    | .sl ..|.af _|.ab=>some (J,H)
    |_=>none)
   |m+1=>jQ keep (fO keep H s J) s b J (m+1) (eY z (m+1)))
  else none
 |_,_=>none
def dh(keep:Bool)(H:Hp)(t u:TypeId)(J x:AV):Option (AV×Hp):=
 match P.underlying t with
 |some (.slice e)=>match aZ P e,bT P e,bM P e with
  |some s,some b,some z=>match gE P u,hS H s x with
   |true,some (0,_)=>match J with
    | .sl ..|.af _|.ab=>some (J,H)
    |_=>none
   |true,some (n,O)=>if O.all AV.one/\z.length=s then jQ keep (fO keep H s J) s b J n O else none
   |_,_=>u5 P keep H s b z u J x
  |_,_,_=>none
 |_=>none
def gj(M:TypeDesc)(x y:AV):qo:=
 match M with
 | .int _=>match x,y with
   | .int k a,.int k' b=>if k=k' then some (a == b)else none
   |_,_=>none
 | .string=>match x,y with
   | .ad a,.ad b=>some (a == b)
   |_,_=>none
 | .bool=>match x,y with
   | .bool a,.bool b=>some (a == b)
   |_,_=>none
 |_=>none
def fP(t:TypeId):Option TypeDesc:=
 match P.underlying t with
 |some (.int k)=>some (.int k)
 |some .string=>some .string
 |some .bool=>some .bool
 |_=>none
def cr(M:TypeDesc)(k:AV):qx->Nat->Option (Option (Nat×AV))
 |[],_=>some none
 |(k',v)::es,i=>match gj M k k' with
  |some true=>some (some (i,v))
  |some false=>cr M k es (i+1)
  |none=>none
def jR(H:Hp):AV->Option qx
 | .aO=>some []
 | .map r=>match H.get r with
   |some (.map S)=>some S
   |_=>none
 |_=>none
def nh(ok:Bool)(v:AV)(O:Bool):AV:=match ok with
 |true=>.aC [v,.bool O]
 |false=>v
def di(H:Hp)(t:TypeId)(m k:AV)(ok:Bool):qk:=
 match P.underlying t with
 |some (.map W e)=>match jR H m,fP P W with
  |some S,some M=>match cr M k S 0 with
   |some (some (_,v))=>some (nh ok v true)
   |some none=>match fN P e with
    |some v=>some (nh ok v false)
    |none=>none
   |none=>none
  |_,_=>none
 |_=>none
def hT(H:Hp)(t:TypeId)(m k v:AV):Option Hp:=
 match P.underlying t with
 |some (.map W _)=>match m,fP P W with
  | .map r,some M=>match H.get r with
    |some (.map S)=>match cr M k S 0 with
     |some (some (i,_))=>some (H.set r (.map (S.set i (k,v))))
     |some none=>some (H.set r (.map (S++[(k,v)])))
     |none=>none
    |_=>none
  |_,_=>none
 |_=>none
def kE:qi->qi->Bool
 |_,[]=>false
 |[],_::_=>true
 |a::x,b::y=>a<b||(a == b&&kE x y)
def dI(op:BinOp)(k:IntKind)(a b:Int):qk:=
 match op with
 | .add=>some (.int k (k.wrap (a+b)))
 | .sub=>some (.int k (k.wrap (a-b)))
 | .mul=>some (.int k (k.wrap (a*b)))
 | .quo=>if b=0 then none else some (.int k (k.wrap (a.tdiv b)))
 | .rem=>if b=0 then none else some (.int k (a.tmod b))
 | .and=>some (.int k (k.wrap (BitVec.ofInt k.bits a &&& BitVec.ofInt k.bits b).toNat))
 | .or=>some (.int k (k.wrap (BitVec.ofInt k.bits a |||BitVec.ofInt k.bits b).toNat))
 | .xor=>some (.int k (k.wrap (BitVec.ofInt k.bits a^^^ BitVec.ofInt k.bits b).toNat))
 | .andNot=>some (.int k (k.wrap (BitVec.ofInt k.bits a &&& ~~~ BitVec.ofInt k.bits b).toNat))
 | .eql=>some (.bool (a == b))
 | .neq=>some (.bool (a != b))
 | .lss=>some (.bool (a<b))
 | .leq=>some (.bool (a<=b))
 | .gtr=>some (.bool (a > b))
 | .geq=>some (.bool (a>=b))
 |_=>none
def sw(op:BinOp)(k:IntKind)(a b:Int):Int:=
 match dI op k a b with
 |some (.int _ n)=>n
 |_=>0
def Sx.eval(ρ:Nat->Int):Sx->Int
 | .var i=>ρ i
 | .lit n=>n
 | .bJ W k a b=>sw W k (a.eval ρ) (b.eval ρ)
 | .cB k a=>k.wrap (a.eval ρ)
def pe:AV->Option (IntKind×Sx)
 | .int k n=>some (k,.lit n)
 | .sx k e=>some (k,e)
 |_=>none
def sy(D:BinOp->Sx->Sx->qo)(op:BinOp)(k:IntKind)(a b:Sx):qk:=
 match op with
 | .add=>some (.sx k (.bJ .add k a b))
 | .sub=>some (.sx k (.bJ .sub k a b))
 | .mul=>some (.sx k (.bJ .mul k a b))
 | .and=>some (.sx k (.bJ .and k a b))
 | .or=>some (.sx k (.bJ .or k a b))
 | .xor=>some (.sx k (.bJ .xor k a b))
 | .andNot=>some (.sx k (.bJ .andNot k a b))
 | .quo=>match D .eql b (.lit 0)with
   |some false=>some (.sx k (.bJ .quo k a b))
   |_=>none
 | .rem=>match D .eql b (.lit 0)with
   |some false=>some (.sx k (.bJ .rem k a b))
   |_=>none
 | .shl=>none
 | .shr=>none
 |op=>match D op a b with
  |some r=>some (.bool r)
  |none=>none
def ph(D:BinOp->Sx->Sx->qo)(op:BinOp)(x y:AV):qk:=
 match pe x,pe y with
 |some (k,a),some (k',b)=>if k=k' then sy D op k a b else none
 |_,_=>none
def ni(op:BinOp)(a b:qi):qk:=
 match op with
 | .add=>if a.length+b.length<=cm then some (.ad (a++b))else none
 | .eql=>some (.bool (a == b))
 | .neq=>some (.bool !(a == b))
 | .lss=>some (.bool (kE a b))
 | .leq=>some (.bool (kE a b||a == b))
 | .gtr=>some (.bool !(kE a b||a == b))
 | .geq=>some (.bool !(kE a b))
 |_=>none
def pi(t:TypeId)(x y:AV):qo:=
 match P.underlying t with
 |some .bool=>match x,y with
  | .bool a,.bool b=>some (a == b)
  |_,_=>none
 |some (.pointer _)=>match x,y with
  | .aY,.aY=>some true
  | .ptr _ _,.aY|.aY,.ptr _ _|.aN _,.aY|.aY,.aN _=>some false
  |_,_=>none
 |some (.map _ _)=>match x,y with
  | .aO,.aO=>some true
  | .map _,.aO|.aO,.map _=>some false
  |_,_=>none
 |some (.func _ _ _)=>match x,y with
  | .bh,.bh=>some true
  | .bj _ _,.bh|.bh,.bj _ _=>some false
  |_,_=>none
 |some (.slice _)=>match x,y with
  | .ab,.ab=>some true
  | .sl _ _ _ _,.ab|.ab,.sl _ _ _ _|.af (_::_),.ab|.ab,.af (_::_)=>some false
  |_,_=>none
 |_=>none
def sA(t:TypeId)(x y:AV):qo:=
 match x,y with
 | .int k a,.int k' b=>match P.underlying t with
   |some (.int _)=>if k=k' then some (a == b)else none
   |_=>none
 | .ad a,.ad b=>match P.underlying t with
   |some .string=>some (a == b)
   |_=>none
 |x,y=>pi P t x y
def lV(xs Z:qh):List Field->qo
 |[]=>some true
 |f::fs=>match f.name == "_" with
  |true=>lV xs Z fs
  |false=>match bR P f.type xs f.offset,bR P f.type Z f.offset with
   |some a,some b=>match sA P f.type a b with
    |some true=>lV xs Z fs
    |some false=>some false
    |none=>none
   |_,_=>none
def pj(t:TypeId)(xs Z:qh):qo:=
 match P.underlying t with
 |some (.struct A)=>match P.stoodInHeld t||P.eqGuardType P.depth t with
  |true=>none
  |false=>lV P xs Z A.toList
 |_=>none
def kF(t:TypeId)(x y:AV):qo:=
 match x,y with
 | .agg I,.agg Z=>pj P t I Z
 |x,y=>pi P t x y
def jS(op:BinOp)(k:IntKind)(a b:Int):qk:=
 match b with
 | .ofNat m=>match op with
   | .shl=>some (.int k (k.wrap (a*2^ min m k.bits)))
   | .shr=>some (.int k (a.fdiv (2^ min m k.bits)))
   |_=>none
 |_=>none
def jT(op:BinOp)(k C:IntKind)(a b:Int):qk:=
 match op with
 | .shl=>jS .shl k a b
 | .shr=>jS .shr k a b
 |op=>if k=C then dI op k a b else none
def sB(op:BinOp)(t:TypeId)(x y:AV):qk:=
 match op with
 | .eql=>match kF P t x y with
   |some b=>some (.bool b)
   |none=>none
 | .neq=>match kF P t x y with
   |some b=>some (.bool !b)
   |none=>none
 |_=>none
def ct(D:BinOp->Sx->Sx->qo)(op:BinOp)(t:TypeId)(x y:AV):qk:=
 match x,y with
 | .int k a,.int k' b=>jT op k k' a b
 | .ad a,.ad b=>ni op a b
 | .sx k a,y=>ph D op (.sx k a) y
 | .int k a,.sx k' b=>ph D op (.int k a) (.sx k' b)
 |x,y=>sB P op t x y
def jh(op:UnOp)(x:AV):qk:=
 match op,x with
 | .neg,.sx k e=>some (.sx k (.bJ .sub k (.lit 0) e))
 | .xor,.sx k e=>some (.sx k (.bJ .xor k (.lit (if k.signed then -1 else k.max)) e))
 | .neg,.int k n=>dI .sub k 0 n
 | .xor,.int k n=>dI .xor k (if k.signed then -1 else k.max) n
 | .not,.bool b=>some (.bool !b)
 |_,_=>none
def nj:qh->Option qi
 |[]=>some []
 | .int .u8 n::cs=>match nj cs with
   |some bs=>some (UInt8.ofNat n.toNat::bs)
   |none=>none
 |_=>none
def gk(H:Hp)(m S:TypeId)(x:AV):qk:=
 match P.underlying m,P.underlying S with
 |some (.slice e),some .string=>match P.underlying e with
  |some (.int .u8)=>match hS H 1 x with
   |some (_,cs)=>match nj cs with
    |some bs=>match x with
     | .sl _ _ _ _|.ab=>some (.ad bs)
     |_=>none
    |none=>none
   |none=>none
  |_=>none
 |some _,some (.int k)=>match x with
  | .int _ n=>some (.int k (k.wrap n))
  | .sx _ e=>some (.sx k (.cB k e))
  |_=>none
 |some .string,some .string=>match x with
  | .ad s=>some (.ad s)
  |_=>none
 |_,_=>none
def iE(H:Hp)(t:TypeId)(l c:AV):Option (AV×Hp):=
 match P.underlying t,l,c with
 |some (.slice e),.int _ (.ofNat l),.int _ (.ofNat c)=>match aZ P e,bT P e,bM P e with
  |some s,some b,some z=>if l<=c/\c*b<=cm/\c<=cm/\z.length=s then some (.sl H.next 0 l s,H.alloc (.cells (eY z l) 0 true))else none
  |_,_,_=>none
 |_,_,_=>none
def extract(x:AV)(i:Nat):qk:=
 match x with
 | .aC vs=>vs[i]?
 |_=>none
def mm(O:Bool):AV->AV->qk
 | .int k x,.int _ y=>some (.int k (if (if O then decide (y > x)else decide (y<x))then y else x))
 |_,_=>none
def gF(O:Bool)(x:AV):qh->qk
 |[]=>some x
 |y::ys=>match mm O x y with
  |some z=>gF O z ys
  |none=>none
def dr(H:Hp)(t:TypeId)(x:AV):qk:=
 match P.underlying t with
 |some .string=>match x with
  | .ad s=>some (.int .i64 s.length)
  |_=>none
 |some (.slice _)=>match x with
  | .sl _ _ n _=>some (.int .i64 n)
  | .af I=>some (.int .i64 I.length)
  | .ab=>some (.int .i64 0)
  |_=>none
 |some (.array n _)=>some (.int .i64 n)
 |some (.map _ _)=>match jR H x with
  |some S=>some (.int .i64 S.length)
  |none=>none
 |_=>none
def fQ(keep:Bool)(H:Hp)(b:Builtin)(ts:List TypeId)(o:qh):Option (AV×Hp):=
 match b with
 | .append=>match ts,o with
   |[t,u],[s,x]=>dh P keep H t u s x
   |_,_=>none
 | .len=>match ts,o with
   |[t],[x]=>match dr P H t x with
    |some v=>some (v,H)
    |none=>none
   |_,_=>none
 | .max=>match o with
   |x::xs=>match gF true x xs with
    |some v=>some (v,H)
    |none=>none
   |[]=>none
 | .min=>match o with
   |x::xs=>match gF false x xs with
    |some v=>some (v,H)
    |none=>none
   |[]=>none
 |_=>none
def ret(H:Hp):qk->Option (AV×Hp)
 |some v=>some (v,H)
 |none=>none
def pm(E:ae)(H:Hp)(c a b:Operand):Option (AV×Hp):=
 match ay E c with
 |some (.bool true)=>ret H (ay E a)
 |some (.bool false)=>ret H (ay E b)
 |_=>none
def nk(H:Hp)(t:TypeId):Option (AV×Hp):=
 match bM P t with
 |some z=>some (.ptr H.next 0,H.alloc (.cells z 0 true))
 |none=>none
def nl(E:ae)(H:Hp)(x:Operand):Option (AV×Hp):=
 match ay E x with
 |some v=>some (.ptr H.next 0,H.alloc (.cells v.cells 0 true))
 |none=>none
def pn(E:ae)(H:Hp)(t:TypeId)(O:Array (Nat×Operand)):Option (AV×Hp):=
 match eL E O.toList with
 |some W=>ret H (dA P t W)
 |none=>none
def np(E:ae)(H:Hp)(t:TypeId)(len:Nat)(O:Array (Nat×Operand)):Option (AV×Hp):=
 match eL E O.toList with
 |some W=>eu P H t len W
 |none=>none
def nq(E:ae)(H:Hp)(t:TypeId)(a:Operand):Option (AV×Hp):=
 match ay E a with
 |some v=>ret H (dq P H t v)
 |none=>none
def po(E:ae)(H:Hp)(t:TypeId)(a x:Operand):Option (AV×Hp):=
 match ay E a,ay E x with
 |some a,some x=>match jg P H t a x with
  |some H=>some (b5,H)
  |none=>none
 |_,_=>none
def pp(E:ae)(H:Hp)(x:Operand):Option (AV×Hp):=
 match ay E x with
 |some (.ptr r o)=>some (.ptr r o,H)
 |some (.aN cs)=>some (.aN cs,H)
 |_=>none
def pq(D:BinOp->Sx->Sx->qo)(E:ae)(H:Hp)(op:BinOp)(t:TypeId)(x y:Operand):Option (AV×Hp):=
 match ay E x,ay E y with
 |some x,some y=>ret H (ct P D op t x y)
 |_,_=>none
def pr(E:ae)(H:Hp)(op:UnOp)(x:Operand):Option (AV×Hp):=
 match ay E x with
 |some x=>ret H (jh op x)
 |none=>none
def nr(E:ae)(H:Hp)(s d:TypeId)(x:Operand):Option (AV×Hp):=
 match ay E x with
 |some x=>ret H (gk P H s d x)
 |none=>none
def pu(E:ae)(H:Hp)(m:Fn)(first o:Array Operand):Option (AV×Hp):=
 match m,first.toList,cN E o.toList with
 | .func f,[],some vs=>some (.bj f vs,H)
 |_,_,_=>none
def ns(H:Hp)(r:Option Operand):Option (AV×Hp):=
 match r with
 |none=>some (.map H.next,H.alloc (.map []))
 |some _=>none
def nt(E:ae)(H:Hp)(t:TypeId)(l c:Operand):Option (AV×Hp):=
 match ay E l,ay E c with
 |some l,some c=>iE P H t l c
 |_,_=>none
def ev(E:ae):Option Operand->Option qk
 |none=>some none
 |some x=>match ay E x with
  |some v=>some (some v)
  |none=>none
def nw(E:ae)(H:Hp)(t:TypeId)(x:Operand)(U I O:Option Operand):Option (AV×Hp):=
 match O,ay E x,ev E U,ev E I with
 |none,some x,some l,some h=>ret H (gD P H t x l h)
 |_,_,_,_=>none
def pw(E:ae)(H:Hp)(t:TypeId)(x:Operand)(f:Nat):Option (AV×Hp):=
 match ay E x with
 |some x=>ret H (jP P t x f)
 |none=>none
def px(E:ae)(H:Hp)(t:TypeId)(x:Operand)(f:Nat):Option (AV×Hp):=
 match ay E x with
 |some x=>ret H (kD P t x f)
 |none=>none
def py(E:ae)(H:Hp)(t:TypeId)(x i:Operand):Option (AV×Hp):=
 match ay E x,ay E i with
 |some x,some i=>ret H (cV P t x i)
 |_,_=>none
def pz(E:ae)(H:Hp)(t:TypeId)(x i:Operand):Option (AV×Hp):=
 match ay E x,ay E i with
 |some x,some i=>ret H (iC P t x i)
 |_,_=>none
def ny(E:ae)(H:Hp)(t:TypeId)(m k:Operand)(ok:Bool):Option (AV×Hp):=
 match ay E m,ay E k with
 |some m,some k=>ret H (di P H t m k ok)
 |_,_=>none
def pA(E:ae)(H:Hp)(t:TypeId)(m k v:Operand):Option (AV×Hp):=
 match ay E m,ay E k,ay E v with
 |some m,some k,some v=>match hT P H t m k v with
  |some H=>some (b5,H)
  |none=>none
 |_,_,_=>none
def pB(E:ae)(H:Hp)(x:Operand)(i:Nat):Option (AV×Hp):=
 match ay E x with
 |some x=>ret H (extract x i)
 |none=>none
def bE(D:BinOp->Sx->Sx->qo)(E:ae)(H:Hp)(op:Op):Option (AV×Hp):=
 match op with
 | .move x=>ret H (ay E x)
 | .assign x=>ret H (ay E x)
 | .pick c a b=>pm E H c a b
 | .alloc t=>nk P H t
 | .box _ x=>nl E H x
 | .build t O=>pn P E H t O
 | .buildSlice t F O=>np P E H t F O
 | .load t a=>nq P E H t a
 | .store t a x=>po P E H t a x
 | .nilCheck x=>pp E H x
 | .binOp op t x y _=>pq P D E H op t x y
 | .unOp op _ x=>pr E H op x
 | .convert s d x=>nr P E H s d x
 | .makeFunc Z first o=>pu E H Z first o
 | .makeMap _ r=>ns H r
 | .makeSlice t l c=>nt P E H t l c
 | .slice t x lo I Y=>nw P E H t x lo I Y
 | .fieldAddr t x f=>pw P E H t x f
 | .field t x f=>px P E H t x f
 | .indexAddr t x i=>py P E H t x i
 | .index t x i=>pz P E H t x i
 | .lookup t m k ok=>ny P E H t m k ok
 | .mapUpdate t m k v=>pA P E H t m k v
 | .extract x i=>pB E H x i
 |_=>none
inductive zad where
 |aj (f:FuncId) (N:Nat) (c:Code) (E:ae) (H:Hp)
 |call (f:FuncId) (args:qh) (H:Hp)
inductive AX where
 |normal|exit (id:Nat)|ret
inductive Res where
 |done (x:AX) (E:ae) (H:Hp)
 |val (v:AV) (H:Hp)
 |aq
def cF(N:Nat)(E:ae)(S:Option Tmp)(v:AV):Option ae:=
 match S with
 |some d=>match Nat.blt d N with
  |true=>some (T.set E d (some v))
  |false=>none
 |none=>some E
def pC(ops:qj)(E:ae)(j:Nat):qo:=
 match (ops[j]?).bind (·.dst)with
 |some d=>match E.at d with|.bool b=>some b |_=>none
 |none=>none
def dJ(ops:qj)(E:ae)(o:Oper):Bool:=
 match o.guard with
 |none=>true
 |some (j,S)=>match pC ops E j with
  |some b=>b == S
  |none=>false
variable (cfg:Cfg)
def iF(ih:zad->Res)(f:FuncId)(E:ae)(H:Hp)(c:Call):Res:=
 match c.callee with
 | .value g=>match ay E g,cN E c.args.toList with
   |some (.bj k F),some vs=>ih (.call k (vs++F) H)
   |_,_=>.aq
 | .builtin b=>match cN E c.args.toList with
   |some vs=>match fQ P (cfg.az f) H b c.argTypes.toList vs with
    |some (v,H)=>.val v H
    |none=>.aq
   |none=>.aq
 |_=>.aq
def cO:Option (AV×Hp)->Res
 |some (v,H)=>.val v H
 |none=>.aq
def b6(ih:zad->Res)(f:FuncId)(E:ae)(H:Hp)(op:Op):Res:=
 match op with
 | .call c=>iF P cfg ih f E H c
 |op=>cO (bE P cfg.bC E H op)
def Sx.beq:Sx->Sx->Bool
 | .var i,.var j=>Nat.beq i j
 | .lit a,.lit b=>a == b
 | .bJ o k a b,.bJ L k' Z b'=>decide (o=L)&&decide (k=k')&&Sx.beq a Z&&Sx.beq b b'
 | .cB k a,.cB k' b=>decide (k=k')&&Sx.beq a b
 |_,_=>false
mutual
def AV.beq:AV->AV->Bool
 | .int k a,.int k' b=>decide (k=k')&&(a == b)
 | .sx k a,.sx k' b=>decide (k=k')&&Sx.beq a b
 | .bool a,.bool b=>a == b
 | .ad a,.ad b=>a == b
 | .aY,.aY|.aO,.aO|.bh,.bh|.ab,.ab=>true
 | .ptr r o,.ptr Z L=>Nat.beq r Z&&Nat.beq o L
 | .aN a,.aN b=>eZ a b
 | .sl r o l z,.sl Z L Y V=>Nat.beq r Z&&Nat.beq o L&&Nat.beq l Y&&Nat.beq z V
 | .af a,.af b=>kG a b
 | .map r,.map Z=>Nat.beq r Z
 | .bj f a,.bj U b=>Nat.beq f U&&eZ a b
 | .agg a,.agg b=>eZ a b
 | .aC a,.aC b=>eZ a b
 |_,_=>false
def eZ:qh->qh->Bool
 |[],[]=>true
 |a::x,b::y=>AV.beq a b&&eZ x y
 |_,_=>false
def kG:List qh->List qh->Bool
 |[],[]=>true
 |a::x,b::y=>eZ a b&&kG x y
 |_,_=>false
end
inductive Kind where
 |calm   -- looks at no memory
 |read
 |make
 |ck
def cS:Op->Kind
 | .load ..|.lookup ..|.convert ..|.slice ..=>.read
 | .alloc _|.box ..|.buildSlice ..|.makeMap ..|.makeSlice ..=>.make
 | .store ..|.mapUpdate ..=>.ck
 | .call c=>match c.callee with
   | .builtin .len|.builtin .max|.builtin .min=>.read
   |_=>.ck
 |_=>.calm
structure Rec where
 o:Oper
 did:Bool
 E:ae
 H:Hp
 val:AV
 H':Hp
inductive zah where
 |done (E:ae) (H:Hp) (rs:List Rec)
 |aq
def gG(r:Rec):zah->zah
 | .done E H rs=>.done E H (r::rs)
 | .aq=>.aq
def gH(Y:ae->Hp->zah)(H:Hp):Option ae->zah
 |some E=>Y E H
 |none=>.aq
def dK(ih:zad->Res)(f N:Nat)(Y:qj):qj->ae->Hp->zah
 |[],E,H=>.done E H []
 |o::rest,E,H=>match dJ Y E o with
  |true=>match b6 P cfg ih f E H o.op with
   | .val v H'=>gG ⟨o,true,E,H,v,H'⟩ (gH (dK ih f N Y rest) H' (cF N E o.dst v))
   |_=>.aq
  |false=>gG ⟨o,false,E,H,b5,H⟩ (gH (dK ih f N Y rest) H (cF N E o.dst b5))
def preds(o:Oper):qp:=(o.after.toList.filter (Region.binds .any)).map (·.on)
def lW:qp->qp->qp
 |acc,[]=>acc
 |acc,x::xs=>match acc.contains x with
  |true=>lW acc xs
  |false=>lW (x::acc) xs
def nz(l:qp):qp:=lW [] l
def dc:qj->List qp->List qp
 |[],acc=>acc
 |o::rest,acc=>dc rest (acc++[nz (preds o++(preds o).flatMap fun i=>acc.getD i [])])
def u6(o:Oper):qp:=o.dst.toList++o.op.operands.toList.filterMap fun|.tmp t=>some t |_=>none
def jU(Y:qj)(o:Oper):qp:=u6 o++(match o.guard with|some (j,_)=>((Y[j]?).bind (·.dst)).toList|none=>[])
def fR(o:Oper):Bool:=match cS o.op with|.ck=>true |_=>false
def jV(o:Oper):Bool:=match cS o.op with|.make=>true |_=>false
def clash(Y:qj)(p q:Oper):Bool:=
 (fR p&&(fR q||jV q)) ||
 (p.dst.toList.any fun d=>(jU Y q).contains d)||(q.dst.toList.any fun d=>(jU Y p).contains d)
def jW(Y:qj):Bool:=
 let A:=dc Y []
 (List.range Y.length).all fun j=>match Y[j]? with
   |none=>true
   |some q=>(preds q).all (·< j)&&(match q.guard with|some (g,_)=>(A.getD j []).contains g|none=>true) &&
    (List.range j).all fun i=>match Y[i]? with
      |none=>true
      |some p=>!clash Y p q||(A.getD j []).contains i
def dL(ops:qj):qp:=(List.range ops.length).filter fun i=>match ops[i]? with
 |some o=>fR o
 |none=>false
def a7(rs:List Rec)(H':Hp)(e:Nat):Hp:=match rs[e]? with
 |some r=>r.H
 |none=>H'
def HB.beq:HB->HB->Bool
 | .cells a i t,.cells b j u=>eZ a b&&Nat.beq i j&&(t == u)
 | .map a,.map b=>eZ (a.map (·.1)) (b.map (·.1))&&eZ (a.map (·.2)) (b.map (·.2))
 |_,_=>false
def zaQ(r:Rec)(H:Hp):Bool:=
 match cS r.o.op with
 | .read=>match b6 P cfg (fun _=>.aq) 0 r.E H r.o.op with
   | .val v _=>AV.beq v r.val
   |_=>false
 | .make=>match H.get r.H.next,r.H'.get r.H.next with
   |some b,some b'=>HB.beq b b'
   |_,_=>false
 |_=>true
def pD(A:List qp)(V:qp)(i m:Nat):Bool:=
 !(V.any (fun e=>(A.getD i []).contains e&&Nat.ble m e)||V.any (fun e=>(A.getD e []).contains i&&Nat.blt e m))
def iG(ops:qj):qy:=
 (List.range ops.length).flatMap fun i=>match ops[i]? with
   |some o=>match cS o.op with
    | .read|.make=>((dL ops++[ops.length]).filter (pD (dc ops []) (dL ops) i)).map fun m=>(i,m)
    |_=>[]
   |none=>[]
def kH(Y:qy)(rs:List Rec)(H':Hp):Bool:=
 rs.all (fun r=>Nat.ble r.H.next r.H'.next)&&Y.all fun p=>match rs[p.1]? with
  |some r=>!r.did||zaQ P cfg r (a7 rs H' p.2)
  |none=>true
def fS(ih:zad->Res)(f N:Nat)(ops:qj)(E:ae)(H:Hp):Res:=
 match jW ops with
 |true=>match dK P cfg ih f N ops ops E H with
  | .done E' H' rs=>match kH P cfg (iG ops) rs H' with
    |true=>.done .normal E' H'
    |false=>.aq
  | .aq=>.aq
 |false=>.aq
def dt:qp->Nat->Nat
 |[],_=>0
 |x::xs,i=>match Nat.beq x i with
  |true=>0
  |false=>dt xs i+1
def kI(S:qp)(o:Oper):Oper:=
 {o with after:=((o.after.toList.filter (Region.binds .any)).map fun e=>{e with on:=dt S e.on}).toArray,guard:=match o.guard with|some (j,b)=>some (dt S j,b)|none=>none}
def fy(S:qp)(l:qj):qj:=S.filterMap fun i=>match l[i]? with
 |some o=>some (kI S o)
 |none=>none
def sC(S:qp)(l:qj):Bool:=
 Nat.beq S.length l.length &&
 (List.range l.length).all (fun k=>(match S[k]? with|some i=>Nat.blt i l.length&&Nat.beq (dt S i) k|none=>false)&&Nat.blt (dt S k) l.length&&(match S[dt S k]? with|some i=>Nat.beq i k|none=>false)) &&
 l.all (fun o=>(preds o).all (fun p=>Nat.blt p l.length)&&(match o.guard with|some (j,_)=>Nat.blt j l.length|none=>true))
def dM(q p:Nat)(l:qj):qj:=match l[q]? with
 |some o=>l.set q {o with after:=o.after.push {on:=p,ground:=.data} }
 |none=>l
def T.beq{W:Type}(A:W->W->Bool):T W->T W->Bool
 | .e,.e=>true
 | .n v l r,.n o Y Z=>(match v,o with|some a,some b=>A a b|none,none=>true |_,_=>false)&&T.beq A l Y&&T.beq A r Z
 |_,_=>false
def sD(ops:qj)(Z I:ae)(C H2:Hp):Bool:=
 ops.all (fun o=>match o.dst with|some d=>AV.beq (Z.at d) (I.at d)|none=>true)&&Nat.beq C.next H2.next&&T.beq HB.beq C.t H2.t
def kJ(ops:qj):Res->Res->Res
 | .done .normal E1 H1,.done .normal I V=>match sD ops E1 I H1 V with
   |true=>.done .normal E1 H1
   |false=>.aq
 |_,_=>.aq
def ey(ih:zad->Res)(f N:Nat)(E:ae)(H:Hp):zae->qj->Res
 | .text,ops=>fS P cfg ih f N ops E H
 | .b0 ord,ops=>match sC ord ops with
   |true=>fS P cfg ih f N (fy ord ops) E H
   |false=>.aq
 | .split p q a b,ops=>match Nat.beq p q with
   |true=>.aq
   |false=>kJ ops (ey ih f N E H a (dM q p ops)) (ey ih f N E H b (dM p q ops))
def ez(Y:ae->Hp->Res)(H:Hp):Option ae->Res
 |some E=>Y E H
 |none=>.aq
def eg(ih:zad->Res)(f N:Nat)(Y:qj)(ops:qj):ae->Hp->Res:=
 List.rec (motive:=fun _=>ae->Hp->Res) (fun E H=>.done .normal E H)
  (fun o _ Z E H=>match dJ Y E o with
    |true=>match b6 P cfg ih f E H o.op with
     | .val v H=>ez Z H (cF N E o.dst v)
     |_=>.aq
    |false=>ez Z H (cF N E o.dst b5)) ops
def nA:Nat->ae
 |0=>.e
 |d+1=>.n (some b5) (nA d) (nA d)
def kK(N:Nat):ae:=nA (Nat.log2 N+1)
def ba:Nat->qh->ae->ae
 |_,[],E=>E
 |i,v::vs,E=>ba (i+1) vs (T.set E i (some v))
def cG(E:ae)(H:Hp):ResultVar->qk
 | .tmp t=>some (E.at t)
 | .cell a t=>dq P H t (E.at a)
def cu(E:ae)(H:Hp):List ResultVar->Option qh
 |[]=>some []
 |r::rs=>match cG P E H r,cu E H rs with
  |some v,some vs=>some (v::vs)
  |_,_=>none
def aM:qh->AV
 |[v]=>v
 |vs=>.aC vs
def lX(rs:List ResultVar)(E:ae)(H:Hp):Res:=
 match cu P E H rs with
 |some vs=>.val (aM vs) H
 |none=>.aq
def gI(ih:zad->Res)(f:FuncId)(o:qh)(H:Hp):Res:=
 match P.funcs[f]? with
 |some m=>match m.body with
  |some c=>match ih (.aj f (max m.ntmps o.length) c (ba 0 o (kK (max m.ntmps o.length))) H)with
   | .done .normal E H=>lX P m.results.toList E H
   | .done .ret E H=>lX P m.results.toList E H
   |_=>.aq
  |none=>.aq
 |none=>.aq
def gJ(ih:zad->Res)(f N:Nat)(b:Code):Res->Res
 | .done .normal E H=>ih (.aj f N b E H)
 |r=>r
def gl(id:Nat):Res->Res
 | .done (.exit Z) E H=>match Nat.beq Z id with
   |true=>.done .normal E H
   |false=>.done (.exit Z) E H
 |r=>r
def kL(ih:zad->Res)(f N:Nat)(x:Operand)(a b:Code)(E:ae)(H:Hp):Res:=
 match ay E x with
 |some (.bool true)=>ih (.aj f N a E H)
 |some (.bool false)=>ih (.aj f N b E H)
 |_=>.aq
def eM(z:Nat):Nat->qh->List qh
 |0,_=>[]
 |n+1,l=>l.take z::eM z n (l.drop z)
def hU(g:AV->Hp->Option (AV×Hp)):qh->Hp->Option (qh×Hp)
 |[],H=>some ([],H)
 |c::cs,H=>match g c H with
  |some (d,H)=>match hU g cs H with
   |some (V,H)=>some (d::V,H)
   |none=>none
  |none=>none
def fz:Nat->AV->Hp->Option (AV×Hp)
 |0,_,_=>none
 |n+1,v,H=>match v with
  | .sl r Z F z=>match H.get r with
    |some (.cells cs C o)=>match Nat.ble (Z+F*z) cs.length&&Nat.ble C cs.length with
     |true=>match hU (fz n) ((cs.drop Z).take (F*z)) (H.set r (.cells cs (max C (Z+F*z)) o))with
      |some (l,H)=>some (.af (eM z F l),H)
      |none=>none
     |false=>none
    |_=>none
  | .agg cs=>match hU (fz n) cs H with
    |some (V,H)=>some (.agg V,H)
    |none=>none
  | .ptr _ _=>none
  | .map _=>none
  |v=>some (v,H)
def u7:AV->Bool
 | .int _ _=>true
 | .bool _=>true
 | .ad _=>true
 |_=>false
def u9(r:AV)(H H':Hp):Hp:=match u7 r with
 |true=>H
 |false=>H'
def pE(ih:zad->Res)(f:FuncId)(o:qh)(H:Hp):Option (qh×Hp)->Res
 |some (Z,H')=>match cfg.call f Z with
  |some r=>.val r (u9 r H H')
  |none=>gI P ih f o H
 |none=>gI P ih f o H
def nB:Bool->Res->Res
 |true,.val v H=>cO (fz 100 v H)
 |_,r=>r
def hY(ih:zad->Res)(f:FuncId)(o:qh)(H:Hp):Res:=match cfg.aB f with
 |true=>pE P cfg ih f o H (hU (fz 100) o H)
 |false=>gI P ih f o H
def step(ih:zad->Res):zad->Res
 | .call f o H=>match cfg.call f o with
   |some r=>.val r H
   |none=>nB (cfg.an f) (hY P cfg ih f o H)
 | .aj f N c E H=>match c with
   | .skip=>.done .normal E H
   | .region id ops draw=>match draw with
     |false=>eg P cfg ih f N ops.toList ops.toList E H
     |true=>ey P cfg ih f N E H (cfg.bS f id) ops.toList
   | .seq a b=>gJ ih f N b (ih (.aj f N a E H))
   | .cond x a b=>kL ih f N x a b E H
   | .block id a=>gl id (ih (.aj f N a E H))
   | .loop a=>gJ ih f N (.loop a) (ih (.aj f N a E H))
   | .exit id=>.done (.exit id) E H
   | .ret=>.done .ret E H
   |_=>.aq
def bP(n:Nat):zad->Res:=Nat.rec (motive:=fun _=>zad->Res) (fun _=>.aq) (fun _ ih=>step P cfg ih) n
end
def bA:Hp:={next:=0,t:=.e}
def iceL(g:AV->qk):qh->Option qh
 |[]=>some []
 |c::cs=>match g c,iceL g cs with
  |some d,some V=>some (d::V)
  |_,_=>none
def jX(g:AV->qk):List qh->Option (List qh)
 |[]=>some []
 |c::cs=>match iceL g c,jX g cs with
  |some d,some V=>some (d::V)
  |_,_=>none
def iceV(H:Hp):Nat->AV->qk
 |0,_=>none
 |n+1,v=>match v with
  | .sl r Z F z=>match H.get r with
    |some (.cells cs _ _)=>match iceL (iceV H n) ((cs.drop Z).take (F*z))with
     |some l=>if l.length=F*z then some (.af (eM z F l))else none
     |none=>none
    |_=>none
  | .af I=>match jX (iceV H n) I with
    |some Y=>some (.af Y)
    |none=>none
  | .agg cs=>match iceL (iceV H n) cs with
    |some V=>some (.agg V)
    |none=>none
  | .aC cs=>match iceL (iceV H n) cs with
    |some V=>some (.aC V)
    |none=>none
  | .int k a=>some (.int k a)
  | .sx k e=>some (.sx k e)
  | .bool b=>some (.bool b)
  | .ad s=>some (.ad s)
  | .aY=>some .aY
  | .aO=>some .aO
  | .bh=>some .bh
  | .ab=>some .ab
  |_=>none
def pF(P:Program)(cfg:Cfg)(n m:Nat)(f:FuncId)(o:qh):qk:=
 match bP P cfg n (.call f o bA)with
 | .val v H=>iceV H m v
 |_=>none
def iH(m:Nat)(o:qh):Bool:=
 match iceL (iceV bA m) o with
 |some Z=>eZ Z o
 |none=>false
def sE(P:Program)(cfg:Cfg)(n m:Nat)(f:FuncId)(o:qh)(r:AV):Bool:=
 match pF P cfg n m f o with
 |some q=>AV.beq q r
 |none=>false
def ji:List (FuncId×qh×AV)->FuncId->qh->qk
 |[],_,_=>none
 |p::l,f,args=>match Nat.beq p.1 f with
  |true=>match eZ p.2.1 args with
   |true=>some p.2.2
   |false=>ji l f args
  |false=>ji l f args
end
end Go.Ab
