/- Lemmas for the last file. -/
import GoSem.Step
set_option linter.all false
set_option maxHeartbeats 32000000
namespace Go.Ab
variable{J:Type}
abbrev qM:=List (Nat×Nat)
abbrev qK:=Array Oper
abbrev qI:=Option Nat
abbrev qF:=Option Bool
abbrev qC:=List Nat
abbrev qx:=List Oper
abbrev qw:=List UInt8
noncomputable section
open Go
inductive T (α:Type) where
 |e
 |n (v:Option α) (l r:T α)
def lB(b:Bool)(x y:J):J:=Bool.rec y x b
def T.get(t:T J):Nat->Option J:=
 T.rec (motive:=fun _=>Nat->Option J) (fun _=>none)
  (fun v _ _ Y I k=>lB (Nat.beq k 0) v (lB (Nat.beq (Nat.mod k 2) 1) (Y (Nat.div k 2)) (I (Nat.sub (Nat.div k 2) 1)))) t
def uO(v:Option J)(f:Nat):T J->Nat->T J:=
 Nat.rec (motive:=fun _=>T J->Nat->T J) (fun t _=>t)
  (fun _ ih t k=>T.casesOn t
    (lB (Nat.beq k 0) (.n v .e .e) (lB (Nat.beq (Nat.mod k 2) 1) (.n none (ih .e (Nat.div k 2)) .e) (.n none .e (ih .e (Nat.sub (Nat.div k 2) 1)))))
    (fun u l r=>lB (Nat.beq k 0) (.n v l r) (lB (Nat.beq (Nat.mod k 2) 1) (.n u (ih l (Nat.div k 2)) r) (.n u l (ih r (Nat.sub (Nat.div k 2) 1)))))) f
def T.set(t:T J)(k:Nat)(v:Option J):T J:=uO v (k+1) t k
inductive Sx where
 |var (i:Nat)
 |lit (n:Int)
 |bZ (op:BinOp) (k:IntKind) (a b:Sx)
 |cN (k:IntKind) (a:Sx)
inductive AV where
 |int (k:IntKind) (n:Int)
 |sx (k:IntKind) (e:Sx)
 |bool (b:Bool)
 |ai (s:qw)
 |bl|a7|bu|ah
 |ptr (r:Nat) (off:Nat)
 |a8 (cs:List AV)
 |sl (r off len z:Nat)
 |ao (xs:List (List AV))
 |map (r:Nat)
 |bb (f:Nat) (cap:List AV)
 |agg (cs:List AV)
 |aS (vs:List AV)
abbrev qL:=List (AV×AV)
abbrev qJ:=List (Nat×AV)
abbrev qB:=Option AV
abbrev qs:=List AV
inductive HB where
 |cells (cs:qs) (imm:Nat) (tip:Bool)
 |map (es:qL)
structure Hp where
 next:Nat
 t:T HB
def Hp.get(h:Hp)(r:Nat):Option HB:=h.t.get r
def Hp.set(h:Hp)(r:Nat)(b:HB):Hp:={next:=h.next,t:=h.t.set r (some b) }
def Hp.aP(h:Hp)(r:Nat):Hp:={next:=h.next,t:=h.t.set r none}
def Hp.alloc(h:Hp)(b:HB):Hp:={next:=h.next+1,t:=h.t.set h.next (some b) }
inductive zd9 where
 |text
 |b1 (ord:qC)
 |split (p q:Nat) (a b:zd9)
structure Cfg where
 keep:FuncId->Bool
 b7:BinOp->Sx->Sx->qF:=fun _ _ _=>none
 call:FuncId->qs->qB:=fun _ _=>none
 aD:FuncId->Bool:=fun _=>false
 bF:FuncId->Nat->zd9:=fun _ _=>.text
 aq:FuncId->Bool:=fun _=>false
abbrev aB:=T AV
def ed:AV:=.aS []
def aB.at(E:aB)(t:Nat):AV:=(T.get E t).getD ed
def x9:Value->qB
 | .int k n=>some (.int k n)
 | .bool b=>some (.bool b)
 | .string s=>some (.ai s.data.toList)
 | .pointer none=>some .bl
 | .slice none 0 0=>some .ah
 | .map none=>some .a7
 | .nilFunc=>some .bu
 |_=>none
def wL:Value->qB
 | .agg Y=>(Y.toList.mapM x9).map .agg
 |v=>x9 v
def aV(E:aB):Operand->qB
 | .tmp t=>some (E.at t)
 | .const v=>wL v
 | .global _=>none
 | .func f=>some (.bb f [])
def iQ(E:aB):List Operand->Option qs
 |[]=>some []
 |x::xs=>match aV E x,iQ E xs with
  |some v,some vs=>some (v::vs)
  |_,_=>none
def AV.cells:AV->qs
 | .agg Y=>Y
 |v=>[v]
def AV.one:AV->Bool
 | .agg _|.aS _=>false
 |_=>true
section
variable (P:Program)
def bR(t:TypeId):qI:=(P.info? t).map (·.size)
def dk(t:TypeId):qI:=(P.info? t).map (·.bytes)
def uQ(t:TypeId):qB:=
 match P.info? t with
 |some {zero:=some z,.. }=>wL z
 |_=>none
def cP(t:TypeId):Option qs:=
 match uQ P t with
 |some v=>some v.cells
 |none=>none
def cU(t:TypeId)(cs:qs)(off:Nat):qB:=
 match P.underlying t with
 |some (.struct _)|some (.array _ _)=>
  match bR P t with
  |some s=>let l:=(cs.drop off).take s;if l.length=s then some (.agg l)else none
  |none=>none
 |some _=>cs[off]?
 |none=>none
def eY(H:Hp)(t:TypeId):AV->qB
 | .ptr r I=>match H.get r with
   |some (.cells Y _ _)=>cU P t Y I
   |_=>none
 | .a8 Y=>cU P t Y 0
 |_=>none
def splice(cs:qs)(off:Nat)(I:qs):qs:=cs.take off++I++cs.drop (off+I.length)
def mB(H:Hp)(t:TypeId)(a v:AV):Option Hp:=
 match a with
 | .ptr r I=>match H.get r,bR P t with
   |some (.cells Y L Z),some s=>
    if v.cells.length=s/\L<=I/\I+s<=Y.length/\v.cells.all AV.one then some (H.set r (.cells (splice Y I v.cells) L Z))else none
   |_,_=>none
 |_=>none
def tl(t:TypeId)(a:AV)(i:Nat):qB:=
 match P.underlying t with
 |some (.struct g)=>match g[i]? with
  |some f=>match bR P f.type with
   |some (_+1)=>match a with
    | .ptr r I=>some (.ptr r (I+f.offset))
    | .a8 Y=>some (.a8 (Y.drop f.offset))
    |_=>none
   |_=>none
  |none=>none
 |_=>none
def uR(t:TypeId)(x:AV)(i:Nat):qB:=
 match P.underlying t,x with
 |some (.struct g),.agg Y=>match g[i]? with
  |some f=>cU P f.type Y f.offset
  |none=>none
 |_,_=>none
def zfS(n:Int):qI:=match n with|.ofNat k=>some k |_=>none
def ey(t:TypeId)(x i:AV):qB:=
 match i with
 | .int _ (.ofNat k)=>match P.underlying t with
   |some (.slice e)=>match bR P e with
    |some s=>match x with
     | .sl r I o _=>if k<o then some (.ptr r (I+k*s))else none
     | .ao U=>match U[k]? with
       |some Y=>if Y.length=s then some (.a8 Y)else none
       |none=>none
     |_=>none
    |none=>none
   |some (.array n e)=>match bR P e with
    |some s=>match x with
     | .ptr r I=>if k<n then some (.ptr r (I+k*s))else none
     |_=>none
    |none=>none
   |_=>none
 |_=>none
def pI(t:TypeId)(x i:AV):qB:=
 match i with
 | .int _ (.ofNat k)=>match P.underlying t,x with
   |some .string,.ai s=>match s[k]? with
    |some b=>some (.int .u8 b.toNat)
    |none=>none
   |some (.array n e),.agg Y=>if k<n then (match bR P e with|some s=>cU P e Y (k*s)|none=>none)else none
   |_,_=>none
 |_=>none
def ig(d:Nat):qB->qI
 |none=>some d
 |some (.int _ (.ofNat k))=>some k
 |some _=>none
def jA(t:TypeId)(x:AV)(lo Z:qB):qB:=
 match P.underlying t,x with
 |some .string,.ai s=>
  match ig 0 lo,ig s.length Z with
  |some l,some h=>if l<=h/\h<=s.length then some (.ai ((s.drop l).take (h-l)))else none
  |_,_=>none
 |some (.slice e),x=>match bR P e with
  |some z=>match x with
   | .sl r I o J=>match ig 0 lo,ig o Z with
     |some l,some h=>if l<=h/\h<=o/\J=z then (if l=h then some (.ao [])else some (.sl r (I+l*z) (h-l) z))else none
     |_,_=>none
   | .ao U=>match ig 0 lo,ig U.length Z with
     |some l,some h=>if l<=h/\h<=U.length then (match (U.drop l).take (h-l)with
      |[]=>some (.ao [])
      |row::rows=>if row.length=z then some (.ao (row::rows))else none)else none
     |_,_=>none
   | .ah=>match ig 0 lo,ig 0 Z with
     |some 0,some 0=>some .ah
     |_,_=>none
   |_=>none
  |none=>none
 |_,_=>none
def oM(H:Hp)(t:TypeId)(x:AV)(lo Z:qB):qB:=
 match x with
 | .ptr r I=>match P.underlying t,H.get r with
   |some (.array n e),some (.cells Y _ _)=>match bR P e,ig 0 lo,ig n Z with
    |some z,some l,some h=>if l<=h/\h<=n/\I+n*z<=Y.length then (if l=h then some (.ao [])else some (.sl r (I+l*z) (h-l) z))else none
    |_,_,_=>none
   |_,_=>none
 |x=>jA P t x lo Z
def rr(J:Nat->Option (Nat×Nat))(cells:qs):qJ->Option qs
 |[]=>some cells
 |(i,v)::rest=>match J i with
  |none=>none
  |some (I,Z)=>if v.cells.length≠Z\/I+v.cells.length > cells.length then none else rr J (splice cells I v.cells) rest
def lC(E:aB):List (Nat×Operand)->Option qJ
 |[]=>some []
 |(i,x)::rest=>match aV E x,lC E rest with
  |some v,some vs=>some ((i,v)::vs)
  |_,_=>none
def I5(g:List Field):Option qM:=g.mapM fun f=>(P.info? f.type).map fun i=>(f.offset,i.size)
def dK(t:TypeId)(O:qJ):qB:=
 match cP P t,P.underlying t with
 |some z,some (.struct g)=>match I5 P g.toList with
  |some j=>match rr (fun i=>j[i]?) z O with
   |some Y=>some (.agg Y)
   |none=>none
  |none=>none
 |some z,some (.array _ e)=>match bR P e with
  |some s=>match rr (fun i=>some (i*s,s)) z O with
   |some Y=>some (.agg Y)
   |none=>none
  |none=>none
 |_,_=>none
def jB(z:qs):Nat->qs
 |0=>[]
 |n+1=>z++jB z n
def dW(H:Hp)(t:TypeId)(len:Nat)(O:qJ):Option (AV×Hp):=
 match P.underlying t with
 |some (.slice e)=>match bR P e,cP P e with
  |some s,some z=>if len*s<=16777216/\z.length=s then (match rr (fun i=>some (i*s,s)) (jB z len) O with
   |some Y=>some (.sl H.next 0 len s,H.alloc (.cells Y 0 true))
   |none=>none)else none
  |_,_=>none
 |_=>none
def dX:Nat:=70368744177664   -- 2^46
def fN(H:Hp)(s:Nat):AV->Option (Nat×qs)
 | .sl r I o _=>match H.get r with
   |some (.cells Z _ _)=>let l:=(Z.drop I).take (o*s);if l.length=o*s then some (o,l)else none
   |_=>none
 | .ao U=>if U.all (fun Y=>Y.length == s)then some (U.length,U.flatten)else none
 | .ah=>some (0,[])
 | .ai b=>if s=1 then some (b.length,b.map fun x=>.int .u8 x.toNat)else none
 |_=>none
def mW(keep:Bool)(H:Hp)(s b:Nat)(j:AV)(n:Nat)(Z:qs):Option (AV×Hp):=
 match j with
 | .ah=>if n*b<=dX/\n<=dX then some (.sl H.next 0 n s,H.alloc (.cells Z 0 true))else none
 | .sl r I o z=>match H.get r with
   |some (.cells Y L true)=>
    if (o+n)*b<=dX/\o+n<=dX/\I+o*s=Y.length/\z=s/\L<=Y.length then
     (if keep then some (.sl H.next 0 (o+n) s,(H.set r (.cells Y Y.length false)).alloc (.cells (Y.drop I++Z) (o*s) true))
      else some (.sl H.next 0 (o+n) s,(H.aP r).alloc (.cells (Y.drop I++Z) (L-I) true)))
    else none
   |_=>none
 |_=>none
def ii(keep:Bool)(H:Hp)(s:Nat):AV->Hp
 | .sl r I o _=>match H.get r with
   |some (.cells Y L true)=>match !keep&&Nat.blt (I+o*s) Y.length&&Nat.ble L (I+o*s)with
    |true=>H.set r (.cells (Y.take (I+o*s)) L true)
    |false=>H
   |_=>H
 |_=>H
def iR(t:TypeId):Bool:=
 match P.underlying t with
 |some (.slice _)|some .string=>true
 |_=>false
def I6(keep:Bool)(H:Hp)(s b:Nat)(z:qs)(u:TypeId)(j x:AV):Option (AV×Hp):=
 match P.underlying u,x with
 |some (.int _),.int _ (.ofNat m)=>
  if m*b<=dX/\m<=dX/\z.length=s/\z.all AV.one=true then
   (match m with
   |0=>(match j with
    | .sl ..|.ao _|.ah=>some (j,H)
    |_=>none)
   |m+1=>mW keep (ii keep H s j) s b j (m+1) (jB z (m+1)))
  else none
 |_,_=>none
def dm(keep:Bool)(H:Hp)(t u:TypeId)(j x:AV):Option (AV×Hp):=
 match P.underlying t with
 |some (.slice e)=>match bR P e,dk P e,cP P e with
  |some s,some b,some z=>match iR P u,fN H s x with
   |true,some (0,_)=>match j with
    | .sl ..|.ao _|.ah=>some (j,H)
    |_=>none
   |true,some (n,I)=>if I.all AV.one/\z.length=s then mW keep (ii keep H s j) s b j n I else none
   |_,_=>I6 P keep H s b z u j x
  |_,_,_=>none
 |_=>none
def oN(U:TypeDesc)(x y:AV):qF:=
 match U with
 | .int _=>match x,y with
   | .int k a,.int k' b=>if k=k' then some (a == b)else none
   |_,_=>none
 | .string=>match x,y with
   | .ai a,.ai b=>some (a == b)
   |_,_=>none
 | .bool=>match x,y with
   | .bool a,.bool b=>some (a == b)
   |_,_=>none
 |_=>none
def oO(t:TypeId):Option TypeDesc:=
 match P.underlying t with
 |some (.int k)=>some (.int k)
 |some .string=>some .string
 |some .bool=>some .bool
 |_=>none
def fD(U:TypeDesc)(k:AV):qL->Nat->Option (Option (Nat×AV))
 |[],_=>some none
 |(k',v)::es,i=>match oN U k k' with
  |some true=>some (some (i,v))
  |some false=>fD U k es (i+1)
  |none=>none
def uS(H:Hp):AV->Option qL
 | .a7=>some []
 | .map r=>match H.get r with
   |some (.map g)=>some g
   |_=>none
 |_=>none
def ya(ok:Bool)(v:AV)(Z:Bool):AV:=match ok with
 |true=>.aS [v,.bool Z]
 |false=>v
def lO(H:Hp)(t:TypeId)(m k:AV)(ok:Bool):qB:=
 match P.underlying t with
 |some (.map Z e)=>match uS H m,oO P Z with
  |some g,some U=>match fD U k g 0 with
   |some (some (_,v))=>some (ya ok v true)
   |some none=>match uQ P e with
    |some v=>some (ya ok v false)
    |none=>none
   |none=>none
  |_,_=>none
 |_=>none
def oP(H:Hp)(t:TypeId)(m k v:AV):Option Hp:=
 match P.underlying t with
 |some (.map Z _)=>match m,oO P Z with
  | .map r,some U=>match H.get r with
    |some (.map g)=>match fD U k g 0 with
     |some (some (i,_))=>some (H.set r (.map (g.set i (k,v))))
     |some none=>some (H.set r (.map (g++[(k,v)])))
     |none=>none
    |_=>none
  |_,_=>none
 |_=>none
def tm:qw->qw->Bool
 |_,[]=>false
 |[],_::_=>true
 |a::x,b::y=>a<b||(a == b&&tm x y)
def jZ(op:BinOp)(k:IntKind)(a b:Int):qB:=
 match op with
 | .add=>some (.int k (k.wrap (a+b)))
 | .sub=>some (.int k (k.wrap (a-b)))
 | .mul=>some (.int k (k.wrap (a*b)))
 | .quo=>if b=0 then none else some (.int k (k.wrap (a.tdiv b)))
 | .rem=>if b=0 then none else some (.int k (a.tmod b))
 | .and=>some (.int k (k.wrap (BitVec.ofInt k.bits a &&& BitVec.ofInt k.bits b).toNat))
 | .or=>some (.int k (k.wrap (BitVec.ofInt k.bits a |||BitVec.ofInt k.bits b).toNat))
 | .xor=>some (.int k (k.wrap (BitVec.ofInt k.bits a^^^ BitVec.ofInt k.bits b).toNat))
 | .andNot=>some (.int k (k.wrap (BitVec.ofInt k.bits a &&& ~~~ BitVec.ofInt k.bits b).toNat))
 | .eql=>some (.bool (a == b))
 | .neq=>some (.bool (a != b))
 | .lss=>some (.bool (a<b))
 | .leq=>some (.bool (a<=b))
 | .gtr=>some (.bool (a > b))
 | .geq=>some (.bool (a>=b))
 |_=>none
def Em(op:BinOp)(k:IntKind)(a b:Int):Int:=
 match jZ op k a b with
 |some (.int _ n)=>n
 |_=>0
def Sx.eval(ρ:Nat->Int):Sx->Int
 | .var i=>ρ i
 | .lit n=>n
 | .bZ U k a b=>Em U k (a.eval ρ) (b.eval ρ)
 | .cN k a=>k.wrap (a.eval ρ)
def AS:AV->Option (IntKind×Sx)
 | .int k n=>some (k,.lit n)
 | .sx k e=>some (k,e)
 |_=>none
def Eo(D:BinOp->Sx->Sx->qF)(op:BinOp)(k:IntKind)(a b:Sx):qB:=
 match op with
 | .add=>some (.sx k (.bZ .add k a b))
 | .sub=>some (.sx k (.bZ .sub k a b))
 | .mul=>some (.sx k (.bZ .mul k a b))
 | .and=>some (.sx k (.bZ .and k a b))
 | .or=>some (.sx k (.bZ .or k a b))
 | .xor=>some (.sx k (.bZ .xor k a b))
 | .andNot=>some (.sx k (.bZ .andNot k a b))
 | .quo=>match D .eql b (.lit 0)with
   |some false=>some (.sx k (.bZ .quo k a b))
   |_=>none
 | .rem=>match D .eql b (.lit 0)with
   |some false=>some (.sx k (.bZ .rem k a b))
   |_=>none
 | .shl=>none
 | .shr=>none
 |op=>match D op a b with
  |some r=>some (.bool r)
  |none=>none
def AT(D:BinOp->Sx->Sx->qF)(op:BinOp)(x y:AV):qB:=
 match AS x,AS y with
 |some (k,a),some (k',b)=>if k=k' then Eo D op k a b else none
 |_,_=>none
def yb(op:BinOp)(a b:qw):qB:=
 match op with
 | .add=>if a.length+b.length<=dX then some (.ai (a++b))else none
 | .eql=>some (.bool (a == b))
 | .neq=>some (.bool !(a == b))
 | .lss=>some (.bool (tm a b))
 | .leq=>some (.bool (tm a b||a == b))
 | .gtr=>some (.bool !(tm a b||a == b))
 | .geq=>some (.bool !(tm a b))
 |_=>none
def yc(t:TypeId)(x y:AV):qF:=
 match P.underlying t with
 |some .bool=>match x,y with
  | .bool a,.bool b=>some (a == b)
  |_,_=>none
 |some (.pointer _)=>match x,y with
  | .bl,.bl=>some true
  | .ptr _ _,.bl|.bl,.ptr _ _|.a8 _,.bl|.bl,.a8 _=>some false
  |_,_=>none
 |some (.map _ _)=>match x,y with
  | .a7,.a7=>some true
  | .map _,.a7|.a7,.map _=>some false
  |_,_=>none
 |some (.func _ _ _)=>match x,y with
  | .bu,.bu=>some true
  | .bb _ _,.bu|.bu,.bb _ _=>some false
  |_,_=>none
 |some (.slice _)=>match x,y with
  | .ah,.ah=>some true
  | .sl _ _ _ _,.ah|.ah,.sl _ _ _ _|.ao (_::_),.ah|.ah,.ao (_::_)=>some false
  |_,_=>none
 |_=>none
def Ep(t:TypeId)(x y:AV):qF:=
 match x,y with
 | .int k a,.int k' b=>match P.underlying t with
   |some (.int _)=>if k=k' then some (a == b)else none
   |_=>none
 | .ai a,.ai b=>match P.underlying t with
   |some .string=>some (a == b)
   |_=>none
 |x,y=>yc P t x y
def wM(xs I:qs):List Field->qF
 |[]=>some true
 |f::fs=>match f.name == "_" with
  |true=>wM xs I fs
  |false=>match cU P f.type xs f.offset,cU P f.type I f.offset with
   |some a,some b=>match Ep P f.type a b with
    |some true=>wM xs I fs
    |some false=>some false
    |none=>none
   |_,_=>none
def AU(t:TypeId)(xs I:qs):qF:=
 match P.underlying t with
 |some (.struct g)=>match P.stoodInHeld t||P.eqGuardType P.depth t with
  |true=>none
  |false=>wM P xs I g.toList
 |_=>none
def tp(t:TypeId)(x y:AV):qF:=
 match x,y with
 | .agg U,.agg I=>AU P t U I
 |x,y=>yc P t x y
def wN(op:BinOp)(k:IntKind)(a b:Int):qB:=
 match b with
 | .ofNat m=>match op with
   | .shl=>some (.int k (k.wrap (a*2^ min m k.bits)))
   | .shr=>some (.int k (a.fdiv (2^ min m k.bits)))
   |_=>none
 |_=>none
def tq(op:BinOp)(k V:IntKind)(a b:Int):qB:=
 match op with
 | .shl=>wN .shl k a b
 | .shr=>wN .shr k a b
 |op=>if k=V then jZ op k a b else none
def AW(op:BinOp)(t:TypeId)(x y:AV):qB:=
 match op with
 | .eql=>match tp P t x y with
   |some b=>some (.bool b)
   |none=>none
 | .neq=>match tp P t x y with
   |some b=>some (.bool !b)
   |none=>none
 |_=>none
def em(D:BinOp->Sx->Sx->qF)(op:BinOp)(t:TypeId)(x y:AV):qB:=
 match x,y with
 | .int k a,.int k' b=>tq op k k' a b
 | .ai a,.ai b=>yb op a b
 | .sx k a,y=>AT D op (.sx k a) y
 | .int k a,.sx k' b=>AT D op (.int k a) (.sx k' b)
 |x,y=>AW P op t x y
def tt(op:UnOp)(x:AV):qB:=
 match op,x with
 | .neg,.sx k e=>some (.sx k (.bZ .sub k (.lit 0) e))
 | .xor,.sx k e=>some (.sx k (.bZ .xor k (.lit (if k.signed then -1 else k.max)) e))
 | .neg,.int k n=>jZ .sub k 0 n
 | .xor,.int k n=>jZ .xor k (if k.signed then -1 else k.max) n
 | .not,.bool b=>some (.bool !b)
 |_,_=>none
def uT:qs->Option qw
 |[]=>some []
 | .int .u8 n::cs=>match uT cs with
   |some bs=>some (UInt8.ofNat n.toNat::bs)
   |none=>none
 |_=>none
def lP(H:Hp)(m U:TypeId)(x:AV):qB:=
 match P.underlying m,P.underlying U with
 |some (.slice e),some .string=>match P.underlying e with
  |some (.int .u8)=>match fN H 1 x with
   |some (_,Y)=>match uT Y with
    |some bs=>match x with
     | .sl _ _ _ _|.ah=>some (.ai bs)
     |_=>none
    |none=>none
   |none=>none
  |_=>none
 |some _,some (.int k)=>match x with
  | .int _ n=>some (.int k (k.wrap n))
  | .sx _ e=>some (.sx k (.cN k e))
  |_=>none
 |some .string,some .string=>match x with
  | .ai s=>some (.ai s)
  |_=>none
 |_,_=>none
def j0(H:Hp)(t:TypeId)(l c:AV):Option (AV×Hp):=
 match P.underlying t,l,c with
 |some (.slice e),.int _ (.ofNat l),.int _ (.ofNat c)=>match bR P e,dk P e,cP P e with
  |some s,some b,some z=>if l<=c/\c*b<=dX/\c<=dX/\z.length=s then some (.sl H.next 0 l s,H.alloc (.cells (jB z l) 0 true))else none
  |_,_,_=>none
 |_,_,_=>none
def extract(x:AV)(i:Nat):qB:=
 match x with
 | .aS vs=>vs[i]?
 |_=>none
def mm(V:Bool):AV->AV->qB
 | .int k x,.int _ y=>some (.int k (if (if V then decide (y > x)else decide (y<x))then y else x))
 |_,_=>none
def tu(V:Bool)(x:AV):qs->qB
 |[]=>some x
 |y::ys=>match mm V x y with
  |some z=>tu V z ys
  |none=>none
def ij(H:Hp)(t:TypeId)(x:AV):qB:=
 match P.underlying t with
 |some .string=>match x with
  | .ai s=>some (.int .i64 s.length)
  |_=>none
 |some (.slice _)=>match x with
  | .sl _ _ n _=>some (.int .i64 n)
  | .ao U=>some (.int .i64 U.length)
  | .ah=>some (.int .i64 0)
  |_=>none
 |some (.array n _)=>some (.int .i64 n)
 |some (.map _ _)=>match uS H x with
  |some g=>some (.int .i64 g.length)
  |none=>none
 |_=>none
def ru(keep:Bool)(H:Hp)(b:Builtin)(i:List TypeId)(C:qs):Option (AV×Hp):=
 match b with
 | .append=>match i,C with
   |[t,u],[s,x]=>dm P keep H t u s x
   |_,_=>none
 | .len=>match i,C with
   |[t],[x]=>match ij P H t x with
    |some v=>some (v,H)
    |none=>none
   |_,_=>none
 | .max=>match C with
   |x::xs=>match tu true x xs with
    |some v=>some (v,H)
    |none=>none
   |[]=>none
 | .min=>match C with
   |x::xs=>match tu false x xs with
    |some v=>some (v,H)
    |none=>none
   |[]=>none
 |_=>none
def ret(H:Hp):qB->Option (AV×Hp)
 |some v=>some (v,H)
 |none=>none
def AY(E:aB)(H:Hp)(c a b:Operand):Option (AV×Hp):=
 match aV E c with
 |some (.bool true)=>ret H (aV E a)
 |some (.bool false)=>ret H (aV E b)
 |_=>none
def yd(H:Hp)(t:TypeId):Option (AV×Hp):=
 match cP P t with
 |some z=>some (.ptr H.next 0,H.alloc (.cells z 0 true))
 |none=>none
def ye(E:aB)(H:Hp)(x:Operand):Option (AV×Hp):=
 match aV E x with
 |some v=>some (.ptr H.next 0,H.alloc (.cells v.cells 0 true))
 |none=>none
def AZ(E:aB)(H:Hp)(t:TypeId)(O:Array (Nat×Operand)):Option (AV×Hp):=
 match lC E O.toList with
 |some Y=>ret H (dK P t Y)
 |none=>none
def yf(E:aB)(H:Hp)(t:TypeId)(len:Nat)(O:Array (Nat×Operand)):Option (AV×Hp):=
 match lC E O.toList with
 |some Y=>dW P H t len Y
 |none=>none
def yg(E:aB)(H:Hp)(t:TypeId)(a:Operand):Option (AV×Hp):=
 match aV E a with
 |some v=>ret H (eY P H t v)
 |none=>none
def A0(E:aB)(H:Hp)(t:TypeId)(a x:Operand):Option (AV×Hp):=
 match aV E a,aV E x with
 |some a,some x=>match mB P H t a x with
  |some H=>some (ed,H)
  |none=>none
 |_,_=>none
def A1(E:aB)(H:Hp)(x:Operand):Option (AV×Hp):=
 match aV E x with
 |some (.ptr r o)=>some (.ptr r o,H)
 |some (.a8 Y)=>some (.a8 Y,H)
 |_=>none
def A2(D:BinOp->Sx->Sx->qF)(E:aB)(H:Hp)(op:BinOp)(t:TypeId)(x y:Operand):Option (AV×Hp):=
 match aV E x,aV E y with
 |some x,some y=>ret H (em P D op t x y)
 |_,_=>none
def A3(E:aB)(H:Hp)(op:UnOp)(x:Operand):Option (AV×Hp):=
 match aV E x with
 |some x=>ret H (tt op x)
 |none=>none
def yh(E:aB)(H:Hp)(s d:TypeId)(x:Operand):Option (AV×Hp):=
 match aV E x with
 |some x=>ret H (lP P H s d x)
 |none=>none
def A4(E:aB)(H:Hp)(V:Fn)(first o:Array Operand):Option (AV×Hp):=
 match V,first.toList,iQ E o.toList with
 | .func f,[],some vs=>some (.bb f vs,H)
 |_,_,_=>none
def yj(H:Hp)(r:Option Operand):Option (AV×Hp):=
 match r with
 |none=>some (.map H.next,H.alloc (.map []))
 |some _=>none
def yk(E:aB)(H:Hp)(t:TypeId)(l c:Operand):Option (AV×Hp):=
 match aV E l,aV E c with
 |some l,some c=>j0 P H t l c
 |_,_=>none
def kL(E:aB):Option Operand->Option qB
 |none=>some none
 |some x=>match aV E x with
  |some v=>some (some v)
  |none=>none
def yl(E:aB)(H:Hp)(t:TypeId)(x:Operand)(lo z V:Option Operand):Option (AV×Hp):=
 match V,aV E x,kL E lo,kL E z with
 |none,some x,some l,some h=>ret H (oM P H t x l h)
 |_,_,_,_=>none
def A5(E:aB)(H:Hp)(t:TypeId)(x:Operand)(f:Nat):Option (AV×Hp):=
 match aV E x with
 |some x=>ret H (tl P t x f)
 |none=>none
def Ba(E:aB)(H:Hp)(t:TypeId)(x:Operand)(f:Nat):Option (AV×Hp):=
 match aV E x with
 |some x=>ret H (uR P t x f)
 |none=>none
def Bb(E:aB)(H:Hp)(t:TypeId)(x i:Operand):Option (AV×Hp):=
 match aV E x,aV E i with
 |some x,some i=>ret H (ey P t x i)
 |_,_=>none
def Bc(E:aB)(H:Hp)(t:TypeId)(x i:Operand):Option (AV×Hp):=
 match aV E x,aV E i with
 |some x,some i=>ret H (pI P t x i)
 |_,_=>none
def ym(E:aB)(H:Hp)(t:TypeId)(m k:Operand)(ok:Bool):Option (AV×Hp):=
 match aV E m,aV E k with
 |some m,some k=>ret H (lO P H t m k ok)
 |_,_=>none
def Be(E:aB)(H:Hp)(t:TypeId)(m k v:Operand):Option (AV×Hp):=
 match aV E m,aV E k,aV E v with
 |some m,some k,some v=>match oP P H t m k v with
  |some H=>some (ed,H)
  |none=>none
 |_,_,_=>none
def Bf(E:aB)(H:Hp)(x:Operand)(i:Nat):Option (AV×Hp):=
 match aV E x with
 |some x=>ret H (extract x i)
 |none=>none
def dz(D:BinOp->Sx->Sx->qF)(E:aB)(H:Hp)(op:Op):Option (AV×Hp):=
 match op with
 | .move x=>ret H (aV E x)
 | .assign x=>ret H (aV E x)
 | .pick c a b=>AY E H c a b
 | .alloc t=>yd P H t
 | .box _ x=>ye E H x
 | .build t O=>AZ P E H t O
 | .buildSlice t Z O=>yf P E H t Z O
 | .load t a=>yg P E H t a
 | .store t a x=>A0 P E H t a x
 | .nilCheck x=>A1 E H x
 | .binOp op t x y _=>A2 P D E H op t x y
 | .unOp op _ x=>A3 E H op x
 | .convert s d x=>yh P E H s d x
 | .makeFunc V first o=>A4 E H V first o
 | .makeMap _ r=>yj H r
 | .makeSlice t l c=>yk P E H t l c
 | .slice t x j z Y=>yl P E H t x j z Y
 | .fieldAddr t x f=>A5 P E H t x f
 | .field t x f=>Ba P E H t x f
 | .indexAddr t x i=>Bb P E H t x i
 | .index t x i=>Bc P E H t x i
 | .lookup t m k ok=>ym P E H t m k ok
 | .mapUpdate t m k v=>Be P E H t m k v
 | .extract x i=>Bf E H x i
 |_=>none
inductive zd2 where
 |aE (f:FuncId) (N:Nat) (c:Code) (E:aB) (H:Hp)
 |call (f:FuncId) (args:qs) (H:Hp)
inductive AX where
 |normal|exit (id:Nat)|ret
inductive Res where
 |done (x:AX) (E:aB) (H:Hp)
 |val (v:AV) (H:Hp)
 |aF
def fE(N:Nat)(E:aB)(U:Option Tmp)(v:AV):Option aB:=
 match U with
 |some d=>match Nat.blt d N with
  |true=>some (T.set E d (some v))
  |false=>none
 |none=>some E
def Bg(ops:qx)(E:aB)(j:Nat):qF:=
 match (ops[j]?).bind (·.dst)with
 |some d=>match E.at d with|.bool b=>some b |_=>none
 |none=>none
def jC(ops:qx)(E:aB)(o:Oper):Bool:=
 match o.guard with
 |none=>true
 |some (j,K)=>match Bg ops E j with
  |some b=>b == K
  |none=>false
variable (cfg:Cfg)
def tw(ih:zd2->Res)(f:FuncId)(E:aB)(H:Hp)(c:Call):Res:=
 match c.callee with
 | .value g=>match aV E g,iQ E c.args.toList with
   |some (.bb k j),some vs=>ih (.call k (vs++j) H)
   |_,_=>.aF
 | .builtin b=>match iQ E c.args.toList with
   |some vs=>match ru P (cfg.keep f) H b c.argTypes.toList vs with
    |some (v,H)=>.val v H
    |none=>.aF
   |none=>.aF
 |_=>.aF
def gW:Option (AV×Hp)->Res
 |some (v,H)=>.val v H
 |none=>.aF
def en(ih:zd2->Res)(f:FuncId)(E:aB)(H:Hp)(op:Op):Res:=
 match op with
 | .call c=>tw P cfg ih f E H c
 |op=>gW (dz P cfg.b7 E H op)
def Sx.beq:Sx->Sx->Bool
 | .var i,.var j=>Nat.beq i j
 | .lit a,.lit b=>a == b
 | .bZ o k a b,.bZ U k' O I=>decide (o=U)&&decide (k=k')&&Sx.beq a O&&Sx.beq b I
 | .cN k a,.cN k' b=>decide (k=k')&&Sx.beq a b
 |_,_=>false
mutual
def AV.beq:AV->AV->Bool
 | .int k a,.int k' b=>decide (k=k')&&(a == b)
 | .sx k a,.sx k' b=>decide (k=k')&&Sx.beq a b
 | .bool a,.bool b=>a == b
 | .ai a,.ai b=>a == b
 | .bl,.bl|.a7,.a7|.bu,.bu|.ah,.ah=>true
 | .ptr r o,.ptr J U=>Nat.beq r J&&Nat.beq o U
 | .a8 a,.a8 b=>lQ a b
 | .sl r o l z,.sl J U j Z=>Nat.beq r J&&Nat.beq o U&&Nat.beq l j&&Nat.beq z Z
 | .ao a,.ao b=>uU a b
 | .map r,.map J=>Nat.beq r J
 | .bb f a,.bb Y b=>Nat.beq f Y&&lQ a b
 | .agg a,.agg b=>lQ a b
 | .aS a,.aS b=>lQ a b
 |_,_=>false
def lQ:qs->qs->Bool
 |[],[]=>true
 |a::x,b::y=>AV.beq a b&&lQ x y
 |_,_=>false
def uU:List qs->List qs->Bool
 |[],[]=>true
 |a::x,b::y=>lQ a b&&uU x y
 |_,_=>false
end
inductive Kind where
 |calm   -- looks at no memory
 |read
 |make
 |cA
def gX:Op->Kind
 | .load ..|.lookup ..|.convert ..|.slice ..=>.read
 | .alloc _|.box ..|.buildSlice ..|.makeMap ..|.makeSlice ..=>.make
 | .store ..|.mapUpdate ..=>.cA
 | .call c=>match c.callee with
   | .builtin .len|.builtin .max|.builtin .min=>.read
   |_=>.cA
 |_=>.calm
structure Rec where
 o:Oper
 did:Bool
 E:aB
 H:Hp
 val:AV
 H':Hp
inductive zfY where
 |done (E:aB) (H:Hp) (rs:List Rec)
 |aF
def oQ(r:Rec):zfY->zfY
 | .done E H rs=>.done E H (r::rs)
 | .aF=>.aF
def oR(m:aB->Hp->zfY)(H:Hp):Option aB->zfY
 |some E=>m E H
 |none=>.aF
def jD(ih:zd2->Res)(f N:Nat)(Z:qx):qx->aB->Hp->zfY
 |[],E,H=>.done E H []
 |o::rest,E,H=>match jC Z E o with
  |true=>match en P cfg ih f E H o.op with
   | .val v H'=>oQ ⟨o,true,E,H,v,H'⟩ (oR (jD ih f N Z rest) H' (fE N E o.dst v))
   |_=>.aF
  |false=>oQ ⟨o,false,E,H,ed,H⟩ (oR (jD ih f N Z rest) H (fE N E o.dst ed))
def preds(o:Oper):qC:=(o.after.toList.filter (Region.binds .any)).map (·.on)
def wO:qC->qC->qC
 |acc,[]=>acc
 |acc,x::xs=>match acc.contains x with
  |true=>wO acc xs
  |false=>wO (x::acc) xs
def yn(l:qC):qC:=wO [] l
def iI:qx->List qC->List qC
 |[],acc=>acc
 |o::rest,acc=>iI rest (acc++[yn (preds o++(preds o).flatMap fun i=>acc.getD i [])])
def I7(o:Oper):qC:=o.dst.toList++o.op.operands.toList.filterMap fun|.tmp t=>some t |_=>none
def tx(Z:qx)(o:Oper):qC:=I7 o++(match o.guard with|some (j,_)=>((Z[j]?).bind (·.dst)).toList|none=>[])
def mX(o:Oper):Bool:=match gX o.op with|.cA=>true |_=>false
def tz(o:Oper):Bool:=match gX o.op with|.make=>true |_=>false
def clash(Z:qx)(p q:Oper):Bool:=
 (mX p&&(mX q||tz q)) ||
 (p.dst.toList.any fun d=>(tx Z q).contains d)||(q.dst.toList.any fun d=>(tx Z p).contains d)
def rv(Z:qx):Bool:=
 let A:=iI Z []
 (List.range Z.length).all fun j=>match Z[j]? with
   |none=>true
   |some q=>(preds q).all (·< j)&&(match q.guard with|some (g,_)=>(A.getD j []).contains g|none=>true) &&
    (List.range j).all fun i=>match Z[i]? with
      |none=>true
      |some p=>!clash Z p q||(A.getD j []).contains i
def jE(ops:qx):qC:=(List.range ops.length).filter fun i=>match ops[i]? with
 |some o=>mX o
 |none=>false
def cD(rs:List Rec)(H':Hp)(e:Nat):Hp:=match rs[e]? with
 |some r=>r.H
 |none=>H'
def HB.beq:HB->HB->Bool
 | .cells a i t,.cells b j u=>lQ a b&&Nat.beq i j&&(t == u)
 | .map a,.map b=>lQ (a.map (·.1)) (b.map (·.1))&&lQ (a.map (·.2)) (b.map (·.2))
 |_,_=>false
def zdS(r:Rec)(H:Hp):Bool:=
 match gX r.o.op with
 | .read=>match en P cfg (fun _=>.aF) 0 r.E H r.o.op with
   | .val v _=>AV.beq v r.val
   |_=>false
 | .make=>match H.get r.H.next,r.H'.get r.H.next with
   |some b,some I=>HB.beq b I
   |_,_=>false
 |_=>true
def Bh(A:List qC)(g:qC)(i m:Nat):Bool:=
 !(g.any (fun e=>(A.getD i []).contains e&&Nat.ble m e)||g.any (fun e=>(A.getD e []).contains i&&Nat.blt e m))
def oS(ops:qx):qM:=
 (List.range ops.length).flatMap fun i=>match ops[i]? with
   |some o=>match gX o.op with
    | .read|.make=>((jE ops++[ops.length]).filter (Bh (iI ops []) (jE ops) i)).map fun m=>(i,m)
    |_=>[]
   |none=>[]
def uV(need:qM)(rs:List Rec)(H':Hp):Bool:=
 rs.all (fun r=>Nat.ble r.H.next r.H'.next)&&need.all fun p=>match rs[p.1]? with
  |some r=>!r.did||zdS P cfg r (cD rs H' p.2)
  |none=>true
def mY(ih:zd2->Res)(f N:Nat)(ops:qx)(E:aB)(H:Hp):Res:=
 match rv ops with
 |true=>match jD P cfg ih f N ops ops E H with
  | .done E' H' rs=>match uV P cfg (oS ops) rs H' with
    |true=>.done .normal E' H'
    |false=>.aF
  | .aF=>.aF
 |false=>.aF
def i8:qC->Nat->Nat
 |[],_=>0
 |x::xs,i=>match Nat.beq x i with
  |true=>0
  |false=>i8 xs i+1
def tA(ord:qC)(o:Oper):Oper:=
 {o with after:=((o.after.toList.filter (Region.binds .any)).map fun e=>{e with on:=i8 ord e.on}).toArray,guard:=match o.guard with|some (j,b)=>some (i8 ord j,b)|none=>none}
def iJ(ord:qC)(l:qx):qx:=ord.filterMap fun i=>match l[i]? with
 |some o=>some (tA ord o)
 |none=>none
def yo(ord:qC)(l:qx):Bool:=
 Nat.beq ord.length l.length &&
 (List.range l.length).all (fun k=>(match ord[k]? with|some i=>Nat.blt i l.length&&Nat.beq (i8 ord i) k|none=>false)&&Nat.blt (i8 ord k) l.length&&(match ord[i8 ord k]? with|some i=>Nat.beq i k|none=>false)) &&
 l.all (fun o=>(preds o).all (fun p=>Nat.blt p l.length)&&(match o.guard with|some (j,_)=>Nat.blt j l.length|none=>true))
def jF(q p:Nat)(l:qx):qx:=match l[q]? with
 |some o=>l.set q {o with after:=o.after.push {on:=p,ground:=.data} }
 |none=>l
def T.beq{J:Type}(C:J->J->Bool):T J->T J->Bool
 | .e,.e=>true
 | .n v l r,.n z j Z=>(match v,z with|some a,some b=>C a b|none,none=>true |_,_=>false)&&T.beq C l j&&T.beq C r Z
 |_,_=>false
def Er(ops:qx)(Y j:aB)(I Z:Hp):Bool:=
 ops.all (fun o=>match o.dst with|some d=>AV.beq (Y.at d) (j.at d)|none=>true)&&Nat.beq I.next Z.next&&T.beq HB.beq I.t Z.t
def uW(ops:qx):Res->Res->Res
 | .done .normal E1 H1,.done .normal j Z=>match Er ops E1 j H1 Z with
   |true=>.done .normal E1 H1
   |false=>.aF
 |_,_=>.aF
def j5(ih:zd2->Res)(f N:Nat)(E:aB)(H:Hp):zd9->qx->Res
 | .text,ops=>mY P cfg ih f N ops E H
 | .b1 ord,ops=>match yo ord ops with
   |true=>mY P cfg ih f N (iJ ord ops) E H
   |false=>.aF
 | .split p q a b,ops=>match Nat.beq p q with
   |true=>.aF
   |false=>uW ops (j5 ih f N E H a (jF q p ops)) (j5 ih f N E H b (jF p q ops))
def kM(m:aB->Hp->Res)(H:Hp):Option aB->Res
 |some E=>m E H
 |none=>.aF
def j6(ih:zd2->Res)(f N:Nat)(Z:qx)(ops:qx):aB->Hp->Res:=
 List.rec (motive:=fun _=>aB->Hp->Res) (fun E H=>.done .normal E H)
  (fun o _ m E H=>match jC Z E o with
    |true=>match en P cfg ih f E H o.op with
     | .val v H=>kM m H (fE N E o.dst v)
     |_=>.aF
    |false=>kM m H (fE N E o.dst ed)) ops
def yp:Nat->aB
 |0=>.e
 |d+1=>.n (some ed) (yp d) (yp d)
def uX(N:Nat):aB:=yp (Nat.log2 N+1)
def bA:Nat->qs->aB->aB
 |_,[],E=>E
 |i,v::vs,E=>bA (i+1) vs (T.set E i (some v))
def eM(E:aB)(H:Hp):ResultVar->qB
 | .tmp t=>some (E.at t)
 | .cell a t=>eY P H t (E.at a)
def eh(E:aB)(H:Hp):List ResultVar->Option qs
 |[]=>some []
 |r::rs=>match eM P E H r,eh E H rs with
  |some v,some vs=>some (v::vs)
  |_,_=>none
def aC:qs->AV
 |[v]=>v
 |vs=>.aS vs
def wP(rs:List ResultVar)(E:aB)(H:Hp):Res:=
 match eh P E H rs with
 |some vs=>.val (aC vs) H
 |none=>.aF
def oT(ih:zd2->Res)(f:FuncId)(C:qs)(H:Hp):Res:=
 match P.funcs[f]? with
 |some V=>match V.body with
  |some c=>match ih (.aE f (max V.ntmps C.length) c (bA 0 C (uX (max V.ntmps C.length))) H)with
   | .done .normal E H=>wP P V.results.toList E H
   | .done .ret E H=>wP P V.results.toList E H
   |_=>.aF
  |none=>.aF
 |none=>.aF
def oU(ih:zd2->Res)(f N:Nat)(b:Code):Res->Res
 | .done .normal E H=>ih (.aE f N b E H)
 |r=>r
def nZ(id:Nat):Res->Res
 | .done (.exit J) E H=>match Nat.beq J id with
   |true=>.done .normal E H
   |false=>.done (.exit J) E H
 |r=>r
def uY(ih:zd2->Res)(f N:Nat)(x:Operand)(a b:Code)(E:aB)(H:Hp):Res:=
 match aV E x with
 |some (.bool true)=>ih (.aE f N a E H)
 |some (.bool false)=>ih (.aE f N b E H)
 |_=>.aF
def gC(z:Nat):Nat->qs->List qs
 |0,_=>[]
 |n+1,l=>l.take z::gC z n (l.drop z)
def gg(g:AV->Hp->Option (AV×Hp)):qs->Hp->Option (qs×Hp)
 |[],H=>some ([],H)
 |c::cs,H=>match g c H with
  |some (d,H)=>match gg g cs H with
   |some (j,H)=>some (d::j,H)
   |none=>none
  |none=>none
def eR:Nat->AV->Hp->Option (AV×Hp)
 |0,_,_=>none
 |n+1,v,H=>match v with
  | .sl r I o z=>match H.get r with
    |some (.cells Y L Z)=>match Nat.ble (I+o*z) Y.length&&Nat.ble L Y.length with
     |true=>match gg (eR n) ((Y.drop I).take (o*z)) (H.set r (.cells Y (max L (I+o*z)) Z))with
      |some (l,H)=>some (.ao (gC z o l),H)
      |none=>none
     |false=>none
    |_=>none
  | .agg Y=>match gg (eR n) Y H with
    |some (j,H)=>some (.agg j,H)
    |none=>none
  | .ptr _ _=>none
  | .map _=>none
  |v=>some (v,H)
def yq:AV->Bool
 | .int _ _=>true
 | .bool _=>true
 | .ai _=>true
 |_=>false
def wQ(r:AV)(H H':Hp):Hp:=match yq r with
 |true=>H
 |false=>H'
def wR(ih:zd2->Res)(f:FuncId)(C:qs)(H:Hp):Option (qs×Hp)->Res
 |some (Y,H')=>match cfg.call f Y with
  |some r=>.val r (wQ r H H')
  |none=>oT P ih f C H
 |none=>oT P ih f C H
def uZ:Bool->Res->Res
 |true,.val v H=>gW (eR 100 v H)
 |_,r=>r
def n1(ih:zd2->Res)(f:FuncId)(C:qs)(H:Hp):Res:=match cfg.aD f with
 |true=>wR P cfg ih f C H (gg (eR 100) C H)
 |false=>oT P ih f C H
def step(ih:zd2->Res):zd2->Res
 | .call f C H=>match cfg.call f C with
   |some r=>.val r H
   |none=>uZ (cfg.aq f) (n1 P cfg ih f C H)
 | .aE f N c E H=>match c with
   | .skip=>.done .normal E H
   | .region id ops draw=>match draw with
     |false=>j6 P cfg ih f N ops.toList ops.toList E H
     |true=>j5 P cfg ih f N E H (cfg.bF f id) ops.toList
   | .seq a b=>oU ih f N b (ih (.aE f N a E H))
   | .cond x a b=>uY ih f N x a b E H
   | .block id a=>nZ id (ih (.aE f N a E H))
   | .loop a=>oU ih f N (.loop a) (ih (.aE f N a E H))
   | .exit id=>.done (.exit id) E H
   | .ret=>.done .ret E H
   |_=>.aF
def dM(n:Nat):zd2->Res:=Nat.rec (motive:=fun _=>zd2->Res) (fun _=>.aF) (fun _ ih=>step P cfg ih) n
end
def bY:Hp:={next:=0,t:=.e}
def iceL(g:AV->qB):qs->Option qs
 |[]=>some []
 |c::cs=>match g c,iceL g cs with
  |some d,some j=>some (d::j)
  |_,_=>none
def tB(g:AV->qB):List qs->Option (List qs)
 |[]=>some []
 |c::cs=>match iceL g c,tB g cs with
  |some d,some j=>some (d::j)
  |_,_=>none
def iceV(H:Hp):Nat->AV->qB
 |0,_=>none
 |n+1,v=>match v with
  | .sl r I o z=>match H.get r with
    |some (.cells Y _ _)=>match iceL (iceV H n) ((Y.drop I).take (o*z))with
     |some l=>if l.length=o*z then some (.ao (gC z o l))else none
     |none=>none
    |_=>none
  | .ao U=>match tB (iceV H n) U with
    |some Z=>some (.ao Z)
    |none=>none
  | .agg Y=>match iceL (iceV H n) Y with
    |some j=>some (.agg j)
    |none=>none
  | .aS Y=>match iceL (iceV H n) Y with
    |some j=>some (.aS j)
    |none=>none
  | .int k a=>some (.int k a)
  | .sx k e=>some (.sx k e)
  | .bool b=>some (.bool b)
  | .ai s=>some (.ai s)
  | .bl=>some .bl
  | .a7=>some .a7
  | .bu=>some .bu
  | .ah=>some .ah
  |_=>none
def Bi(P:Program)(cfg:Cfg)(n m:Nat)(f:FuncId)(C:qs):qB:=
 match dM P cfg n (.call f C bY)with
 | .val v H=>iceV H m v
 |_=>none
def tC(m:Nat)(C:qs):Bool:=
 match iceL (iceV bY m) C with
 |some Y=>lQ Y C
 |none=>false
def Es(P:Program)(cfg:Cfg)(n m:Nat)(f:FuncId)(C:qs)(r:AV):Bool:=
 match Bi P cfg n m f C with
 |some q=>AV.beq q r
 |none=>false
def u5:List (FuncId×qs×AV)->FuncId->qs->qB
 |[],_,_=>none
 |p::l,f,args=>match Nat.beq p.1 f with
  |true=>match lQ p.2.1 args with
   |true=>some p.2.2
   |false=>u5 l f args
  |false=>u5 l f args
end
end Go.Ab
