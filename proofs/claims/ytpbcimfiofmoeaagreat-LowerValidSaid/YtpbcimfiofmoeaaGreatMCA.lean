/- Parts: AbDefs. -/
import GoSem.Step
set_option linter.unusedSimpArgs false
set_option linter.unusedVariables false
set_option linter.unusedSectionVars false
set_option linter.defProp false
set_option maxHeartbeats 32000000
namespace Go.Ab
noncomputable section
open Go
inductive T (α:Type) where
 |e
 |n (v:Option α) (l r:T α)
def jR{Z:Type}(b:Bool)(x y:Z):Z:=Bool.rec y x b
def T.get{Z:Type}(t:T Z):Nat->Option Z:=
 T.rec (motive:=fun _=>Nat->Option Z) (fun _=>none)
  (fun v _ _ V m k=>jR (Nat.beq k 0) v (jR (Nat.beq (Nat.mod k 2) 1) (V (Nat.div k 2)) (m (Nat.sub (Nat.div k 2) 1)))) t
def jS{Z:Type}(v:Option Z)(f:Nat):T Z->Nat->T Z:=
 Nat.rec (motive:=fun _=>T Z->Nat->T Z) (fun t _=>t)
  (fun _ ih t k=>T.casesOn t
    (jR (Nat.beq k 0) (.n v .e .e) (jR (Nat.beq (Nat.mod k 2) 1) (.n none (ih .e (Nat.div k 2)) .e) (.n none .e (ih .e (Nat.sub (Nat.div k 2) 1)))))
    (fun u l r=>jR (Nat.beq k 0) (.n v l r) (jR (Nat.beq (Nat.mod k 2) 1) (.n u (ih l (Nat.div k 2)) r) (.n u l (ih r (Nat.sub (Nat.div k 2) 1)))))) f
def T.set{Z:Type}(t:T Z)(k:Nat)(v:Option Z):T Z:=jS v (k+1) t k
inductive Sx where
 |var (i:Nat)
 |lit (n:Int)
 |bin (op:BinOp) (k:IntKind) (a b:Sx)
 |conv (k:IntKind) (a:Sx)
inductive AV where
 |int (k:IntKind) (n:Int)
 |sx (k:IntKind) (e:Sx)
 |bool (b:Bool)
 |str (s:List UInt8)
 |nilP|nilM|nilF|nilS
 |ptr (r:Nat) (off:Nat)
 |iptr (cs:List AV)
 |sl (r off len z:Nat)
 |lst (xs:List (List AV))
 |map (r:Nat)
 |clo (f:Nat) (cap:List AV)
 |agg (cs:List AV)
 |tup (vs:List AV)
inductive HB where
 |cells (cs:List AV) (imm:Nat) (tip:Bool)
 |map (es:List (AV×AV))
structure Hp where
 next:Nat
 t:T HB
def Hp.get(h:Hp)(r:Nat):Option HB:=h.t.get r
def Hp.set(h:Hp)(r:Nat)(b:HB):Hp:={next:=h.next,t:=h.t.set r (some b) }
def Hp.kill(h:Hp)(r:Nat):Hp:={next:=h.next,t:=h.t.set r none}
def Hp.alloc(h:Hp)(b:HB):Hp:={next:=h.next+1,t:=h.t.set h.next (some b) }
inductive Plan where
 |text
 |perm (ord:List Nat)
 |split (p q:Nat) (a b:Plan)
structure Cfg where
 keep:FuncId->Bool
 dec:BinOp->Sx->Sx->Option Bool:=fun _ _ _=>none
 call:FuncId->List AV->Option AV:=fun _ _=>none
 ice:FuncId->Bool:=fun _=>false
 plan:FuncId->Nat->Plan:=fun _ _=>.text
 froz:FuncId->Bool:=fun _=>false
abbrev aw:=T AV
def zmx:AV:=.tup []
def aw.at(E:aw)(t:Nat):AV:=(T.get E t).getD zmx
def yq:Value->Option AV
 | .int k n=>some (.int k n)
 | .bool b=>some (.bool b)
 | .string s=>some (.str s.data.toList)
 | .pointer none=>some .nilP
 | .slice none 0 0=>some .nilS
 | .map none=>some .nilM
 | .nilFunc=>some .nilF
 |_=>none
def wF:Value->Option AV
 | .agg z=>(z.toList.mapM yq).map .agg
 |v=>yq v
def zk4(E:aw):Operand->Option AV
 | .tmp t=>some (E.at t)
 | .const v=>wF v
 | .global _=>none
 | .func f=>some (.clo f [])
def znk(E:aw):List Operand->Option (List AV)
 |[]=>some []
 |x::xs=>match zk4 E x,znk E xs with
  |some v,some vs=>some (v::vs)
  |_,_=>none
def AV.cells:AV->List AV
 | .agg z=>z
 |v=>[v]
def AV.one:AV->Bool
 | .agg _|.tup _=>false
 |_=>true
section
variable (P:Program)
def zlq(t:TypeId):Option Nat:=(P.info? t).map (·.size)
def zmg(t:TypeId):Option Nat:=(P.info? t).map (·.bytes)
def sq(t:TypeId):Option AV:=
 match P.info? t with
 |some {zero:=some z,.. }=>wF z
 |_=>none
def zlV(t:TypeId):Option (List AV):=
 match sq P t with
 |some v=>some v.cells
 |none=>none
def zlh(t:TypeId)(cs:List AV)(off:Nat):Option AV:=
 match P.underlying t with
 |some (.struct _)|some (.array _ _)=>
  match zlq P t with
  |some s=>let l:=(cs.drop off).take s;if l.length=s then some (.agg l)else none
  |none=>none
 |some _=>cs[off]?
 |none=>none
def iN(H:Hp)(t:TypeId):AV->Option AV
 | .ptr r U=>match H.get r with
   |some (.cells z _ _)=>zlh P t z U
   |_=>none
 | .iptr z=>zlh P t z 0
 |_=>none
def splice(cs:List AV)(off:Nat)(V:List AV):List AV:=cs.take off++V++cs.drop (off+V.length)
def lS(H:Hp)(t:TypeId)(a v:AV):Option Hp:=
 match a with
 | .ptr r U=>match H.get r,zlq P t with
   |some (.cells z m Y),some s=>
    if v.cells.length=s/\m<=U/\U+s<=z.length/\v.cells.all AV.one then some (H.set r (.cells (splice z U v.cells) m Y))else none
   |_,_=>none
 |_=>none
def zlg(t:TypeId)(a:AV)(i:Nat):Option AV:=
 match P.underlying t with
 |some (.struct C)=>match C[i]? with
  |some f=>match zlq P f.type with
   |some (_+1)=>match a with
    | .ptr r U=>some (.ptr r (U+f.offset))
    | .iptr z=>some (.iptr (z.drop f.offset))
    |_=>none
   |_=>none
  |none=>none
 |_=>none
def zlW(t:TypeId)(x:AV)(i:Nat):Option AV:=
 match P.underlying t,x with
 |some (.struct C),.agg z=>match C[i]? with
  |some f=>zlh P f.type z f.offset
  |none=>none
 |_,_=>none
def zkT(n:Int):Option Nat:=match n with|.ofNat k=>some k |_=>none
def zlO(t:TypeId)(x i:AV):Option AV:=
 match i with
 | .int _ (.ofNat k)=>match P.underlying t with
   |some (.slice e)=>match zlq P e with
    |some s=>match x with
     | .sl r U Z _=>if k<Z then some (.ptr r (U+k*s))else none
     | .lst z=>match z[k]? with
       |some V=>if V.length=s then some (.iptr V)else none
       |none=>none
     |_=>none
    |none=>none
   |some (.array n e)=>match zlq P e with
    |some s=>match x with
     | .ptr r U=>if k<n then some (.ptr r (U+k*s))else none
     |_=>none
    |none=>none
   |_=>none
 |_=>none
def qC(t:TypeId)(x i:AV):Option AV:=
 match i with
 | .int _ (.ofNat k)=>match P.underlying t,x with
   |some .string,.str s=>match s[k]? with
    |some b=>some (.int .u8 b.toNat)
    |none=>none
   |some (.array n e),.agg z=>if k<n then (match zlq P e with|some s=>zlh P e z (k*s)|none=>none)else none
   |_,_=>none
 |_=>none
def znd(d:Nat):Option AV->Option Nat
 |none=>some d
 |some (.int _ (.ofNat k))=>some k
 |some _=>none
def jT(t:TypeId)(x:AV)(lo I:Option AV):Option AV:=
 match P.underlying t,x with
 |some .string,.str s=>
  match znd 0 lo,znd s.length I with
  |some l,some h=>if l<=h/\h<=s.length then some (.str ((s.drop l).take (h-l)))else none
  |_,_=>none
 |some (.slice e),x=>match zlq P e with
  |some z=>match x with
   | .sl r Z U m=>match znd 0 lo,znd U I with
     |some l,some h=>if l<=h/\h<=U/\m=z then (if l=h then some (.lst [])else some (.sl r (Z+l*z) (h-l) z))else none
     |_,_=>none
   | .lst Y=>match znd 0 lo,znd Y.length I with
     |some l,some h=>if l<=h/\h<=Y.length then (match (Y.drop l).take (h-l)with
      |[]=>some (.lst [])
      |row::rows=>if row.length=z then some (.lst (row::rows))else none)else none
     |_,_=>none
   | .nilS=>match znd 0 lo,znd 0 I with
     |some 0,some 0=>some .nilS
     |_,_=>none
   |_=>none
  |none=>none
 |_,_=>none
def pC(H:Hp)(t:TypeId)(x:AV)(lo I:Option AV):Option AV:=
 match x with
 | .ptr r U=>match P.underlying t,H.get r with
   |some (.array n e),some (.cells Z _ _)=>match zlq P e,znd 0 lo,znd n I with
    |some z,some l,some h=>if l<=h/\h<=n/\U+n*z<=Z.length then (if l=h then some (.lst [])else some (.sl r (U+l*z) (h-l) z))else none
    |_,_,_=>none
   |_,_=>none
 |x=>jT P t x lo I
def rB(K:Nat->Option (Nat×Nat))(cells:List AV):List (Nat×AV)->Option (List AV)
 |[]=>some cells
 |(i,v)::rest=>match K i with
  |none=>none
  |some (U,M)=>if v.cells.length≠M\/U+v.cells.length > cells.length then none else rB K (splice cells U v.cells) rest
def lT(E:aw):List (Nat×Operand)->Option (List (Nat×AV))
 |[]=>some []
 |(i,x)::rest=>match zk4 E x,lT E rest with
  |some v,some vs=>some ((i,v)::vs)
  |_,_=>none
def J5(C:List Field):Option (List (Nat×Nat)):=C.mapM fun f=>(P.info? f.type).map fun i=>(f.offset,i.size)
def zma(t:TypeId)(I:List (Nat×AV)):Option AV:=
 match zlV P t,P.underlying t with
 |some z,some (.struct C)=>match J5 P C.toList with
  |some O=>match rB (fun i=>O[i]?) z I with
   |some Z=>some (.agg Z)
   |none=>none
  |none=>none
 |some z,some (.array _ e)=>match zlq P e with
  |some s=>match rB (fun i=>some (i*s,s)) z I with
   |some Z=>some (.agg Z)
   |none=>none
  |none=>none
 |_,_=>none
def mw(z:List AV):Nat->List AV
 |0=>[]
 |n+1=>z++mw z n
def zmb(H:Hp)(t:TypeId)(len:Nat)(I:List (Nat×AV)):Option (AV×Hp):=
 match P.underlying t with
 |some (.slice e)=>match zlq P e,zlV P e with
  |some s,some z=>if len*s<=16777216/\z.length=s then (match rB (fun i=>some (i*s,s)) (mw z len) I with
   |some Z=>some (.sl H.next 0 len s,H.alloc (.cells Z 0 true))
   |none=>none)else none
  |_,_=>none
 |_=>none
def zmr:Nat:=70368744177664   -- 2^46
def zmM(H:Hp)(s:Nat):AV->Option (Nat×List AV)
 | .sl r Z U _=>match H.get r with
   |some (.cells Y _ _)=>let l:=(Y.drop Z).take (U*s);if l.length=U*s then some (U,l)else none
   |_=>none
 | .lst z=>if z.all (fun V=>V.length == s)then some (z.length,z.flatten)else none
 | .nilS=>some (0,[])
 | .str b=>if s=1 then some (b.length,b.map fun x=>.int .u8 x.toNat)else none
 |_=>none
def znM(keep:Bool)(H:Hp)(s b:Nat)(o:AV)(n:Nat)(V:List AV):Option (AV×Hp):=
 match o with
 | .nilS=>if n*b<=zmr/\n<=zmr then some (.sl H.next 0 n s,H.alloc (.cells V 0 true))else none
 | .sl r Z U z=>match H.get r with
   |some (.cells Y m true)=>
    if (U+n)*b<=zmr/\U+n<=zmr/\Z+U*s=Y.length/\z=s/\m<=Y.length then
     (if keep then some (.sl H.next 0 (U+n) s,(H.set r (.cells Y Y.length false)).alloc (.cells (Y.drop Z++V) (U*s) true))
      else some (.sl H.next 0 (U+n) s,(H.kill r).alloc (.cells (Y.drop Z++V) (m-Z) true)))
    else none
   |_=>none
 |_=>none
def iC(keep:Bool)(H:Hp)(s:Nat):AV->Hp
 | .sl r U Z _=>match H.get r with
   |some (.cells z m true)=>match !keep&&Nat.blt (U+Z*s) z.length&&Nat.ble m (U+Z*s)with
    |true=>H.set r (.cells (z.take (U+Z*s)) m true)
    |false=>H
   |_=>H
 |_=>H
def znh(t:TypeId):Bool:=
 match P.underlying t with
 |some (.slice _)|some .string=>true
 |_=>false
def zmc(keep:Bool)(H:Hp)(t u:TypeId)(o x:AV):Option (AV×Hp):=
 match P.underlying t with
 |some (.slice e)=>match zlq P e,zmg P e,zlV P e with
  |some s,some b,some z=>match znh P u,zmM H s x with
   |true,some (0,_)=>match o with
    | .sl ..|.lst _|.nilS=>some (o,H)
    |_=>none
   |true,some (n,V)=>if V.all AV.one/\z.length=s then znM keep (iC keep H s o) s b o n V else none
   |_,_=>none
  |_,_,_=>none
 |_=>none
def pD(I:TypeDesc)(x y:AV):Option Bool:=
 match I with
 | .int _=>match x,y with
   | .int k a,.int k' b=>if k=k' then some (a == b)else none
   |_,_=>none
 | .string=>match x,y with
   | .str a,.str b=>some (a == b)
   |_,_=>none
 | .bool=>match x,y with
   | .bool a,.bool b=>some (a == b)
   |_,_=>none
 |_=>none
def nH(t:TypeId):Option TypeDesc:=
 match P.underlying t with
 |some (.int k)=>some (.int k)
 |some .string=>some .string
 |some .bool=>some .bool
 |_=>none
def zmS(I:TypeDesc)(k:AV):List (AV×AV)->Nat->Option (Option (Nat×AV))
 |[],_=>some none
 |(k',v)::es,i=>match pD I k k' with
  |some true=>some (some (i,v))
  |some false=>zmS I k es (i+1)
  |none=>none
def uY(H:Hp):AV->Option (List (AV×AV))
 | .nilM=>some []
 | .map r=>match H.get r with
   |some (.map I)=>some I
   |_=>none
 |_=>none
def yr(ok:Bool)(v:AV)(Y:Bool):AV:=match ok with
 |true=>.tup [v,.bool Y]
 |false=>v
def jK(H:Hp)(t:TypeId)(m k:AV)(ok:Bool):Option AV:=
 match P.underlying t with
 |some (.map J e)=>match uY H m,nH P J with
  |some Z,some I=>match zmS I k Z 0 with
   |some (some (_,v))=>some (yr ok v true)
   |some none=>match sq P e with
    |some v=>some (yr ok v false)
    |none=>none
   |none=>none
  |_,_=>none
 |_=>none
def znN(H:Hp)(t:TypeId)(m k v:AV):Option Hp:=
 match P.underlying t with
 |some (.map J _)=>match m,nH P J with
  | .map r,some I=>match H.get r with
    |some (.map Z)=>match zmS I k Z 0 with
     |some (some (i,_))=>some (H.set r (.map (Z.set i (k,v))))
     |some none=>some (H.set r (.map (Z++[(k,v)])))
     |none=>none
    |_=>none
  |_,_=>none
 |_=>none
def tN:List UInt8->List UInt8->Bool
 |_,[]=>false
 |[],_::_=>true
 |a::x,b::y=>a<b||(a == b&&tN x y)
def znx(op:BinOp)(k:IntKind)(a b:Int):Option AV:=
 match op with
 | .add=>some (.int k (k.wrap (a+b)))
 | .sub=>some (.int k (k.wrap (a-b)))
 | .mul=>some (.int k (k.wrap (a*b)))
 | .quo=>if b=0 then none else some (.int k (k.wrap (a.tdiv b)))
 | .rem=>if b=0 then none else some (.int k (a.tmod b))
 | .and=>some (.int k (k.wrap (BitVec.ofInt k.bits a &&& BitVec.ofInt k.bits b).toNat))
 | .or=>some (.int k (k.wrap (BitVec.ofInt k.bits a |||BitVec.ofInt k.bits b).toNat))
 | .xor=>some (.int k (k.wrap (BitVec.ofInt k.bits a^^^ BitVec.ofInt k.bits b).toNat))
 | .andNot=>some (.int k (k.wrap (BitVec.ofInt k.bits a &&& ~~~ BitVec.ofInt k.bits b).toNat))
 | .eql=>some (.bool (a == b))
 | .neq=>some (.bool (a != b))
 | .lss=>some (.bool (a<b))
 | .leq=>some (.bool (a<=b))
 | .gtr=>some (.bool (a > b))
 | .geq=>some (.bool (a>=b))
 |_=>none
def E6(op:BinOp)(k:IntKind)(a b:Int):Int:=
 match znx op k a b with
 |some (.int _ n)=>n
 |_=>0
def Sx.eval(ρ:Nat->Int):Sx->Int
 | .var i=>ρ i
 | .lit n=>n
 | .bin V k a b=>E6 V k (a.eval ρ) (b.eval ρ)
 | .conv k a=>k.wrap (a.eval ρ)
def Bj:AV->Option (IntKind×Sx)
 | .int k n=>some (k,.lit n)
 | .sx k e=>some (k,e)
 |_=>none
def E7(D:BinOp->Sx->Sx->Option Bool)(op:BinOp)(k:IntKind)(a b:Sx):Option AV:=
 match op with
 | .add=>some (.sx k (.bin .add k a b))
 | .sub=>some (.sx k (.bin .sub k a b))
 | .mul=>some (.sx k (.bin .mul k a b))
 | .and=>some (.sx k (.bin .and k a b))
 | .or=>some (.sx k (.bin .or k a b))
 | .xor=>some (.sx k (.bin .xor k a b))
 | .andNot=>some (.sx k (.bin .andNot k a b))
 | .quo=>match D .eql b (.lit 0)with
   |some false=>some (.sx k (.bin .quo k a b))
   |_=>none
 | .rem=>match D .eql b (.lit 0)with
   |some false=>some (.sx k (.bin .rem k a b))
   |_=>none
 | .shl=>none
 | .shr=>none
 |op=>match D op a b with
  |some r=>some (.bool r)
  |none=>none
def Bk(D:BinOp->Sx->Sx->Option Bool)(op:BinOp)(x y:AV):Option AV:=
 match Bj x,Bj y with
 |some (k,a),some (k',b)=>if k=k' then E7 D op k a b else none
 |_,_=>none
def wG(op:BinOp)(a b:List UInt8):Option AV:=
 match op with
 | .add=>if a.length+b.length<=zmr then some (.str (a++b))else none
 | .eql=>some (.bool (a == b))
 | .neq=>some (.bool !(a == b))
 | .lss=>some (.bool (tN a b))
 | .leq=>some (.bool (tN a b||a == b))
 | .gtr=>some (.bool !(tN a b||a == b))
 | .geq=>some (.bool !(tN a b))
 |_=>none
def Bl(t:TypeId)(x y:AV):Option Bool:=
 match P.underlying t with
 |some .bool=>match x,y with
  | .bool a,.bool b=>some (a == b)
  |_,_=>none
 |some (.pointer _)=>match x,y with
  | .nilP,.nilP=>some true
  | .ptr _ _,.nilP|.nilP,.ptr _ _|.iptr _,.nilP|.nilP,.iptr _=>some false
  |_,_=>none
 |some (.map _ _)=>match x,y with
  | .nilM,.nilM=>some true
  | .map _,.nilM|.nilM,.map _=>some false
  |_,_=>none
 |some (.func _ _ _)=>match x,y with
  | .nilF,.nilF=>some true
  | .clo _ _,.nilF|.nilF,.clo _ _=>some false
  |_,_=>none
 |some (.slice _)=>match x,y with
  | .nilS,.nilS=>some true
  | .sl _ _ _ _,.nilS|.nilS,.sl _ _ _ _|.lst (_::_),.nilS|.nilS,.lst (_::_)=>some false
  |_,_=>none
 |_=>none
def E8(t:TypeId)(x y:AV):Option Bool:=
 match x,y with
 | .int k a,.int k' b=>match P.underlying t with
   |some (.int _)=>if k=k' then some (a == b)else none
   |_=>none
 | .str a,.str b=>match P.underlying t with
   |some .string=>some (a == b)
   |_=>none
 |x,y=>Bl P t x y
def wH(xs z:List AV):List Field->Option Bool
 |[]=>some true
 |f::fs=>match f.name == "_" with
  |true=>wH xs z fs
  |false=>match zlh P f.type xs f.offset,zlh P f.type z f.offset with
   |some a,some b=>match E8 P f.type a b with
    |some true=>wH xs z fs
    |some false=>some false
    |none=>none
   |_,_=>none
def Bm(t:TypeId)(xs z:List AV):Option Bool:=
 match P.underlying t with
 |some (.struct C)=>match P.stoodInHeld t||P.eqGuardType P.depth t with
  |true=>none
  |false=>wH P xs z C.toList
 |_=>none
def uZ(t:TypeId)(x y:AV):Option Bool:=
 match x,y with
 | .agg z,.agg Z=>Bm P t z Z
 |x,y=>Bl P t x y
def wI(op:BinOp)(k:IntKind)(a b:Int):Option AV:=
 match b with
 | .ofNat m=>match op with
   | .shl=>some (.int k (k.wrap (a*2^ min m k.bits)))
   | .shr=>some (.int k (a.fdiv (2^ min m k.bits)))
   |_=>none
 |_=>none
def tO(op:BinOp)(k C:IntKind)(a b:Int):Option AV:=
 match op with
 | .shl=>wI .shl k a b
 | .shr=>wI .shr k a b
 |op=>if k=C then znx op k a b else none
def E9(op:BinOp)(t:TypeId)(x y:AV):Option AV:=
 match op with
 | .eql=>match uZ P t x y with
   |some b=>some (.bool b)
   |none=>none
 | .neq=>match uZ P t x y with
   |some b=>some (.bool !b)
   |none=>none
 |_=>none
def zmt(D:BinOp->Sx->Sx->Option Bool)(op:BinOp)(t:TypeId)(x y:AV):Option AV:=
 match x,y with
 | .int k a,.int k' b=>tO op k k' a b
 | .str a,.str b=>wG op a b
 | .sx k a,y=>Bk D op (.sx k a) y
 | .int k a,.sx k' b=>Bk D op (.int k a) (.sx k' b)
 |x,y=>E9 P op t x y
def tQ(op:UnOp)(x:AV):Option AV:=
 match op,x with
 | .neg,.sx k e=>some (.sx k (.bin .sub k (.lit 0) e))
 | .xor,.sx k e=>some (.sx k (.bin .xor k (.lit (if k.signed then -1 else k.max)) e))
 | .neg,.int k n=>znx .sub k 0 n
 | .xor,.int k n=>znx .xor k (if k.signed then -1 else k.max) n
 | .not,.bool b=>some (.bool !b)
 |_,_=>none
def u5:List AV->Option (List UInt8)
 |[]=>some []
 | .int .u8 n::cs=>match u5 cs with
   |some bs=>some (UInt8.ofNat n.toNat::bs)
   |none=>none
 |_=>none
def zny(H:Hp)(U J:TypeId)(x:AV):Option AV:=
 match P.underlying U,P.underlying J with
 |some (.slice e),some .string=>match P.underlying e with
  |some (.int .u8)=>match zmM H 1 x with
   |some (_,z)=>match u5 z with
    |some bs=>match x with
     | .sl _ _ _ _|.nilS=>some (.str bs)
     |_=>none
    |none=>none
   |none=>none
  |_=>none
 |some _,some (.int k)=>match x with
  | .int _ n=>some (.int k (k.wrap n))
  | .sx _ e=>some (.sx k (.conv k e))
  |_=>none
 |some .string,some .string=>match x with
  | .str s=>some (.str s)
  |_=>none
 |_,_=>none
def znz(H:Hp)(t:TypeId)(l c:AV):Option (AV×Hp):=
 match P.underlying t,l,c with
 |some (.slice e),.int _ (.ofNat l),.int _ (.ofNat c)=>match zlq P e,zmg P e,zlV P e with
  |some s,some b,some z=>if l<=c/\c*b<=zmr/\c<=zmr/\z.length=s then some (.sl H.next 0 l s,H.alloc (.cells (mw z l) 0 true))else none
  |_,_,_=>none
 |_,_,_=>none
def extract(x:AV)(i:Nat):Option AV:=
 match x with
 | .tup vs=>vs[i]?
 |_=>none
def mm(J:Bool):AV->AV->Option AV
 | .int k x,.int _ y=>some (.int k (if (if J then decide (y > x)else decide (y<x))then y else x))
 |_,_=>none
def tR(J:Bool)(x:AV):List AV->Option AV
 |[]=>some x
 |y::ys=>match mm J x y with
  |some z=>tR J z ys
  |none=>none
def zlS(H:Hp)(t:TypeId)(x:AV):Option AV:=
 match P.underlying t with
 |some .string=>match x with
  | .str s=>some (.int .i64 s.length)
  |_=>none
 |some (.slice _)=>match x with
  | .sl _ _ n _=>some (.int .i64 n)
  | .lst z=>some (.int .i64 z.length)
  | .nilS=>some (.int .i64 0)
  |_=>none
 |some (.array n _)=>some (.int .i64 n)
 |some (.map _ _)=>match uY H x with
  |some I=>some (.int .i64 I.length)
  |none=>none
 |_=>none
def rC(keep:Bool)(H:Hp)(b:Builtin)(I:List TypeId)(M:List AV):Option (AV×Hp):=
 match b with
 | .append=>match I,M with
   |[t,u],[s,x]=>zmc P keep H t u s x
   |_,_=>none
 | .len=>match I,M with
   |[t],[x]=>match zlS P H t x with
    |some v=>some (v,H)
    |none=>none
   |_,_=>none
 | .max=>match M with
   |x::xs=>match tR true x xs with
    |some v=>some (v,H)
    |none=>none
   |[]=>none
 | .min=>match M with
   |x::xs=>match tR false x xs with
    |some v=>some (v,H)
    |none=>none
   |[]=>none
 |_=>none
def ret(H:Hp):Option AV->Option (AV×Hp)
 |some v=>some (v,H)
 |none=>none
def Bn(E:aw)(H:Hp)(c a b:Operand):Option (AV×Hp):=
 match zk4 E c with
 |some (.bool true)=>ret H (zk4 E a)
 |some (.bool false)=>ret H (zk4 E b)
 |_=>none
def yu(H:Hp)(t:TypeId):Option (AV×Hp):=
 match zlV P t with
 |some z=>some (.ptr H.next 0,H.alloc (.cells z 0 true))
 |none=>none
def yw(E:aw)(H:Hp)(x:Operand):Option (AV×Hp):=
 match zk4 E x with
 |some v=>some (.ptr H.next 0,H.alloc (.cells v.cells 0 true))
 |none=>none
def Bo(E:aw)(H:Hp)(t:TypeId)(I:Array (Nat×Operand)):Option (AV×Hp):=
 match lT E I.toList with
 |some K=>ret H (zma P t K)
 |none=>none
def yx(E:aw)(H:Hp)(t:TypeId)(len:Nat)(I:Array (Nat×Operand)):Option (AV×Hp):=
 match lT E I.toList with
 |some K=>zmb P H t len K
 |none=>none
def yy(E:aw)(H:Hp)(t:TypeId)(a:Operand):Option (AV×Hp):=
 match zk4 E a with
 |some v=>ret H (iN P H t v)
 |none=>none
def Bp(E:aw)(H:Hp)(t:TypeId)(a x:Operand):Option (AV×Hp):=
 match zk4 E a,zk4 E x with
 |some a,some x=>match lS P H t a x with
  |some H=>some (zmx,H)
  |none=>none
 |_,_=>none
def Bq(E:aw)(H:Hp)(x:Operand):Option (AV×Hp):=
 match zk4 E x with
 |some (.ptr r o)=>some (.ptr r o,H)
 |some (.iptr z)=>some (.iptr z,H)
 |_=>none
def Br(D:BinOp->Sx->Sx->Option Bool)(E:aw)(H:Hp)(op:BinOp)(t:TypeId)(x y:Operand):Option (AV×Hp):=
 match zk4 E x,zk4 E y with
 |some x,some y=>ret H (zmt P D op t x y)
 |_,_=>none
def Bt(E:aw)(H:Hp)(op:UnOp)(x:Operand):Option (AV×Hp):=
 match zk4 E x with
 |some x=>ret H (tQ op x)
 |none=>none
def yz(E:aw)(H:Hp)(s d:TypeId)(x:Operand):Option (AV×Hp):=
 match zk4 E x with
 |some x=>ret H (zny P H s d x)
 |none=>none
def Bu(E:aw)(H:Hp)(Z:Fn)(first V:Array Operand):Option (AV×Hp):=
 match Z,first.toList,znk E V.toList with
 | .func f,[],some vs=>some (.clo f vs,H)
 |_,_,_=>none
def yA(H:Hp)(r:Option Operand):Option (AV×Hp):=
 match r with
 |none=>some (.map H.next,H.alloc (.map []))
 |some _=>none
def yB(E:aw)(H:Hp)(t:TypeId)(l c:Operand):Option (AV×Hp):=
 match zk4 E l,zk4 E c with
 |some l,some c=>znz P H t l c
 |_,_=>none
def lw(E:aw):Option Operand->Option (Option AV)
 |none=>some none
 |some x=>match zk4 E x with
  |some v=>some (some v)
  |none=>none
def yC(E:aw)(H:Hp)(t:TypeId)(x:Operand)(lo I J:Option Operand):Option (AV×Hp):=
 match J,zk4 E x,lw E lo,lw E I with
 |none,some x,some l,some h=>ret H (pC P H t x l h)
 |_,_,_,_=>none
def Bv(E:aw)(H:Hp)(t:TypeId)(x:Operand)(f:Nat):Option (AV×Hp):=
 match zk4 E x with
 |some x=>ret H (zlg P t x f)
 |none=>none
def Bw(E:aw)(H:Hp)(t:TypeId)(x:Operand)(f:Nat):Option (AV×Hp):=
 match zk4 E x with
 |some x=>ret H (zlW P t x f)
 |none=>none
def Bx(E:aw)(H:Hp)(t:TypeId)(x i:Operand):Option (AV×Hp):=
 match zk4 E x,zk4 E i with
 |some x,some i=>ret H (zlO P t x i)
 |_,_=>none
def By(E:aw)(H:Hp)(t:TypeId)(x i:Operand):Option (AV×Hp):=
 match zk4 E x,zk4 E i with
 |some x,some i=>ret H (qC P t x i)
 |_,_=>none
def yD(E:aw)(H:Hp)(t:TypeId)(m k:Operand)(ok:Bool):Option (AV×Hp):=
 match zk4 E m,zk4 E k with
 |some m,some k=>ret H (jK P H t m k ok)
 |_,_=>none
def Bz(E:aw)(H:Hp)(t:TypeId)(m k v:Operand):Option (AV×Hp):=
 match zk4 E m,zk4 E k,zk4 E v with
 |some m,some k,some v=>match znN P H t m k v with
  |some H=>some (zmx,H)
  |none=>none
 |_,_,_=>none
def BA(E:aw)(H:Hp)(x:Operand)(i:Nat):Option (AV×Hp):=
 match zk4 E x with
 |some x=>ret H (extract x i)
 |none=>none
def dH(D:BinOp->Sx->Sx->Option Bool)(E:aw)(H:Hp)(op:Op):Option (AV×Hp):=
 match op with
 | .move x=>ret H (zk4 E x)
 | .assign x=>ret H (zk4 E x)
 | .pick c a b=>Bn E H c a b
 | .alloc t=>yu P H t
 | .box _ x=>yw E H x
 | .build t I=>Bo P E H t I
 | .buildSlice t U I=>yx P E H t U I
 | .load t a=>yy P E H t a
 | .store t a x=>Bp P E H t a x
 | .nilCheck x=>Bq E H x
 | .binOp op t x y _=>Br P D E H op t x y
 | .unOp op _ x=>Bt E H op x
 | .convert s d x=>yz P E H s d x
 | .makeFunc Z first V=>Bu E H Z first V
 | .makeMap _ r=>yA H r
 | .makeSlice t l c=>yB P E H t l c
 | .slice t x lo Y J=>yC P E H t x lo Y J
 | .fieldAddr t x f=>Bv P E H t x f
 | .field t x f=>Bw P E H t x f
 | .indexAddr t x i=>Bx P E H t x i
 | .index t x i=>By P E H t x i
 | .lookup t m k ok=>yD P E H t m k ok
 | .mapUpdate t m k v=>Bz P E H t m k v
 | .extract x i=>BA E H x i
 |_=>none
inductive Task where
 |code (f:FuncId) (N:Nat) (c:Code) (E:aw) (H:Hp)
 |call (f:FuncId) (args:List AV) (H:Hp)
inductive AX where
 |normal|exit (id:Nat)|ret
inductive Res where
 |done (x:AX) (E:aw) (H:Hp)
 |val (v:AV) (H:Hp)
 |fail
def fQ(N:Nat)(E:aw)(J:Option Tmp)(v:AV):Option aw:=
 match J with
 |some d=>match Nat.blt d N with
  |true=>some (T.set E d (some v))
  |false=>none
 |none=>some E
def BB(ops:List Oper)(E:aw)(j:Nat):Option Bool:=
 match (ops[j]?).bind (·.dst)with
 |some d=>match E.at d with|.bool b=>some b |_=>none
 |none=>none
def znp(ops:List Oper)(E:aw)(o:Oper):Bool:=
 match o.guard with
 |none=>true
 |some (j,M)=>match BB ops E j with
  |some b=>b == M
  |none=>false
variable (cfg:Cfg)
def tS(ih:Task->Res)(f:FuncId)(E:aw)(H:Hp)(c:Call):Res:=
 match c.callee with
 | .value g=>match zk4 E g,znk E c.args.toList with
   |some (.clo k z),some vs=>ih (.call k (vs++z) H)
   |_,_=>.fail
 | .builtin b=>match znk E c.args.toList with
   |some vs=>match rC P (cfg.keep f) H b c.argTypes.toList vs with
    |some (v,H)=>.val v H
    |none=>.fail
   |none=>.fail
 |_=>.fail
def iD:Option (AV×Hp)->Res
 |some (v,H)=>.val v H
 |none=>.fail
def zmz(ih:Task->Res)(f:FuncId)(E:aw)(H:Hp)(op:Op):Res:=
 match op with
 | .call c=>tS P cfg ih f E H c
 |op=>iD (dH P cfg.dec E H op)
def Sx.beq:Sx->Sx->Bool
 | .var i,.var j=>Nat.beq i j
 | .lit a,.lit b=>a == b
 | .bin o k a b,.bin Z k' Y b'=>decide (o=Z)&&decide (k=k')&&Sx.beq a Y&&Sx.beq b b'
 | .conv k a,.conv k' b=>decide (k=k')&&Sx.beq a b
 |_,_=>false
mutual
def AV.beq:AV->AV->Bool
 | .int k a,.int k' b=>decide (k=k')&&(a == b)
 | .sx k a,.sx k' b=>decide (k=k')&&Sx.beq a b
 | .bool a,.bool b=>a == b
 | .str a,.str b=>a == b
 | .nilP,.nilP|.nilM,.nilM|.nilF,.nilF|.nilS,.nilS=>true
 | .ptr r o,.ptr C Z=>Nat.beq r C&&Nat.beq o Z
 | .iptr a,.iptr b=>my a b
 | .sl r o l z,.sl C Z J m=>Nat.beq r C&&Nat.beq o Z&&Nat.beq l J&&Nat.beq z m
 | .lst a,.lst b=>u7 a b
 | .map r,.map C=>Nat.beq r C
 | .clo f a,.clo M b=>Nat.beq f M&&my a b
 | .agg a,.agg b=>my a b
 | .tup a,.tup b=>my a b
 |_,_=>false
def my:List AV->List AV->Bool
 |[],[]=>true
 |a::x,b::y=>AV.beq a b&&my x y
 |_,_=>false
def u7:List (List AV)->List (List AV)->Bool
 |[],[]=>true
 |a::x,b::y=>my a b&&u7 x y
 |_,_=>false
end
inductive Kind where
 |calm   -- looks at no memory
 |read
 |make
 |act
def zm7:Op->Kind
 | .load ..|.lookup ..|.convert ..|.slice ..=>.read
 | .alloc _|.box ..|.buildSlice ..|.makeMap ..|.makeSlice ..=>.make
 | .store ..|.mapUpdate ..=>.act
 | .call c=>match c.callee with
   | .builtin .len|.builtin .max|.builtin .min=>.read
   |_=>.act
 |_=>.calm
structure Rec where
 o:Oper
 did:Bool
 E:aw
 H:Hp
 val:AV
 H':Hp
inductive ResD where
 |done (E:aw) (H:Hp) (rs:List Rec)
 |fail
def pE(r:Rec):ResD->ResD
 | .done E H rs=>.done E H (r::rs)
 | .fail=>.fail
def pF(M:aw->Hp->ResD)(H:Hp):Option aw->ResD
 |some E=>M E H
 |none=>.fail
def jW(ih:Task->Res)(f N:Nat)(I:List Oper):List Oper->aw->Hp->ResD
 |[],E,H=>.done E H []
 |o::rest,E,H=>match znp I E o with
  |true=>match zmz P cfg ih f E H o.op with
   | .val v H'=>pE ⟨o,true,E,H,v,H'⟩ (pF (jW ih f N I rest) H' (fQ N E o.dst v))
   |_=>.fail
  |false=>pE ⟨o,false,E,H,zmx,H⟩ (pF (jW ih f N I rest) H (fQ N E o.dst zmx))
def preds(o:Oper):List Nat:=(o.after.toList.filter (Region.binds .any)).map (·.on)
def wJ:List Nat->List Nat->List Nat
 |acc,[]=>acc
 |acc,x::xs=>match acc.contains x with
  |true=>wJ acc xs
  |false=>wJ (x::acc) xs
def yE(l:List Nat):List Nat:=wJ [] l
def i7:List Oper->List (List Nat)->List (List Nat)
 |[],acc=>acc
 |o::rest,acc=>i7 rest (acc++[yE (preds o++(preds o).flatMap fun i=>acc.getD i [])])
def J6(o:Oper):List Nat:=o.dst.toList++o.op.operands.toList.filterMap fun|.tmp t=>some t |_=>none
def tT(I:List Oper)(o:Oper):List Nat:=J6 o++(match o.guard with|some (j,_)=>((I[j]?).bind (·.dst)).toList|none=>[])
def nI(o:Oper):Bool:=match zm7 o.op with|.act=>true |_=>false
def tU(o:Oper):Bool:=match zm7 o.op with|.make=>true |_=>false
def clash(I:List Oper)(p q:Oper):Bool:=
 (nI p&&(nI q||tU q)) ||
 (p.dst.toList.any fun d=>(tT I q).contains d)||(q.dst.toList.any fun d=>(tT I p).contains d)
def nJ(I:List Oper):Bool:=
 let A:=i7 I []
 (List.range I.length).all fun j=>match I[j]? with
   |none=>true
   |some q=>(preds q).all (·< j)&&(match q.guard with|some (g,_)=>(A.getD j []).contains g|none=>true) &&
    (List.range j).all fun i=>match I[i]? with
      |none=>true
      |some p=>!clash I p q||(A.getD j []).contains i
def jX(ops:List Oper):List Nat:=(List.range ops.length).filter fun i=>match ops[i]? with
 |some o=>nI o
 |none=>false
def zlR(rs:List Rec)(H':Hp)(e:Nat):Hp:=match rs[e]? with
 |some r=>r.H
 |none=>H'
def HB.beq:HB->HB->Bool
 | .cells a i t,.cells b j u=>my a b&&Nat.beq i j&&(t == u)
 | .map a,.map b=>my (a.map (·.1)) (b.map (·.1))&&my (a.map (·.2)) (b.map (·.2))
 |_,_=>false
def zei(r:Rec)(H:Hp):Bool:=
 match zm7 r.o.op with
 | .read=>match zmz P cfg (fun _=>.fail) 0 r.E H r.o.op with
   | .val v _=>AV.beq v r.val
   |_=>false
 | .make=>match H.get r.H.next,r.H'.get r.H.next with
   |some b,some b'=>HB.beq b b'
   |_,_=>false
 |_=>true
def BC(A:List (List Nat))(Z:List Nat)(i m:Nat):Bool:=
 !(Z.any (fun e=>(A.getD i []).contains e&&Nat.ble m e)||Z.any (fun e=>(A.getD e []).contains i&&Nat.blt e m))
def mz(ops:List Oper):List (Nat×Nat):=
 (List.range ops.length).flatMap fun i=>match ops[i]? with
   |some o=>match zm7 o.op with
    | .read|.make=>((jX ops++[ops.length]).filter (BC (i7 ops []) (jX ops) i)).map fun m=>(i,m)
    |_=>[]
   |none=>[]
def u9(need:List (Nat×Nat))(rs:List Rec)(H':Hp):Bool:=
 rs.all (fun r=>Nat.ble r.H.next r.H'.next)&&need.all fun p=>match rs[p.1]? with
  |some r=>!r.did||zei P cfg r (zlR rs H' p.2)
  |none=>true
def zns(ih:Task->Res)(f N:Nat)(ops:List Oper)(E:aw)(H:Hp):Res:=
 match nJ ops with
 |true=>match jW P cfg ih f N ops ops E H with
  | .done E' H' rs=>match u9 P cfg (mz ops) rs H' with
    |true=>.done .normal E' H'
    |false=>.fail
  | .fail=>.fail
 |false=>.fail
def jt:List Nat->Nat->Nat
 |[],_=>0
 |x::xs,i=>match Nat.beq x i with
  |true=>0
  |false=>jt xs i+1
def sr(ord:List Nat)(o:Oper):Oper:=
 {o with after:=((o.after.toList.filter (Region.binds .any)).map fun e=>{e with on:=jt ord e.on}).toArray,guard:=match o.guard with|some (j,b)=>some (jt ord j,b)|none=>none}
def zmE(ord:List Nat)(l:List Oper):List Oper:=ord.filterMap fun i=>match l[i]? with
 |some o=>some (sr ord o)
 |none=>none
def vc(ord:List Nat)(l:List Oper):Bool:=
 Nat.beq ord.length l.length &&
 (List.range l.length).all (fun k=>(match ord[k]? with|some i=>Nat.blt i l.length&&Nat.beq (jt ord i) k|none=>false)&&Nat.blt (jt ord k) l.length&&(match ord[jt ord k]? with|some i=>Nat.beq i k|none=>false)) &&
 l.all (fun o=>(preds o).all (fun p=>Nat.blt p l.length)&&(match o.guard with|some (j,_)=>Nat.blt j l.length|none=>true))
def eJ(q p:Nat)(l:List Oper):List Oper:=match l[q]? with
 |some o=>l.set q {o with after:=o.after.push {on:=p,ground:=.data} }
 |none=>l
def T.beq{Z:Type}(O:Z->Z->Bool):T Z->T Z->Bool
 | .e,.e=>true
 | .n v l r,.n o J C=>(match v,o with|some a,some b=>O a b|none,none=>true |_,_=>false)&&T.beq O l J&&T.beq O r C
 |_,_=>false
def yF(ops:List Oper)(O U:aw)(Y I:Hp):Bool:=
 ops.all (fun o=>match o.dst with|some d=>AV.beq (O.at d) (U.at d)|none=>true)&&Nat.beq Y.next I.next&&T.beq HB.beq Y.t I.t
def tV(ops:List Oper):Res->Res->Res
 | .done .normal E1 H1,.done .normal U I=>match yF ops E1 U H1 I with
   |true=>.done .normal E1 H1
   |false=>.fail
 |_,_=>.fail
def znt(ih:Task->Res)(f N:Nat)(E:aw)(H:Hp):Plan->List Oper->Res
 | .text,ops=>zns P cfg ih f N ops E H
 | .perm ord,ops=>match vc ord ops with
   |true=>zns P cfg ih f N (zmE ord ops) E H
   |false=>.fail
 | .split p q a b,ops=>match Nat.beq p q with
   |true=>.fail
   |false=>tV ops (znt ih f N E H a (eJ q p ops)) (znt ih f N E H b (eJ p q ops))
def znA(M:aw->Hp->Res)(H:Hp):Option aw->Res
 |some E=>M E H
 |none=>.fail
def kU(ih:Task->Res)(f N:Nat)(I:List Oper)(ops:List Oper):aw->Hp->Res:=
 List.rec (motive:=fun _=>aw->Hp->Res) (fun E H=>.done .normal E H)
  (fun o _ M E H=>match znp I E o with
    |true=>match zmz P cfg ih f E H o.op with
     | .val v H=>znA M H (fQ N E o.dst v)
     |_=>.fail
    |false=>znA M H (fQ N E o.dst zmx)) ops
def yG:Nat->aw
 |0=>.e
 |d+1=>.n (some zmx) (yG d) (yG d)
def vd(N:Nat):aw:=yG (Nat.log2 N+1)
def zD:Nat->List AV->aw->aw
 |_,[],E=>E
 |i,v::vs,E=>zD (i+1) vs (T.set E i (some v))
def zl1(E:aw)(H:Hp):ResultVar->Option AV
 | .tmp t=>some (E.at t)
 | .cell a t=>iN P H t (E.at a)
def zlX(E:aw)(H:Hp):List ResultVar->Option (List AV)
 |[]=>some []
 |r::rs=>match zl1 P E H r,zlX E H rs with
  |some v,some vs=>some (v::vs)
  |_,_=>none
def zkX:List AV->AV
 |[v]=>v
 |vs=>.tup vs
def wK(rs:List ResultVar)(E:aw)(H:Hp):Res:=
 match zlX P E H rs with
 |some vs=>.val (zkX vs) H
 |none=>.fail
def pG(ih:Task->Res)(f:FuncId)(M:List AV)(H:Hp):Res:=
 match P.funcs[f]? with
 |some V=>match V.body with
  |some c=>match ih (.code f (max V.ntmps M.length) c (zD 0 M (vd (max V.ntmps M.length))) H)with
   | .done .normal E H=>wK P V.results.toList E H
   | .done .ret E H=>wK P V.results.toList E H
   |_=>.fail
  |none=>.fail
 |none=>.fail
def pH(ih:Task->Res)(f N:Nat)(b:Code):Res->Res
 | .done .normal E H=>ih (.code f N b E H)
 |r=>r
def znO(id:Nat):Res->Res
 | .done (.exit C) E H=>match Nat.beq C id with
   |true=>.done .normal E H
   |false=>.done (.exit C) E H
 |r=>r
def ve(ih:Task->Res)(f N:Nat)(x:Operand)(a b:Code)(E:aw)(H:Hp):Res:=
 match zk4 E x with
 |some (.bool true)=>ih (.code f N a E H)
 |some (.bool false)=>ih (.code f N b E H)
 |_=>.fail
def gN(z:Nat):Nat->List AV->List (List AV)
 |0,_=>[]
 |n+1,l=>l.take z::gN z n (l.drop z)
def gO(g:AV->Hp->Option (AV×Hp)):List AV->Hp->Option (List AV×Hp)
 |[],H=>some ([],H)
 |c::cs,H=>match g c H with
  |some (d,H)=>match gO g cs H with
   |some (Y,H)=>some (d::Y,H)
   |none=>none
  |none=>none
def fh:Nat->AV->Hp->Option (AV×Hp)
 |0,_,_=>none
 |n+1,v,H=>match v with
  | .sl r Z U z=>match H.get r with
    |some (.cells Y m V)=>match Nat.ble (Z+U*z) Y.length&&Nat.ble m Y.length with
     |true=>match gO (fh n) ((Y.drop Z).take (U*z)) (H.set r (.cells Y (max m (Z+U*z)) V))with
      |some (l,H)=>some (.lst (gN z U l),H)
      |none=>none
     |false=>none
    |_=>none
  | .agg Y=>match gO (fh n) Y H with
    |some (O,H)=>some (.agg O,H)
    |none=>none
  | .ptr _ _=>none
  | .map _=>none
  |v=>some (v,H)
def yH(ih:Task->Res)(f:FuncId)(M:List AV)(H:Hp):Option (List AV×Hp)->Res
 |some (I,H')=>match cfg.call f I with
  |some r=>.val r H'
  |none=>pG P ih f M H
 |none=>pG P ih f M H
def wL:Bool->Res->Res
 |true,.val v H=>iD (fh 100 v H)
 |_,r=>r
def pI(ih:Task->Res)(f:FuncId)(M:List AV)(H:Hp):Res:=match cfg.ice f with
 |true=>yH P cfg ih f M H (gO (fh 100) M H)
 |false=>pG P ih f M H
def step(ih:Task->Res):Task->Res
 | .call f M H=>match cfg.call f M with
   |some r=>.val r H
   |none=>wL (cfg.froz f) (pI P cfg ih f M H)
 | .code f N c E H=>match c with
   | .skip=>.done .normal E H
   | .region id ops draw=>match draw with
     |false=>kU P cfg ih f N ops.toList ops.toList E H
     |true=>znt P cfg ih f N E H (cfg.plan f id) ops.toList
   | .seq a b=>pH ih f N b (ih (.code f N a E H))
   | .cond x a b=>ve ih f N x a b E H
   | .block id a=>znO id (ih (.code f N a E H))
   | .loop a=>pH ih f N (.loop a) (ih (.code f N a E H))
   | .exit id=>.done (.exit id) E H
   | .ret=>.done .ret E H
   |_=>.fail
def zmi(n:Nat):Task->Res:=Nat.rec (motive:=fun _=>Task->Res) (fun _=>.fail) (fun _ ih=>step P cfg ih) n
end
def zlv:Hp:={next:=0,t:=.e}
def iceL(g:AV->Option AV):List AV->Option (List AV)
 |[]=>some []
 |c::cs=>match g c,iceL g cs with
  |some d,some Y=>some (d::Y)
  |_,_=>none
def tW(g:AV->Option AV):List (List AV)->Option (List (List AV))
 |[]=>some []
 |c::cs=>match iceL g c,tW g cs with
  |some d,some Y=>some (d::Y)
  |_,_=>none
def iceV(H:Hp):Nat->AV->Option AV
 |0,_=>none
 |n+1,v=>match v with
  | .sl r Y U z=>match H.get r with
    |some (.cells Z _ _)=>match iceL (iceV H n) ((Z.drop Y).take (U*z))with
     |some l=>if l.length=U*z then some (.lst (gN z U l))else none
     |none=>none
    |_=>none
  | .lst O=>match tW (iceV H n) O with
    |some M=>some (.lst M)
    |none=>none
  | .agg Z=>match iceL (iceV H n) Z with
    |some V=>some (.agg V)
    |none=>none
  | .tup Z=>match iceL (iceV H n) Z with
    |some V=>some (.tup V)
    |none=>none
  | .int k a=>some (.int k a)
  | .sx k e=>some (.sx k e)
  | .bool b=>some (.bool b)
  | .str s=>some (.str s)
  | .nilP=>some .nilP
  | .nilM=>some .nilM
  | .nilF=>some .nilF
  | .nilS=>some .nilS
  |_=>none
def yI(P:Program)(cfg:Cfg)(n m:Nat)(f:FuncId)(M:List AV):Option AV:=
 match zmi P cfg n (.call f M zlv)with
 | .val v H=>iceV H m v
 |_=>none
def ss(m:Nat)(M:List AV):Bool:=
 match iceL (iceV zlv m) M with
 |some I=>my I M
 |none=>false
def Fa(P:Program)(cfg:Cfg)(n m:Nat)(f:FuncId)(M:List AV)(r:AV):Bool:=
 match yI P cfg n m f M with
 |some q=>AV.beq q r
 |none=>false
def vh:List (FuncId×List AV×AV)->FuncId->List AV->Option AV
 |[],_,_=>none
 |p::l,f,args=>match Nat.beq p.1 f with
  |true=>match my p.2.1 args with
   |true=>some p.2.2
   |false=>vh l f args
  |false=>vh l f args
end
end Go.Ab
