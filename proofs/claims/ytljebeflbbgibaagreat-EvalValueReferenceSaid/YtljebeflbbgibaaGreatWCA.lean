/- Parts: AbDefs. -/
import GoSem.Step
set_option linter.unusedSimpArgs false
set_option linter.unusedVariables false
set_option linter.unusedSectionVars false
set_option linter.defProp false
set_option maxHeartbeats 32000000
namespace Go.Ab
noncomputable section
open Go
inductive T (α:Type) where
 |e
 |n (v:Option α) (l r:T α)
def fg{O:Type}(b:Bool)(x y:O):O:=Bool.rec y x b
def T.get{O:Type}(t:T O):Nat->Option O:=
 T.rec (motive:=fun _=>Nat->Option O) (fun _=>none)
  (fun v _ _ L o k=>fg (Nat.beq k 0) v (fg (Nat.beq (Nat.mod k 2) 1) (L (Nat.div k 2)) (o (Nat.sub (Nat.div k 2) 1)))) t
def lO{O:Type}(v:Option O)(f:Nat):T O->Nat->T O:=
 Nat.rec (motive:=fun _=>T O->Nat->T O) (fun t _=>t)
  (fun _ ih t k=>T.casesOn t
    (fg (Nat.beq k 0) (.n v .e .e) (fg (Nat.beq (Nat.mod k 2) 1) (.n none (ih .e (Nat.div k 2)) .e) (.n none .e (ih .e (Nat.sub (Nat.div k 2) 1)))))
    (fun u l r=>fg (Nat.beq k 0) (.n v l r) (fg (Nat.beq (Nat.mod k 2) 1) (.n u (ih l (Nat.div k 2)) r) (.n u l (ih r (Nat.sub (Nat.div k 2) 1)))))) f
def T.set{O:Type}(t:T O)(k:Nat)(v:Option O):T O:=lO v (k+1) t k
inductive Sx where
 |var (i:Nat)
 |lit (n:Int)
 |bin (op:BinOp) (k:IntKind) (a b:Sx)
 |conv (k:IntKind) (a:Sx)
inductive AV where
 |int (k:IntKind) (n:Int)
 |sx (k:IntKind) (e:Sx)
 |bool (b:Bool)
 |str (s:List UInt8)
 |nilP|nilM|nilF|nilS
 |ptr (r:Nat) (off:Nat)
 |iptr (cs:List AV)
 |sl (r off len z:Nat)
 |lst (xs:List (List AV))
 |map (r:Nat)
 |clo (f:Nat) (cap:List AV)
 |agg (cs:List AV)
 |tup (vs:List AV)
inductive HB where
 |cells (cs:List AV) (imm:Nat) (tip:Bool)
 |map (es:List (AV×AV))
structure Hp where
 next:Nat
 t:T HB
def Hp.get(h:Hp)(r:Nat):Option HB:=h.t.get r
def Hp.set(h:Hp)(r:Nat)(b:HB):Hp:={next:=h.next,t:=h.t.set r (some b) }
def Hp.kill(h:Hp)(r:Nat):Hp:={next:=h.next,t:=h.t.set r none}
def Hp.alloc(h:Hp)(b:HB):Hp:={next:=h.next+1,t:=h.t.set h.next (some b) }
inductive Plan where
 |text
 |perm (ord:List Nat)
 |split (p q:Nat) (a b:Plan)
structure Cfg where
 keep:FuncId->Bool
 dec:BinOp->Sx->Sx->Option Bool:=fun _ _ _=>none
 call:FuncId->List AV->Option AV:=fun _ _=>none
 ice:FuncId->Bool:=fun _=>false
 plan:FuncId->Nat->Plan:=fun _ _=>.text
 froz:FuncId->Bool:=fun _=>false
abbrev ai:=T AV
def QQ:AV:=.tup []
def ai.at(E:ai)(t:Nat):AV:=(T.get E t).getD QQ
def oD:Value->Option AV
 | .int k n=>some (.int k n)
 | .bool b=>some (.bool b)
 | .string s=>some (.str s.data.toList)
 | .pointer none=>some .nilP
 | .slice none 0 0=>some .nilS
 | .map none=>some .nilM
 | .nilFunc=>some .nilF
 |_=>none
def mZ:Value->Option AV
 | .agg M=>(M.toList.mapM oD).map .agg
 |v=>oD v
def PS(E:ai):Operand->Option AV
 | .tmp t=>some (E.at t)
 | .const v=>mZ v
 | .global _=>none
 | .func f=>some (.clo f [])
def Rt(E:ai):List Operand->Option (List AV)
 |[]=>some []
 |x::xs=>match PS E x,Rt E xs with
  |some v,some vs=>some (v::vs)
  |_,_=>none
def AV.cells:AV->List AV
 | .agg M=>M
 |v=>[v]
def AV.one:AV->Bool
 | .agg _|.tup _=>false
 |_=>true
section
variable (P:Program)
def P3(t:TypeId):Option Nat:=(P.info? t).map (·.size)
def QI(t:TypeId):Option Nat:=(P.info? t).map (·.bytes)
def j0(t:TypeId):Option AV:=
 match P.info? t with
 |some {zero:=some z,.. }=>mZ z
 |_=>none
def Qx(t:TypeId):Option (List AV):=
 match j0 P t with
 |some v=>some v.cells
 |none=>none
def PY(t:TypeId)(cs:List AV)(off:Nat):Option AV:=
 match P.underlying t with
 |some (.struct _)|some (.array _ _)=>
  match P3 P t with
  |some s=>let l:=(cs.drop off).take s;if l.length=s then some (.agg l)else none
  |none=>none
 |some _=>cs[off]?
 |none=>none
def Ru(H:Hp)(t:TypeId):AV->Option AV
 | .ptr r Z=>match H.get r with
   |some (.cells M _ _)=>PY P t M Z
   |_=>none
 | .iptr M=>PY P t M 0
 |_=>none
def splice(cs:List AV)(off:Nat)(M:List AV):List AV:=cs.take off++M++cs.drop (off+M.length)
def RT(H:Hp)(t:TypeId)(a v:AV):Option Hp:=
 match a with
 | .ptr r Z=>match H.get r,P3 P t with
   |some (.cells M j g),some s=>
    if v.cells.length=s/\j<=Z/\Z+s<=M.length/\v.cells.all AV.one then some (H.set r (.cells (splice M Z v.cells) j g))else none
   |_,_=>none
 |_=>none
def PW(t:TypeId)(a:AV)(i:Nat):Option AV:=
 match P.underlying t with
 |some (.struct I)=>match I[i]? with
  |some f=>match P3 P f.type with
   |some (_+1)=>match a with
    | .ptr r Z=>some (.ptr r (Z+f.offset))
    | .iptr M=>some (.iptr (M.drop f.offset))
    |_=>none
   |_=>none
  |none=>none
 |_=>none
def Qu(t:TypeId)(x:AV)(i:Nat):Option AV:=
 match P.underlying t,x with
 |some (.struct I),.agg M=>match I[i]? with
  |some f=>PY P f.type M f.offset
  |none=>none
 |_,_=>none
def PM(n:Int):Option Nat:=match n with|.ofNat k=>some k |_=>none
def Qt(t:TypeId)(x i:AV):Option AV:=
 match i with
 | .int _ (.ofNat k)=>match P.underlying t with
   |some (.slice e)=>match P3 P e with
    |some s=>match x with
     | .sl r Z z _=>if k<z then some (.ptr r (Z+k*s))else none
     | .lst K=>match K[k]? with
       |some O=>if O.length=s then some (.iptr O)else none
       |none=>none
     |_=>none
    |none=>none
   |some (.array n e)=>match P3 P e with
    |some s=>match x with
     | .ptr r Z=>if k<n then some (.ptr r (Z+k*s))else none
     |_=>none
    |none=>none
   |_=>none
 |_=>none
def jl(t:TypeId)(x i:AV):Option AV:=
 match i with
 | .int _ (.ofNat k)=>match P.underlying t,x with
   |some .string,.str s=>match s[k]? with
    |some b=>some (.int .u8 b.toNat)
    |none=>none
   |some (.array n e),.agg M=>if k<n then (match P3 P e with|some s=>PY P e M (k*s)|none=>none)else none
   |_,_=>none
 |_=>none
def Rl(d:Nat):Option AV->Option Nat
 |none=>some d
 |some (.int _ (.ofNat k))=>some k
 |some _=>none
def RD(t:TypeId)(x:AV)(lo F:Option AV):Option AV:=
 match P.underlying t,x with
 |some .string,.str s=>
  match Rl 0 lo,Rl s.length F with
  |some l,some h=>if l<=h/\h<=s.length then some (.str ((s.drop l).take (h-l)))else none
  |_,_=>none
 |some (.slice e),x=>match P3 P e with
  |some z=>match x with
   | .sl r Y Z U=>match Rl 0 lo,Rl Z F with
     |some l,some h=>if l<=h/\h<=Z/\U=z then (if l=h then some (.lst [])else some (.sl r (Y+l*z) (h-l) z))else none
     |_,_=>none
   | .lst K=>match Rl 0 lo,Rl K.length F with
     |some l,some h=>if l<=h/\h<=K.length then (match (K.drop l).take (h-l)with
      |[]=>some (.lst [])
      |row::rows=>if row.length=z then some (.lst (row::rows))else none)else none
     |_,_=>none
   | .nilS=>match Rl 0 lo,Rl 0 F with
     |some 0,some 0=>some .nilS
     |_,_=>none
   |_=>none
  |none=>none
 |_,_=>none
def jB(H:Hp)(t:TypeId)(x:AV)(lo F:Option AV):Option AV:=
 match x with
 | .ptr r Z=>match P.underlying t,H.get r with
   |some (.array n e),some (.cells M _ _)=>match P3 P e,Rl 0 lo,Rl n F with
    |some z,some l,some h=>if l<=h/\h<=n/\Z+n*z<=M.length then (if l=h then some (.lst [])else some (.sl r (Z+l*z) (h-l) z))else none
    |_,_,_=>none
   |_,_=>none
 |x=>RD P t x lo F
def jm(J:Nat->Option (Nat×Nat))(cells:List AV):List (Nat×AV)->Option (List AV)
 |[]=>some cells
 |(i,v)::rest=>match J i with
  |none=>none
  |some (Z,z)=>if v.cells.length≠z\/Z+v.cells.length > cells.length then none else jm J (splice cells Z v.cells) rest
def R1(E:ai):List (Nat×Operand)->Option (List (Nat×AV))
 |[]=>some []
 |(i,x)::rest=>match PS E x,R1 E rest with
  |some v,some vs=>some ((i,v)::vs)
  |_,_=>none
def wl(I:List Field):Option (List (Nat×Nat)):=I.mapM fun f=>(P.info? f.type).map fun i=>(f.offset,i.size)
def jn(t:TypeId)(V:List (Nat×AV)):Option AV:=
 match Qx P t,P.underlying t with
 |some z,some (.struct I)=>match wl P I.toList with
  |some A=>match jm (fun i=>A[i]?) z V with
   |some M=>some (.agg M)
   |none=>none
  |none=>none
 |some z,some (.array _ e)=>match P3 P e with
  |some s=>match jm (fun i=>some (i*s,s)) z V with
   |some M=>some (.agg M)
   |none=>none
  |none=>none
 |_,_=>none
def gF(z:List AV):Nat->List AV
 |0=>[]
 |n+1=>z++gF z n
def Rs(H:Hp)(t:TypeId)(len:Nat)(V:List (Nat×AV)):Option (AV×Hp):=
 match P.underlying t with
 |some (.slice e)=>match P3 P e,Qx P e with
  |some s,some z=>if len*s<=16777216/\z.length=s then (match jm (fun i=>some (i*s,s)) (gF z len) V with
   |some M=>some (.sl H.next 0 len s,H.alloc (.cells M 0 true))
   |none=>none)else none
  |_,_=>none
 |_=>none
def Rd:Nat:=70368744177664   -- 2^46
def RE(H:Hp)(s:Nat):AV->Option (Nat×List AV)
 | .sl r Z z _=>match H.get r with
   |some (.cells M _ _)=>let l:=(M.drop Z).take (z*s);if l.length=z*s then some (z,l)else none
   |_=>none
 | .lst K=>if K.all (fun O=>O.length == s)then some (K.length,K.flatten)else none
 | .nilS=>some (0,[])
 | .str b=>if s=1 then some (b.length,b.map fun x=>.int .u8 x.toNat)else none
 |_=>none
def SH(keep:Bool)(H:Hp)(s b:Nat)(U:AV)(n:Nat)(M:List AV):Option (AV×Hp):=
 match U with
 | .nilS=>if n*b<=Rd/\n<=Rd then some (.sl H.next 0 n s,H.alloc (.cells M 0 true))else none
 | .sl r Y Z z=>match H.get r with
   |some (.cells V j true)=>
    if (Z+n)*b<=Rd/\Z+n<=Rd/\Y+Z*s=V.length/\z=s/\j<=V.length then
     (if keep then some (.sl H.next 0 (Z+n) s,(H.set r (.cells V V.length false)).alloc (.cells (V.drop Y++M) (Z*s) true))
      else some (.sl H.next 0 (Z+n) s,(H.kill r).alloc (.cells (V.drop Y++M) (j-Y) true)))
    else none
   |_=>none
 |_=>none
def RJ(keep:Bool)(H:Hp)(s:Nat):AV->Hp
 | .sl r Z z _=>match H.get r with
   |some (.cells M j true)=>match !keep&&Nat.blt (Z+z*s) M.length&&Nat.ble j (Z+z*s)with
    |true=>H.set r (.cells (M.take (Z+z*s)) j true)
    |false=>H
   |_=>H
 |_=>H
def Sr(t:TypeId):Bool:=
 match P.underlying t with
 |some (.slice _)|some .string=>true
 |_=>false
def Rj(keep:Bool)(H:Hp)(t u:TypeId)(Y x:AV):Option (AV×Hp):=
 match P.underlying t with
 |some (.slice e)=>match P3 P e,QI P e,Qx P e with
  |some s,some b,some z=>match Sr P u,RE H s x with
   |true,some (0,_)=>match Y with
    | .sl ..|.lst _|.nilS=>some (Y,H)
    |_=>none
   |true,some (n,M)=>if M.all AV.one/\z.length=s then SH keep (RJ keep H s Y) s b Y n M else none
   |_,_=>none
  |_,_,_=>none
 |_=>none
def jp(I:TypeDesc)(x y:AV):Option Bool:=
 match I with
 | .int _=>match x,y with
   | .int k a,.int k' b=>if k=k' then some (a == b)else none
   |_,_=>none
 | .string=>match x,y with
   | .str a,.str b=>some (a == b)
   |_,_=>none
 | .bool=>match x,y with
   | .bool a,.bool b=>some (a == b)
   |_,_=>none
 |_=>none
def jN(t:TypeId):Option TypeDesc:=
 match P.underlying t with
 |some (.int k)=>some (.int k)
 |some .string=>some .string
 |some .bool=>some .bool
 |_=>none
def jo(I:TypeDesc)(k:AV):List (AV×AV)->Nat->Option (Option (Nat×AV))
 |[],_=>some none
 |(k',v)::es,i=>match jp I k k' with
  |some true=>some (some (i,v))
  |some false=>jo I k es (i+1)
  |none=>none
def lP(H:Hp):AV->Option (List (AV×AV))
 | .nilM=>some []
 | .map r=>match H.get r with
   |some (.map m)=>some m
   |_=>none
 |_=>none
def oE(ok:Bool)(v:AV)(M:Bool):AV:=match ok with
 |true=>.tup [v,.bool M]
 |false=>v
def R2(H:Hp)(t:TypeId)(m k:AV)(ok:Bool):Option AV:=
 match P.underlying t with
 |some (.map O e)=>match lP H m,jN P O with
  |some Z,some I=>match jo I k Z 0 with
   |some (some (_,v))=>some (oE ok v true)
   |some none=>match j0 P e with
    |some v=>some (oE ok v false)
    |none=>none
   |none=>none
  |_,_=>none
 |_=>none
def SD(H:Hp)(t:TypeId)(m k v:AV):Option Hp:=
 match P.underlying t with
 |some (.map O _)=>match m,jN P O with
  | .map r,some I=>match H.get r with
    |some (.map Z)=>match jo I k Z 0 with
     |some (some (i,_))=>some (H.set r (.map (Z.set i (k,v))))
     |some none=>some (H.set r (.map (Z++[(k,v)])))
     |none=>none
    |_=>none
  |_,_=>none
 |_=>none
def lQ:List UInt8->List UInt8->Bool
 |_,[]=>false
 |[],_::_=>true
 |a::x,b::y=>a<b||(a == b&&lQ x y)
def RR(op:BinOp)(k:IntKind)(a b:Int):Option AV:=
 match op with
 | .add=>some (.int k (k.wrap (a+b)))
 | .sub=>some (.int k (k.wrap (a-b)))
 | .mul=>some (.int k (k.wrap (a*b)))
 | .quo=>if b=0 then none else some (.int k (k.wrap (a.tdiv b)))
 | .rem=>if b=0 then none else some (.int k (a.tmod b))
 | .and=>some (.int k (k.wrap (BitVec.ofInt k.bits a &&& BitVec.ofInt k.bits b).toNat))
 | .or=>some (.int k (k.wrap (BitVec.ofInt k.bits a |||BitVec.ofInt k.bits b).toNat))
 | .xor=>some (.int k (k.wrap (BitVec.ofInt k.bits a^^^ BitVec.ofInt k.bits b).toNat))
 | .andNot=>some (.int k (k.wrap (BitVec.ofInt k.bits a &&& ~~~ BitVec.ofInt k.bits b).toNat))
 | .eql=>some (.bool (a == b))
 | .neq=>some (.bool (a != b))
 | .lss=>some (.bool (a<b))
 | .leq=>some (.bool (a<=b))
 | .gtr=>some (.bool (a > b))
 | .geq=>some (.bool (a>=b))
 |_=>none
def te(op:BinOp)(k:IntKind)(a b:Int):Int:=
 match RR op k a b with
 |some (.int _ n)=>n
 |_=>0
def Sx.eval(ρ:Nat->Int):Sx->Int
 | .var i=>ρ i
 | .lit n=>n
 | .bin C k a b=>te C k (a.eval ρ) (b.eval ρ)
 | .conv k a=>k.wrap (a.eval ρ)
def qp:AV->Option (IntKind×Sx)
 | .int k n=>some (k,.lit n)
 | .sx k e=>some (k,e)
 |_=>none
def tf(D:BinOp->Sx->Sx->Option Bool)(op:BinOp)(k:IntKind)(a b:Sx):Option AV:=
 match op with
 | .add=>some (.sx k (.bin .add k a b))
 | .sub=>some (.sx k (.bin .sub k a b))
 | .mul=>some (.sx k (.bin .mul k a b))
 | .and=>some (.sx k (.bin .and k a b))
 | .or=>some (.sx k (.bin .or k a b))
 | .xor=>some (.sx k (.bin .xor k a b))
 | .andNot=>some (.sx k (.bin .andNot k a b))
 | .quo=>match D .eql b (.lit 0)with
   |some false=>some (.sx k (.bin .quo k a b))
   |_=>none
 | .rem=>match D .eql b (.lit 0)with
   |some false=>some (.sx k (.bin .rem k a b))
   |_=>none
 | .shl=>none
 | .shr=>none
 |op=>match D op a b with
  |some r=>some (.bool r)
  |none=>none
def qq(D:BinOp->Sx->Sx->Option Bool)(op:BinOp)(x y:AV):Option AV:=
 match qp x,qp y with
 |some (k,a),some (k',b)=>if k=k' then tf D op k a b else none
 |_,_=>none
def oF(op:BinOp)(a b:List UInt8):Option AV:=
 match op with
 | .add=>if a.length+b.length<=Rd then some (.str (a++b))else none
 | .eql=>some (.bool (a == b))
 | .neq=>some (.bool !(a == b))
 | .lss=>some (.bool (lQ a b))
 | .leq=>some (.bool (lQ a b||a == b))
 | .gtr=>some (.bool !(lQ a b||a == b))
 | .geq=>some (.bool !(lQ a b))
 |_=>none
def qr(t:TypeId)(x y:AV):Option Bool:=
 match P.underlying t with
 |some .bool=>match x,y with
  | .bool a,.bool b=>some (a == b)
  |_,_=>none
 |some (.pointer _)=>match x,y with
  | .nilP,.nilP=>some true
  | .ptr _ _,.nilP|.nilP,.ptr _ _|.iptr _,.nilP|.nilP,.iptr _=>some false
  |_,_=>none
 |some (.map _ _)=>match x,y with
  | .nilM,.nilM=>some true
  | .map _,.nilM|.nilM,.map _=>some false
  |_,_=>none
 |some (.func _ _ _)=>match x,y with
  | .nilF,.nilF=>some true
  | .clo _ _,.nilF|.nilF,.clo _ _=>some false
  |_,_=>none
 |some (.slice _)=>match x,y with
  | .nilS,.nilS=>some true
  | .sl _ _ _ _,.nilS|.nilS,.sl _ _ _ _|.lst (_::_),.nilS|.nilS,.lst (_::_)=>some false
  |_,_=>none
 |_=>none
def tg(t:TypeId)(x y:AV):Option Bool:=
 match x,y with
 | .int k a,.int k' b=>match P.underlying t with
   |some (.int _)=>if k=k' then some (a == b)else none
   |_=>none
 | .str a,.str b=>match P.underlying t with
   |some .string=>some (a == b)
   |_=>none
 |x,y=>qr P t x y
def m1(xs Y:List AV):List Field->Option Bool
 |[]=>some true
 |f::fs=>match f.name == "_" with
  |true=>m1 xs Y fs
  |false=>match PY P f.type xs f.offset,PY P f.type Y f.offset with
   |some a,some b=>match tg P f.type a b with
    |some true=>m1 xs Y fs
    |some false=>some false
    |none=>none
   |_,_=>none
def qs(t:TypeId)(xs Y:List AV):Option Bool:=
 match P.underlying t with
 |some (.struct I)=>match P.stoodInHeld t||P.eqGuardType P.depth t with
  |true=>none
  |false=>m1 P xs Y I.toList
 |_=>none
def lR(t:TypeId)(x y:AV):Option Bool:=
 match x,y with
 | .agg K,.agg Y=>qs P t K Y
 |x,y=>qr P t x y
def kN(op:BinOp)(k:IntKind)(a b:Int):Option AV:=
 match b with
 | .ofNat m=>match op with
   | .shl=>some (.int k (k.wrap (a*2^ min m k.bits)))
   | .shr=>some (.int k (a.fdiv (2^ min m k.bits)))
   |_=>none
 |_=>none
def SO(op:BinOp)(k Z:IntKind)(a b:Int):Option AV:=
 match op with
 | .shl=>kN .shl k a b
 | .shr=>kN .shr k a b
 |op=>if k=Z then RR op k a b else none
def th(op:BinOp)(t:TypeId)(x y:AV):Option AV:=
 match op with
 | .eql=>match lR P t x y with
   |some b=>some (.bool b)
   |none=>none
 | .neq=>match lR P t x y with
   |some b=>some (.bool !b)
   |none=>none
 |_=>none
def QR(D:BinOp->Sx->Sx->Option Bool)(op:BinOp)(t:TypeId)(x y:AV):Option AV:=
 match x,y with
 | .int k a,.int k' b=>SO op k k' a b
 | .str a,.str b=>oF op a b
 | .sx k a,y=>qq D op (.sx k a) y
 | .int k a,.sx k' b=>qq D op (.int k a) (.sx k' b)
 |x,y=>th P op t x y
def j4(op:UnOp)(x:AV):Option AV:=
 match op,x with
 | .neg,.sx k e=>some (.sx k (.bin .sub k (.lit 0) e))
 | .xor,.sx k e=>some (.sx k (.bin .xor k (.lit (if k.signed then -1 else k.max)) e))
 | .neg,.int k n=>RR .sub k 0 n
 | .xor,.int k n=>RR .xor k (if k.signed then -1 else k.max) n
 | .not,.bool b=>some (.bool !b)
 |_,_=>none
def lS:List AV->Option (List UInt8)
 |[]=>some []
 | .int .u8 n::cs=>match lS cs with
   |some bs=>some (UInt8.ofNat n.toNat::bs)
   |none=>none
 |_=>none
def RU(H:Hp)(C Z:TypeId)(x:AV):Option AV:=
 match P.underlying C,P.underlying Z with
 |some (.slice e),some .string=>match P.underlying e with
  |some (.int .u8)=>match RE H 1 x with
   |some (_,M)=>match lS M with
    |some bs=>match x with
     | .sl _ _ _ _|.nilS=>some (.str bs)
     |_=>none
    |none=>none
   |none=>none
  |_=>none
 |some _,some (.int k)=>match x with
  | .int _ n=>some (.int k (k.wrap n))
  | .sx _ e=>some (.sx k (.conv k e))
  |_=>none
 |some .string,some .string=>match x with
  | .str s=>some (.str s)
  |_=>none
 |_,_=>none
def RK(H:Hp)(t:TypeId)(l c:AV):Option (AV×Hp):=
 match P.underlying t,l,c with
 |some (.slice e),.int _ (.ofNat l),.int _ (.ofNat c)=>match P3 P e,QI P e,Qx P e with
  |some s,some b,some z=>if l<=c/\c*b<=Rd/\c<=Rd/\z.length=s then some (.sl H.next 0 l s,H.alloc (.cells (gF z l) 0 true))else none
  |_,_,_=>none
 |_,_,_=>none
def extract(x:AV)(i:Nat):Option AV:=
 match x with
 | .tup vs=>vs[i]?
 |_=>none
def mm(J:Bool):AV->AV->Option AV
 | .int k x,.int _ y=>some (.int k (if (if J then decide (y > x)else decide (y<x))then y else x))
 |_,_=>none
def kO(J:Bool)(x:AV):List AV->Option AV
 |[]=>some x
 |y::ys=>match mm J x y with
  |some z=>kO J z ys
  |none=>none
def Qr(H:Hp)(t:TypeId)(x:AV):Option AV:=
 match P.underlying t with
 |some .string=>match x with
  | .str s=>some (.int .i64 s.length)
  |_=>none
 |some (.slice _)=>match x with
  | .sl _ _ n _=>some (.int .i64 n)
  | .lst K=>some (.int .i64 K.length)
  | .nilS=>some (.int .i64 0)
  |_=>none
 |some (.array n _)=>some (.int .i64 n)
 |some (.map _ _)=>match lP H x with
  |some m=>some (.int .i64 m.length)
  |none=>none
 |_=>none
def SI(keep:Bool)(H:Hp)(b:Builtin)(K:List TypeId)(Y:List AV):Option (AV×Hp):=
 match b with
 | .append=>match K,Y with
   |[t,u],[s,x]=>Rj P keep H t u s x
   |_,_=>none
 | .len=>match K,Y with
   |[t],[x]=>match Qr P H t x with
    |some v=>some (v,H)
    |none=>none
   |_,_=>none
 | .max=>match Y with
   |x::xs=>match kO true x xs with
    |some v=>some (v,H)
    |none=>none
   |[]=>none
 | .min=>match Y with
   |x::xs=>match kO false x xs with
    |some v=>some (v,H)
    |none=>none
   |[]=>none
 |_=>none
def ret(H:Hp):Option AV->Option (AV×Hp)
 |some v=>some (v,H)
 |none=>none
def qt(E:ai)(H:Hp)(c a b:Operand):Option (AV×Hp):=
 match PS E c with
 |some (.bool true)=>ret H (PS E a)
 |some (.bool false)=>ret H (PS E b)
 |_=>none
def oG(H:Hp)(t:TypeId):Option (AV×Hp):=
 match Qx P t with
 |some z=>some (.ptr H.next 0,H.alloc (.cells z 0 true))
 |none=>none
def oH(E:ai)(H:Hp)(x:Operand):Option (AV×Hp):=
 match PS E x with
 |some v=>some (.ptr H.next 0,H.alloc (.cells v.cells 0 true))
 |none=>none
def qu(E:ai)(H:Hp)(t:TypeId)(V:Array (Nat×Operand)):Option (AV×Hp):=
 match R1 E V.toList with
 |some L=>ret H (jn P t L)
 |none=>none
def S8(E:ai)(H:Hp)(t:TypeId)(len:Nat)(V:Array (Nat×Operand)):Option (AV×Hp):=
 match R1 E V.toList with
 |some L=>Rs P H t len L
 |none=>none
def oJ(E:ai)(H:Hp)(t:TypeId)(a:Operand):Option (AV×Hp):=
 match PS E a with
 |some v=>ret H (Ru P H t v)
 |none=>none
def qv(E:ai)(H:Hp)(t:TypeId)(a x:Operand):Option (AV×Hp):=
 match PS E a,PS E x with
 |some a,some x=>match RT P H t a x with
  |some H=>some (QQ,H)
  |none=>none
 |_,_=>none
def qw(E:ai)(H:Hp)(x:Operand):Option (AV×Hp):=
 match PS E x with
 |some (.ptr r o)=>some (.ptr r o,H)
 |some (.iptr M)=>some (.iptr M,H)
 |_=>none
def qx(D:BinOp->Sx->Sx->Option Bool)(E:ai)(H:Hp)(op:BinOp)(t:TypeId)(x y:Operand):Option (AV×Hp):=
 match PS E x,PS E y with
 |some x,some y=>ret H (QR P D op t x y)
 |_,_=>none
def qy(E:ai)(H:Hp)(op:UnOp)(x:Operand):Option (AV×Hp):=
 match PS E x with
 |some x=>ret H (j4 op x)
 |none=>none
def oK(E:ai)(H:Hp)(s d:TypeId)(x:Operand):Option (AV×Hp):=
 match PS E x with
 |some x=>ret H (RU P H s d x)
 |none=>none
def qz(E:ai)(H:Hp)(L:Fn)(first F:Array Operand):Option (AV×Hp):=
 match L,first.toList,Rt E F.toList with
 | .func f,[],some vs=>some (.clo f vs,H)
 |_,_,_=>none
def oL(H:Hp)(r:Option Operand):Option (AV×Hp):=
 match r with
 |none=>some (.map H.next,H.alloc (.map []))
 |some _=>none
def oM(E:ai)(H:Hp)(t:TypeId)(l c:Operand):Option (AV×Hp):=
 match PS E l,PS E c with
 |some l,some c=>RK P H t l c
 |_,_=>none
def RV(E:ai):Option Operand->Option (Option AV)
 |none=>some none
 |some x=>match PS E x with
  |some v=>some (some v)
  |none=>none
def oN(E:ai)(H:Hp)(t:TypeId)(x:Operand)(lo F J:Option Operand):Option (AV×Hp):=
 match J,PS E x,RV E lo,RV E F with
 |none,some x,some l,some h=>ret H (jB P H t x l h)
 |_,_,_,_=>none
def qA(E:ai)(H:Hp)(t:TypeId)(x:Operand)(f:Nat):Option (AV×Hp):=
 match PS E x with
 |some x=>ret H (PW P t x f)
 |none=>none
def qB(E:ai)(H:Hp)(t:TypeId)(x:Operand)(f:Nat):Option (AV×Hp):=
 match PS E x with
 |some x=>ret H (Qu P t x f)
 |none=>none
def qC(E:ai)(H:Hp)(t:TypeId)(x i:Operand):Option (AV×Hp):=
 match PS E x,PS E i with
 |some x,some i=>ret H (Qt P t x i)
 |_,_=>none
def qD(E:ai)(H:Hp)(t:TypeId)(x i:Operand):Option (AV×Hp):=
 match PS E x,PS E i with
 |some x,some i=>ret H (jl P t x i)
 |_,_=>none
def oO(E:ai)(H:Hp)(t:TypeId)(m k:Operand)(ok:Bool):Option (AV×Hp):=
 match PS E m,PS E k with
 |some m,some k=>ret H (R2 P H t m k ok)
 |_,_=>none
def qE(E:ai)(H:Hp)(t:TypeId)(m k v:Operand):Option (AV×Hp):=
 match PS E m,PS E k,PS E v with
 |some m,some k,some v=>match SD P H t m k v with
  |some H=>some (QQ,H)
  |none=>none
 |_,_,_=>none
def qF(E:ai)(H:Hp)(x:Operand)(i:Nat):Option (AV×Hp):=
 match PS E x with
 |some x=>ret H (extract x i)
 |none=>none
def bP(D:BinOp->Sx->Sx->Option Bool)(E:ai)(H:Hp)(op:Op):Option (AV×Hp):=
 match op with
 | .move x=>ret H (PS E x)
 | .assign x=>ret H (PS E x)
 | .pick c a b=>qt E H c a b
 | .alloc t=>oG P H t
 | .box _ x=>oH E H x
 | .build t V=>qu P E H t V
 | .buildSlice t z V=>S8 P E H t z V
 | .load t a=>oJ P E H t a
 | .store t a x=>qv P E H t a x
 | .nilCheck x=>qw E H x
 | .binOp op t x y _=>qx P D E H op t x y
 | .unOp op _ x=>qy E H op x
 | .convert s d x=>oK P E H s d x
 | .makeFunc L first F=>qz E H L first F
 | .makeMap _ r=>oL H r
 | .makeSlice t l c=>oM P E H t l c
 | .slice t x O Z J=>oN P E H t x O Z J
 | .fieldAddr t x f=>qA P E H t x f
 | .field t x f=>qB P E H t x f
 | .indexAddr t x i=>qC P E H t x i
 | .index t x i=>qD P E H t x i
 | .lookup t m k ok=>oO P E H t m k ok
 | .mapUpdate t m k v=>qE P E H t m k v
 | .extract x i=>qF E H x i
 |_=>none
inductive Task where
 |code (f:FuncId) (N:Nat) (c:Code) (E:ai) (H:Hp)
 |call (f:FuncId) (args:List AV) (H:Hp)
inductive AX where
 |normal|exit (id:Nat)|ret
inductive Res where
 |done (x:AX) (E:ai) (H:Hp)
 |val (v:AV) (H:Hp)
 |fail
def Q9(N:Nat)(E:ai)(Z:Option Tmp)(v:AV):Option ai:=
 match Z with
 |some d=>match Nat.blt d N with
  |true=>some (T.set E d (some v))
  |false=>none
 |none=>some E
def qG(ops:List Oper)(E:ai)(j:Nat):Option Bool:=
 match (ops[j]?).bind (·.dst)with
 |some d=>match E.at d with|.bool b=>some b |_=>none
 |none=>none
def RL(ops:List Oper)(E:ai)(o:Oper):Bool:=
 match o.guard with
 |none=>true
 |some (j,U)=>match qG ops E j with
  |some b=>b == U
  |none=>false
variable (cfg:Cfg)
def kP(ih:Task->Res)(f:FuncId)(E:ai)(H:Hp)(c:Call):Res:=
 match c.callee with
 | .value g=>match PS E g,Rt E c.args.toList with
   |some (.clo k o),some vs=>ih (.call k (vs++o) H)
   |_,_=>.fail
 | .builtin b=>match Rt E c.args.toList with
   |some vs=>match SI P (cfg.keep f) H b c.argTypes.toList vs with
    |some (v,H)=>.val v H
    |none=>.fail
   |none=>.fail
 |_=>.fail
def Rn:Option (AV×Hp)->Res
 |some (v,H)=>.val v H
 |none=>.fail
def QU(ih:Task->Res)(f:FuncId)(E:ai)(H:Hp)(op:Op):Res:=
 match op with
 | .call c=>kP P cfg ih f E H c
 |op=>Rn (bP P cfg.dec E H op)
def Sx.beq:Sx->Sx->Bool
 | .var i,.var j=>Nat.beq i j
 | .lit a,.lit b=>a == b
 | .bin o k a b,.bin J k' m K=>decide (o=J)&&decide (k=k')&&Sx.beq a m&&Sx.beq b K
 | .conv k a,.conv k' b=>decide (k=k')&&Sx.beq a b
 |_,_=>false
mutual
def AV.beq:AV->AV->Bool
 | .int k a,.int k' b=>decide (k=k')&&(a == b)
 | .sx k a,.sx k' b=>decide (k=k')&&Sx.beq a b
 | .bool a,.bool b=>a == b
 | .str a,.str b=>a == b
 | .nilP,.nilP|.nilM,.nilM|.nilF,.nilF|.nilS,.nilS=>true
 | .ptr r o,.ptr i J=>Nat.beq r i&&Nat.beq o J
 | .iptr a,.iptr b=>Sb a b
 | .sl r o l z,.sl i J g U=>Nat.beq r i&&Nat.beq o J&&Nat.beq l g&&Nat.beq z U
 | .lst a,.lst b=>lT a b
 | .map r,.map i=>Nat.beq r i
 | .clo f a,.clo V b=>Nat.beq f V&&Sb a b
 | .agg a,.agg b=>Sb a b
 | .tup a,.tup b=>Sb a b
 |_,_=>false
def Sb:List AV->List AV->Bool
 |[],[]=>true
 |a::x,b::y=>AV.beq a b&&Sb x y
 |_,_=>false
def lT:List (List AV)->List (List AV)->Bool
 |[],[]=>true
 |a::x,b::y=>Sb a b&&lT x y
 |_,_=>false
end
inductive Kind where
 |calm   -- looks at no memory
 |read
 |make
 |act
def Ro:Op->Kind
 | .load ..|.lookup ..|.convert ..|.slice ..=>.read
 | .alloc _|.box ..|.buildSlice ..|.makeMap ..|.makeSlice ..=>.make
 | .store ..|.mapUpdate ..=>.act
 | .call c=>match c.callee with
   | .builtin .len|.builtin .max|.builtin .min=>.read
   |_=>.act
 |_=>.calm
structure Rec where
 o:Oper
 did:Bool
 E:ai
 H:Hp
 val:AV
 H':Hp
inductive ResD where
 |done (E:ai) (H:Hp) (rs:List Rec)
 |fail
def ip(r:Rec):ResD->ResD
 | .done E H rs=>.done E H (r::rs)
 | .fail=>.fail
def Sy(o:ai->Hp->ResD)(H:Hp):Option ai->ResD
 |some E=>o E H
 |none=>.fail
def eJ(ih:Task->Res)(f N:Nat)(U:List Oper):List Oper->ai->Hp->ResD
 |[],E,H=>.done E H []
 |o::rest,E,H=>match RL U E o with
  |true=>match QU P cfg ih f E H o.op with
   | .val v H'=>ip ⟨o,true,E,H,v,H'⟩ (Sy (eJ ih f N U rest) H' (Q9 N E o.dst v))
   |_=>.fail
  |false=>ip ⟨o,false,E,H,QQ,H⟩ (Sy (eJ ih f N U rest) H (Q9 N E o.dst QQ))
def preds(o:Oper):List Nat:=(o.after.toList.filter (Region.binds .any)).map (·.on)
def m7:List Nat->List Nat->List Nat
 |acc,[]=>acc
 |acc,x::xs=>match acc.contains x with
  |true=>m7 acc xs
  |false=>m7 (x::acc) xs
def oP(l:List Nat):List Nat:=m7 [] l
def dX:List Oper->List (List Nat)->List (List Nat)
 |[],acc=>acc
 |o::rest,acc=>dX rest (acc++[oP (preds o++(preds o).flatMap fun i=>acc.getD i [])])
def wm(o:Oper):List Nat:=o.dst.toList++o.op.operands.toList.filterMap fun|.tmp t=>some t |_=>none
def kQ(U:List Oper)(o:Oper):List Nat:=wm o++(match o.guard with|some (j,_)=>((U[j]?).bind (·.dst)).toList|none=>[])
def gG(o:Oper):Bool:=match Ro o.op with|.act=>true |_=>false
def kR(o:Oper):Bool:=match Ro o.op with|.make=>true |_=>false
def clash(U:List Oper)(p q:Oper):Bool:=
 (gG p&&(gG q||kR q)) ||
 (p.dst.toList.any fun d=>(kQ U q).contains d)||(q.dst.toList.any fun d=>(kQ U p).contains d)
def kS(U:List Oper):Bool:=
 let A:=dX U []
 (List.range U.length).all fun j=>match U[j]? with
   |none=>true
   |some q=>(preds q).all (·< j)&&(match q.guard with|some (g,_)=>(A.getD j []).contains g|none=>true) &&
    (List.range j).all fun i=>match U[i]? with
      |none=>true
      |some p=>!clash U p q||(A.getD j []).contains i
def RM(ops:List Oper):List Nat:=(List.range ops.length).filter fun i=>match ops[i]? with
 |some o=>gG o
 |none=>false
def Ql(rs:List Rec)(H':Hp)(e:Nat):Hp:=match rs[e]? with
 |some r=>r.H
 |none=>H'
def HB.beq:HB->HB->Bool
 | .cells a i t,.cells b j u=>Sb a b&&Nat.beq i j&&(t == u)
 | .map a,.map b=>Sb (a.map (·.1)) (b.map (·.1))&&Sb (a.map (·.2)) (b.map (·.2))
 |_,_=>false
def zbz(r:Rec)(H:Hp):Bool:=
 match Ro r.o.op with
 | .read=>match QU P cfg (fun _=>.fail) 0 r.E H r.o.op with
   | .val v _=>AV.beq v r.val
   |_=>false
 | .make=>match H.get r.H.next,r.H'.get r.H.next with
   |some b,some K=>HB.beq b K
   |_,_=>false
 |_=>true
def qH(A:List (List Nat))(Y:List Nat)(i m:Nat):Bool:=
 !(Y.any (fun e=>(A.getD i []).contains e&&Nat.ble m e)||Y.any (fun e=>(A.getD e []).contains i&&Nat.blt e m))
def jr(ops:List Oper):List (Nat×Nat):=
 (List.range ops.length).flatMap fun i=>match ops[i]? with
   |some o=>match Ro o.op with
    | .read|.make=>((RM ops++[ops.length]).filter (qH (dX ops []) (RM ops) i)).map fun m=>(i,m)
    |_=>[]
   |none=>[]
def lU(g:List (Nat×Nat))(rs:List Rec)(H':Hp):Bool:=
 rs.all (fun r=>Nat.ble r.H.next r.H'.next)&&g.all fun p=>match rs[p.1]? with
  |some r=>!r.did||zbz P cfg r (Ql rs H' p.2)
  |none=>true
def Sn(ih:Task->Res)(f N:Nat)(ops:List Oper)(E:ai)(H:Hp):Res:=
 match kS ops with
 |true=>match eJ P cfg ih f N ops ops E H with
  | .done E' H' rs=>match lU P cfg (jr ops) rs H' with
    |true=>.done .normal E' H'
    |false=>.fail
  | .fail=>.fail
 |false=>.fail
def RF:List Nat->Nat->Nat
 |[],_=>0
 |x::xs,i=>match Nat.beq x i with
  |true=>0
  |false=>RF xs i+1
def lV(M:List Nat)(o:Oper):Oper:=
 {o with after:=((o.after.toList.filter (Region.binds .any)).map fun e=>{e with on:=RF M e.on}).toArray,guard:=match o.guard with|some (j,b)=>some (RF M j,b)|none=>none}
def gj(M:List Nat)(l:List Oper):List Oper:=M.filterMap fun i=>match l[i]? with
 |some o=>some (lV M o)
 |none=>none
def ti(M:List Nat)(l:List Oper):Bool:=
 Nat.beq M.length l.length &&
 (List.range l.length).all (fun k=>(match M[k]? with|some i=>Nat.blt i l.length&&Nat.beq (RF M i) k|none=>false)&&Nat.blt (RF M k) l.length&&(match M[RF M k]? with|some i=>Nat.beq i k|none=>false)) &&
 l.all (fun o=>(preds o).all (fun p=>Nat.blt p l.length)&&(match o.guard with|some (j,_)=>Nat.blt j l.length|none=>true))
def eL(q p:Nat)(l:List Oper):List Oper:=match l[q]? with
 |some o=>l.set q {o with after:=o.after.push {on:=p,ground:=.data} }
 |none=>l
def T.beq{O:Type}(I:O->O->Bool):T O->T O->Bool
 | .e,.e=>true
 | .n v l r,.n A g i=>(match v,A with|some a,some b=>I a b|none,none=>true |_,_=>false)&&T.beq I l g&&T.beq I r i
 |_,_=>false
def tj(ops:List Oper)(V M:ai)(J m:Hp):Bool:=
 ops.all (fun o=>match o.dst with|some d=>AV.beq (V.at d) (M.at d)|none=>true)&&Nat.beq J.next m.next&&T.beq HB.beq J.t m.t
def lW(ops:List Oper):Res->Res->Res
 | .done .normal E1 H1,.done .normal M m=>match tj ops E1 M H1 m with
   |true=>.done .normal E1 H1
   |false=>.fail
 |_,_=>.fail
def RW(ih:Task->Res)(f N:Nat)(E:ai)(H:Hp):Plan->List Oper->Res
 | .text,ops=>Sn P cfg ih f N ops E H
 | .perm ord,ops=>match ti ord ops with
   |true=>Sn P cfg ih f N (gj ord ops) E H
   |false=>.fail
 | .split p q a b,ops=>match Nat.beq p q with
   |true=>.fail
   |false=>lW ops (RW ih f N E H a (eL q p ops)) (RW ih f N E H b (eL p q ops))
def RX(o:ai->Hp->Res)(H:Hp):Option ai->Res
 |some E=>o E H
 |none=>.fail
def jq(ih:Task->Res)(f N:Nat)(U:List Oper)(ops:List Oper):ai->Hp->Res:=
 List.rec (motive:=fun _=>ai->Hp->Res) (fun E H=>.done .normal E H)
  (fun o _ Z E H=>match RL U E o with
    |true=>match QU P cfg ih f E H o.op with
     | .val v H=>RX Z H (Q9 N E o.dst v)
     |_=>.fail
    |false=>RX Z H (Q9 N E o.dst QQ)) ops
def oQ:Nat->ai
 |0=>.e
 |d+1=>.n (some QQ) (oQ d) (oQ d)
def lX(N:Nat):ai:=oQ (Nat.log2 N+1)
def PZ:Nat->List AV->ai->ai
 |_,[],E=>E
 |i,v::vs,E=>PZ (i+1) vs (T.set E i (some v))
def m8(E:ai)(H:Hp):ResultVar->Option AV
 | .tmp t=>some (E.at t)
 | .cell a t=>Ru P H t (E.at a)
def SP(E:ai)(H:Hp):List ResultVar->Option (List AV)
 |[]=>some []
 |r::rs=>match m8 P E H r,SP E H rs with
  |some v,some vs=>some (v::vs)
  |_,_=>none
def PT:List AV->AV
 |[v]=>v
 |vs=>.tup vs
def m9(rs:List ResultVar)(E:ai)(H:Hp):Res:=
 match SP P E H rs with
 |some vs=>.val (PT vs) H
 |none=>.fail
def Sz(ih:Task->Res)(f:FuncId)(Y:List AV)(H:Hp):Res:=
 match P.funcs[f]? with
 |some L=>match L.body with
  |some c=>match ih (.code f (max L.ntmps Y.length) c (PZ 0 Y (lX (max L.ntmps Y.length))) H)with
   | .done .normal E H=>m9 P L.results.toList E H
   | .done .ret E H=>m9 P L.results.toList E H
   |_=>.fail
  |none=>.fail
 |none=>.fail
def SA(ih:Task->Res)(f N:Nat)(b:Code):Res->Res
 | .done .normal E H=>ih (.code f N b E H)
 |r=>r
def Ss(id:Nat):Res->Res
 | .done (.exit i) E H=>match Nat.beq i id with
   |true=>.done .normal E H
   |false=>.done (.exit i) E H
 |r=>r
def lY(ih:Task->Res)(f N:Nat)(x:Operand)(a b:Code)(E:ai)(H:Hp):Res:=
 match PS E x with
 |some (.bool true)=>ih (.code f N a E H)
 |some (.bool false)=>ih (.code f N b E H)
 |_=>.fail
def Rv(z:Nat):Nat->List AV->List (List AV)
 |0,_=>[]
 |n+1,l=>l.take z::Rv z n (l.drop z)
def fR(g:AV->Hp->Option (AV×Hp)):List AV->Hp->Option (List AV×Hp)
 |[],H=>some ([],H)
 |c::cs,H=>match g c H with
  |some (d,H)=>match fR g cs H with
   |some (j,H)=>some (d::j,H)
   |none=>none
  |none=>none
def eg:Nat->AV->Hp->Option (AV×Hp)
 |0,_,_=>none
 |n+1,v,H=>match v with
  | .sl r Y Z z=>match H.get r with
    |some (.cells M j g)=>match Nat.ble (Y+Z*z) M.length&&Nat.ble j M.length with
     |true=>match fR (eg n) ((M.drop Y).take (Z*z)) (H.set r (.cells M (max j (Y+Z*z)) g))with
      |some (l,H)=>some (.lst (Rv z Z l),H)
      |none=>none
     |false=>none
    |_=>none
  | .agg M=>match fR (eg n) M H with
    |some (V,H)=>some (.agg V,H)
    |none=>none
  | .ptr _ _=>none
  | .map _=>none
  |v=>some (v,H)
def oR(ih:Task->Res)(f:FuncId)(Y:List AV)(H:Hp):Option (List AV×Hp)->Res
 |some (i,H')=>match cfg.call f i with
  |some r=>.val r H'
  |none=>Sz P ih f Y H
 |none=>Sz P ih f Y H
def na:Bool->Res->Res
 |true,.val v H=>Rn (eg 100 v H)
 |_,r=>r
def SB(ih:Task->Res)(f:FuncId)(Y:List AV)(H:Hp):Res:=match cfg.ice f with
 |true=>oR P cfg ih f Y H (fR (eg 100) Y H)
 |false=>Sz P ih f Y H
def step(ih:Task->Res):Task->Res
 | .call f Y H=>match cfg.call f Y with
   |some r=>.val r H
   |none=>na (cfg.froz f) (SB P cfg ih f Y H)
 | .code f N c E H=>match c with
   | .skip=>.done .normal E H
   | .region id ops draw=>match draw with
     |false=>jq P cfg ih f N ops.toList ops.toList E H
     |true=>RW P cfg ih f N E H (cfg.plan f id) ops.toList
   | .seq a b=>SA ih f N b (ih (.code f N a E H))
   | .cond x a b=>lY ih f N x a b E H
   | .block id a=>Ss id (ih (.code f N a E H))
   | .loop a=>SA ih f N (.loop a) (ih (.code f N a E H))
   | .exit id=>.done (.exit id) E H
   | .ret=>.done .ret E H
   |_=>.fail
def QJ(n:Nat):Task->Res:=Nat.rec (motive:=fun _=>Task->Res) (fun _=>.fail) (fun _ ih=>step P cfg ih) n
end
def Qv:Hp:={next:=0,t:=.e}
def iceL(g:AV->Option AV):List AV->Option (List AV)
 |[]=>some []
 |c::cs=>match g c,iceL g cs with
  |some d,some j=>some (d::j)
  |_,_=>none
def kT(g:AV->Option AV):List (List AV)->Option (List (List AV))
 |[]=>some []
 |c::cs=>match iceL g c,kT g cs with
  |some d,some j=>some (d::j)
  |_,_=>none
def iceV(H:Hp):Nat->AV->Option AV
 |0,_=>none
 |n+1,v=>match v with
  | .sl r Y Z z=>match H.get r with
    |some (.cells M _ _)=>match iceL (iceV H n) ((M.drop Y).take (Z*z))with
     |some l=>if l.length=Z*z then some (.lst (Rv z Z l))else none
     |none=>none
    |_=>none
  | .lst K=>match kT (iceV H n) K with
    |some V=>some (.lst V)
    |none=>none
  | .agg M=>match iceL (iceV H n) M with
    |some j=>some (.agg j)
    |none=>none
  | .tup M=>match iceL (iceV H n) M with
    |some j=>some (.tup j)
    |none=>none
  | .int k a=>some (.int k a)
  | .sx k e=>some (.sx k e)
  | .bool b=>some (.bool b)
  | .str s=>some (.str s)
  | .nilP=>some .nilP
  | .nilM=>some .nilM
  | .nilF=>some .nilF
  | .nilS=>some .nilS
  |_=>none
def oS(P:Program)(cfg:Cfg)(n m:Nat)(f:FuncId)(Y:List AV):Option AV:=
 match QJ P cfg n (.call f Y Qv)with
 | .val v H=>iceV H m v
 |_=>none
def SQ(m:Nat)(Y:List AV):Bool:=
 match iceL (iceV Qv m) Y with
 |some i=>Sb i Y
 |none=>false
def tk(P:Program)(cfg:Cfg)(n m:Nat)(f:FuncId)(Y:List AV)(r:AV):Bool:=
 match oS P cfg n m f Y with
 |some q=>AV.beq q r
 |none=>false
def lZ:List (FuncId×List AV×AV)->FuncId->List AV->Option AV
 |[],_,_=>none
 |p::l,f,args=>match Nat.beq p.1 f with
  |true=>match Sb p.2.1 args with
   |true=>some p.2.2
   |false=>lZ l f args
  |false=>lZ l f args
end
end Go.Ab
