/- Parts: AbDefs. -/
import GoSem.Step
set_option linter.unusedSimpArgs false
set_option linter.unusedVariables false
set_option linter.unusedSectionVars false
set_option linter.defProp false
set_option maxHeartbeats 32000000
namespace Go.Ab
noncomputable section
open Go
inductive T (α:Type) where
 |e
 |n (v:Option α) (l r:T α)
def ke{i:Type}(b:Bool)(x y:i):i:=Bool.rec y x b
def T.get{i:Type}(t:T i):Nat->Option i:=
 T.rec (motive:=fun _=>Nat->Option i) (fun _=>none)
  (fun v _ _ O I k=>ke (Nat.beq k 0) v (ke (Nat.beq (Nat.mod k 2) 1) (O (Nat.div k 2)) (I (Nat.sub (Nat.div k 2) 1)))) t
def td{i:Type}(v:Option i)(f:Nat):T i->Nat->T i:=
 Nat.rec (motive:=fun _=>T i->Nat->T i) (fun t _=>t)
  (fun _ ih t k=>T.casesOn t
    (ke (Nat.beq k 0) (.n v .e .e) (ke (Nat.beq (Nat.mod k 2) 1) (.n none (ih .e (Nat.div k 2)) .e) (.n none .e (ih .e (Nat.sub (Nat.div k 2) 1)))))
    (fun u l r=>ke (Nat.beq k 0) (.n v l r) (ke (Nat.beq (Nat.mod k 2) 1) (.n u (ih l (Nat.div k 2)) r) (.n u l (ih r (Nat.sub (Nat.div k 2) 1)))))) f
def T.set{i:Type}(t:T i)(k:Nat)(v:Option i):T i:=td v (k+1) t k
inductive Sx where
 |var (i:Nat)
 |lit (n:Int)
 |bin (op:BinOp) (k:IntKind) (a b:Sx)
 |conv (k:IntKind) (a:Sx)
inductive AV where
 |int (k:IntKind) (n:Int)
 |sx (k:IntKind) (e:Sx)
 |bool (b:Bool)
 |str (s:List UInt8)
 |nilP|nilM|nilF|nilS
 |ptr (r:Nat) (off:Nat)
 |iptr (cs:List AV)
 |sl (r off len z:Nat)
 |lst (xs:List (List AV))
 |map (r:Nat)
 |clo (f:Nat) (cap:List AV)
 |agg (cs:List AV)
 |tup (vs:List AV)
inductive HB where
 |cells (cs:List AV) (imm:Nat) (tip:Bool)
 |map (es:List (AV×AV))
structure Hp where
 next:Nat
 t:T HB
def Hp.get(h:Hp)(r:Nat):Option HB:=h.t.get r
def Hp.set(h:Hp)(r:Nat)(b:HB):Hp:={next:=h.next,t:=h.t.set r (some b) }
def Hp.kill(h:Hp)(r:Nat):Hp:={next:=h.next,t:=h.t.set r none}
def Hp.alloc(h:Hp)(b:HB):Hp:={next:=h.next+1,t:=h.t.set h.next (some b) }
inductive Plan where
 |text
 |perm (ord:List Nat)
 |split (p q:Nat) (a b:Plan)
structure Cfg where
 keep:FuncId->Bool
 dec:BinOp->Sx->Sx->Option Bool:=fun _ _ _=>none
 call:FuncId->List AV->Option AV:=fun _ _=>none
 ice:FuncId->Bool:=fun _=>false
 plan:FuncId->Nat->Plan:=fun _ _=>.text
 froz:FuncId->Bool:=fun _=>false
abbrev aw:=T AV
def zgA:AV:=.tup []
def aw.at(E:aw)(t:Nat):AV:=(T.get E t).getD zgA
def wc:Value->Option AV
 | .int k n=>some (.int k n)
 | .bool b=>some (.bool b)
 | .string s=>some (.str s.data.toList)
 | .pointer none=>some .nilP
 | .slice none 0 0=>some .nilS
 | .map none=>some .nilM
 | .nilFunc=>some .nilF
 |_=>none
def uD:Value->Option AV
 | .agg g=>(g.toList.mapM wc).map .agg
 |v=>wc v
def zfl(E:aw):Operand->Option AV
 | .tmp t=>some (E.at t)
 | .const v=>uD v
 | .global _=>none
 | .func f=>some (.clo f [])
def zhq(E:aw):List Operand->Option (List AV)
 |[]=>some []
 |x::xs=>match zfl E x,zhq E xs with
  |some v,some vs=>some (v::vs)
  |_,_=>none
def AV.cells:AV->List AV
 | .agg g=>g
 |v=>[v]
def AV.one:AV->Bool
 | .agg _|.tup _=>false
 |_=>true
section
variable (P:Program)
def zfF(t:TypeId):Option Nat:=(P.info? t).map (·.size)
def zgo(t:TypeId):Option Nat:=(P.info? t).map (·.bytes)
def qL(t:TypeId):Option AV:=
 match P.info? t with
 |some {zero:=some z,.. }=>uD z
 |_=>none
def zge(t:TypeId):Option (List AV):=
 match qL P t with
 |some v=>some v.cells
 |none=>none
def zfy(t:TypeId)(cs:List AV)(off:Nat):Option AV:=
 match P.underlying t with
 |some (.struct _)|some (.array _ _)=>
  match zfF P t with
  |some s=>let l:=(cs.drop off).take s;if l.length=s then some (.agg l)else none
  |none=>none
 |some _=>cs[off]?
 |none=>none
def iU(H:Hp)(t:TypeId):AV->Option AV
 | .ptr r m=>match H.get r with
   |some (.cells g _ _)=>zfy P t g m
   |_=>none
 | .iptr g=>zfy P t g 0
 |_=>none
def splice(cs:List AV)(off:Nat)(Z:List AV):List AV:=cs.take off++Z++cs.drop (off+Z.length)
def nf(H:Hp)(t:TypeId)(a v:AV):Option Hp:=
 match a with
 | .ptr r m=>match H.get r,zfF P t with
   |some (.cells g V I),some s=>
    if v.cells.length=s/\V<=m/\m+s<=g.length/\v.cells.all AV.one then some (H.set r (.cells (splice g m v.cells) V I))else none
   |_,_=>none
 |_=>none
def zfu(t:TypeId)(a:AV)(i:Nat):Option AV:=
 match P.underlying t with
 |some (.struct Y)=>match Y[i]? with
  |some f=>match zfF P f.type with
   |some (_+1)=>match a with
    | .ptr r m=>some (.ptr r (m+f.offset))
    | .iptr g=>some (.iptr (g.drop f.offset))
    |_=>none
   |_=>none
  |none=>none
 |_=>none
def zf5(t:TypeId)(x:AV)(i:Nat):Option AV:=
 match P.underlying t,x with
 |some (.struct Y),.agg g=>match Y[i]? with
  |some f=>zfy P f.type g f.offset
  |none=>none
 |_,_=>none
def zfe(n:Int):Option Nat:=match n with|.ofNat k=>some k |_=>none
def zgi(t:TypeId)(x i:AV):Option AV:=
 match i with
 | .int _ (.ofNat k)=>match P.underlying t with
   |some (.slice e)=>match zfF P e with
    |some s=>match x with
     | .sl r m j _=>if k<j then some (.ptr r (m+k*s))else none
     | .lst K=>match K[k]? with
       |some J=>if J.length=s then some (.iptr J)else none
       |none=>none
     |_=>none
    |none=>none
   |some (.array n e)=>match zfF P e with
    |some s=>match x with
     | .ptr r m=>if k<n then some (.ptr r (m+k*s))else none
     |_=>none
    |none=>none
   |_=>none
 |_=>none
def oS(t:TypeId)(x i:AV):Option AV:=
 match i with
 | .int _ (.ofNat k)=>match P.underlying t,x with
   |some .string,.str s=>match s[k]? with
    |some b=>some (.int .u8 b.toNat)
    |none=>none
   |some (.array n e),.agg g=>if k<n then (match zfF P e with|some s=>zfy P e g (k*s)|none=>none)else none
   |_,_=>none
 |_=>none
def zg9(d:Nat):Option AV->Option Nat
 |none=>some d
 |some (.int _ (.ofNat k))=>some k
 |some _=>none
def zhg(t:TypeId)(x:AV)(lo I:Option AV):Option AV:=
 match P.underlying t,x with
 |some .string,.str s=>
  match zg9 0 lo,zg9 s.length I with
  |some l,some h=>if l<=h/\h<=s.length then some (.str ((s.drop l).take (h-l)))else none
  |_,_=>none
 |some (.slice e),x=>match zfF P e with
  |some z=>match x with
   | .sl r m j J=>match zg9 0 lo,zg9 j I with
     |some l,some h=>if l<=h/\h<=j/\J=z then (if l=h then some (.lst [])else some (.sl r (m+l*z) (h-l) z))else none
     |_,_=>none
   | .lst K=>match zg9 0 lo,zg9 K.length I with
     |some l,some h=>if l<=h/\h<=K.length then (match (K.drop l).take (h-l)with
      |[]=>some (.lst [])
      |row::rows=>if row.length=z then some (.lst (row::rows))else none)else none
     |_,_=>none
   | .nilS=>match zg9 0 lo,zg9 0 I with
     |some 0,some 0=>some .nilS
     |_,_=>none
   |_=>none
  |none=>none
 |_,_=>none
def nX(H:Hp)(t:TypeId)(x:AV)(lo I:Option AV):Option AV:=
 match x with
 | .ptr r m=>match P.underlying t,H.get r with
   |some (.array n e),some (.cells g _ _)=>match zfF P e,zg9 0 lo,zg9 n I with
    |some z,some l,some h=>if l<=h/\h<=n/\m+n*z<=g.length then (if l=h then some (.lst [])else some (.sl r (m+l*z) (h-l) z))else none
    |_,_,_=>none
   |_,_=>none
 |x=>zhg P t x lo I
def pH(O:Nat->Option (Nat×Nat))(cells:List AV):List (Nat×AV)->Option (List AV)
 |[]=>some cells
 |(i,v)::rest=>match O i with
  |none=>none
  |some (m,J)=>if v.cells.length≠J\/m+v.cells.length > cells.length then none else pH O (splice cells m v.cells) rest
def zhF(E:aw):List (Nat×Operand)->Option (List (Nat×AV))
 |[]=>some []
 |(i,x)::rest=>match zfl E x,zhF E rest with
  |some v,some vs=>some ((i,v)::vs)
  |_,_=>none
def Gm(Y:List Field):Option (List (Nat×Nat)):=Y.mapM fun f=>(P.info? f.type).map fun i=>(f.offset,i.size)
def zgB(t:TypeId)(I:List (Nat×AV)):Option AV:=
 match zge P t,P.underlying t with
 |some z,some (.struct Y)=>match Gm P Y.toList with
  |some K=>match pH (fun i=>K[i]?) z I with
   |some g=>some (.agg g)
   |none=>none
  |none=>none
 |some z,some (.array _ e)=>match zfF P e with
  |some s=>match pH (fun i=>some (i*s,s)) z I with
   |some g=>some (.agg g)
   |none=>none
  |none=>none
 |_,_=>none
def nY(z:List AV):Nat->List AV
 |0=>[]
 |n+1=>z++nY z n
def zgW(H:Hp)(t:TypeId)(len:Nat)(I:List (Nat×AV)):Option (AV×Hp):=
 match P.underlying t with
 |some (.slice e)=>match zfF P e,zge P e with
  |some s,some z=>if len*s<=16777216/\z.length=s then (match pH (fun i=>some (i*s,s)) (nY z len) I with
   |some g=>some (.sl H.next 0 len s,H.alloc (.cells g 0 true))
   |none=>none)else none
  |_,_=>none
 |_=>none
def zg1:Nat:=70368744177664   -- 2^46
def zhd(H:Hp)(s:Nat):AV->Option (Nat×List AV)
 | .sl r m j _=>match H.get r with
   |some (.cells g _ _)=>let l:=(g.drop m).take (j*s);if l.length=j*s then some (j,l)else none
   |_=>none
 | .lst K=>if K.all (fun J=>J.length == s)then some (K.length,K.flatten)else none
 | .nilS=>some (0,[])
 | .str b=>if s=1 then some (b.length,b.map fun x=>.int .u8 x.toNat)else none
 |_=>none
def jM(keep:Bool)(H:Hp)(s b:Nat)(K:AV)(n:Nat)(Z:List AV):Option (AV×Hp):=
 match K with
 | .nilS=>if n*b<=zg1/\n<=zg1 then some (.sl H.next 0 n s,H.alloc (.cells Z 0 true))else none
 | .sl r m j z=>match H.get r with
   |some (.cells g V true)=>
    if (j+n)*b<=zg1/\j+n<=zg1/\m+j*s=g.length/\z=s/\V<=g.length then
     (if keep then some (.sl H.next 0 (j+n) s,(H.set r (.cells g g.length false)).alloc (.cells (g.drop m++Z) (j*s) true))
      else some (.sl H.next 0 (j+n) s,(H.kill r).alloc (.cells (g.drop m++Z) (V-m) true)))
    else none
   |_=>none
 |_=>none
def iV(keep:Bool)(H:Hp)(s:Nat):AV->Hp
 | .sl r m j _=>match H.get r with
   |some (.cells g V true)=>match !keep&&Nat.blt (m+j*s) g.length&&Nat.ble V (m+j*s)with
    |true=>H.set r (.cells (g.take (m+j*s)) V true)
    |false=>H
   |_=>H
 |_=>H
def zhz(t:TypeId):Bool:=
 match P.underlying t with
 |some (.slice _)|some .string=>true
 |_=>false
def zgH(keep:Bool)(H:Hp)(t u:TypeId)(K x:AV):Option (AV×Hp):=
 match P.underlying t with
 |some (.slice e)=>match zfF P e,zgo P e,zge P e with
  |some s,some b,some z=>match zhz P u,zhd H s x with
   |true,some (0,_)=>match K with
    | .sl ..|.lst _|.nilS=>some (K,H)
    |_=>none
   |true,some (n,Z)=>if Z.all AV.one/\z.length=s then jM keep (iV keep H s K) s b K n Z else none
   |_,_=>none
  |_,_,_=>none
 |_=>none
def nZ(C:TypeDesc)(x y:AV):Option Bool:=
 match C with
 | .int _=>match x,y with
   | .int k a,.int k' b=>if k=k' then some (a == b)else none
   |_,_=>none
 | .string=>match x,y with
   | .str a,.str b=>some (a == b)
   |_,_=>none
 | .bool=>match x,y with
   | .bool a,.bool b=>some (a == b)
   |_,_=>none
 |_=>none
def mH(t:TypeId):Option TypeDesc:=
 match P.underlying t with
 |some (.int k)=>some (.int k)
 |some .string=>some .string
 |some .bool=>some .bool
 |_=>none
def jB(C:TypeDesc)(k:AV):List (AV×AV)->Nat->Option (Option (Nat×AV))
 |[],_=>some none
 |(k',v)::es,i=>match nZ C k k' with
  |some true=>some (some (i,v))
  |some false=>jB C k es (i+1)
  |none=>none
def te(H:Hp):AV->Option (List (AV×AV))
 | .nilM=>some []
 | .map r=>match H.get r with
   |some (.map V)=>some V
   |_=>none
 |_=>none
def wd(ok:Bool)(v:AV)(U:Bool):AV:=match ok with
 |true=>.tup [v,.bool U]
 |false=>v
def zhv(H:Hp)(t:TypeId)(m k:AV)(ok:Bool):Option AV:=
 match P.underlying t with
 |some (.map g e)=>match te H m,mH P g with
  |some V,some C=>match jB C k V 0 with
   |some (some (_,v))=>some (wd ok v true)
   |some none=>match qL P e with
    |some v=>some (wd ok v false)
    |none=>none
   |none=>none
  |_,_=>none
 |_=>none
def jj(H:Hp)(t:TypeId)(m k v:AV):Option Hp:=
 match P.underlying t with
 |some (.map g _)=>match m,mH P g with
  | .map r,some C=>match H.get r with
    |some (.map V)=>match jB C k V 0 with
     |some (some (i,_))=>some (H.set r (.map (V.set i (k,v))))
     |some none=>some (H.set r (.map (V++[(k,v)])))
     |none=>none
    |_=>none
  |_,_=>none
 |_=>none
def rN:List UInt8->List UInt8->Bool
 |_,[]=>false
 |[],_::_=>true
 |a::x,b::y=>a<b||(a == b&&rN x y)
def zhA(op:BinOp)(k:IntKind)(a b:Int):Option AV:=
 match op with
 | .add=>some (.int k (k.wrap (a+b)))
 | .sub=>some (.int k (k.wrap (a-b)))
 | .mul=>some (.int k (k.wrap (a*b)))
 | .quo=>if b=0 then none else some (.int k (k.wrap (a.tdiv b)))
 | .rem=>if b=0 then none else some (.int k (a.tmod b))
 | .and=>some (.int k (k.wrap (BitVec.ofInt k.bits a &&& BitVec.ofInt k.bits b).toNat))
 | .or=>some (.int k (k.wrap (BitVec.ofInt k.bits a |||BitVec.ofInt k.bits b).toNat))
 | .xor=>some (.int k (k.wrap (BitVec.ofInt k.bits a^^^ BitVec.ofInt k.bits b).toNat))
 | .andNot=>some (.int k (k.wrap (BitVec.ofInt k.bits a &&& ~~~ BitVec.ofInt k.bits b).toNat))
 | .eql=>some (.bool (a == b))
 | .neq=>some (.bool (a != b))
 | .lss=>some (.bool (a<b))
 | .leq=>some (.bool (a<=b))
 | .gtr=>some (.bool (a > b))
 | .geq=>some (.bool (a>=b))
 |_=>none
def Cf(op:BinOp)(k:IntKind)(a b:Int):Int:=
 match zhA op k a b with
 |some (.int _ n)=>n
 |_=>0
def Sx.eval(ρ:Nat->Int):Sx->Int
 | .var i=>ρ i
 | .lit n=>n
 | .bin J k a b=>Cf J k (a.eval ρ) (b.eval ρ)
 | .conv k a=>k.wrap (a.eval ρ)
def yK:AV->Option (IntKind×Sx)
 | .int k n=>some (k,.lit n)
 | .sx k e=>some (k,e)
 |_=>none
def Cg(D:BinOp->Sx->Sx->Option Bool)(op:BinOp)(k:IntKind)(a b:Sx):Option AV:=
 match op with
 | .add=>some (.sx k (.bin .add k a b))
 | .sub=>some (.sx k (.bin .sub k a b))
 | .mul=>some (.sx k (.bin .mul k a b))
 | .and=>some (.sx k (.bin .and k a b))
 | .or=>some (.sx k (.bin .or k a b))
 | .xor=>some (.sx k (.bin .xor k a b))
 | .andNot=>some (.sx k (.bin .andNot k a b))
 | .quo=>match D .eql b (.lit 0)with
   |some false=>some (.sx k (.bin .quo k a b))
   |_=>none
 | .rem=>match D .eql b (.lit 0)with
   |some false=>some (.sx k (.bin .rem k a b))
   |_=>none
 | .shl=>none
 | .shr=>none
 |op=>match D op a b with
  |some r=>some (.bool r)
  |none=>none
def yL(D:BinOp->Sx->Sx->Option Bool)(op:BinOp)(x y:AV):Option AV:=
 match yK x,yK y with
 |some (k,a),some (k',b)=>if k=k' then Cg D op k a b else none
 |_,_=>none
def wh(op:BinOp)(a b:List UInt8):Option AV:=
 match op with
 | .add=>if a.length+b.length<=zg1 then some (.str (a++b))else none
 | .eql=>some (.bool (a == b))
 | .neq=>some (.bool !(a == b))
 | .lss=>some (.bool (rN a b))
 | .leq=>some (.bool (rN a b||a == b))
 | .gtr=>some (.bool !(rN a b||a == b))
 | .geq=>some (.bool !(rN a b))
 |_=>none
def yM(t:TypeId)(x y:AV):Option Bool:=
 match P.underlying t with
 |some .bool=>match x,y with
  | .bool a,.bool b=>some (a == b)
  |_,_=>none
 |some (.pointer _)=>match x,y with
  | .nilP,.nilP=>some true
  | .ptr _ _,.nilP|.nilP,.ptr _ _|.iptr _,.nilP|.nilP,.iptr _=>some false
  |_,_=>none
 |some (.map _ _)=>match x,y with
  | .nilM,.nilM=>some true
  | .map _,.nilM|.nilM,.map _=>some false
  |_,_=>none
 |some (.func _ _ _)=>match x,y with
  | .nilF,.nilF=>some true
  | .clo _ _,.nilF|.nilF,.clo _ _=>some false
  |_,_=>none
 |some (.slice _)=>match x,y with
  | .nilS,.nilS=>some true
  | .sl _ _ _ _,.nilS|.nilS,.sl _ _ _ _|.lst (_::_),.nilS|.nilS,.lst (_::_)=>some false
  |_,_=>none
 |_=>none
def Ch(t:TypeId)(x y:AV):Option Bool:=
 match x,y with
 | .int k a,.int k' b=>match P.underlying t with
   |some (.int _)=>if k=k' then some (a == b)else none
   |_=>none
 | .str a,.str b=>match P.underlying t with
   |some .string=>some (a == b)
   |_=>none
 |x,y=>yM P t x y
def uE(xs Z:List AV):List Field->Option Bool
 |[]=>some true
 |f::fs=>match f.name == "_" with
  |true=>uE xs Z fs
  |false=>match zfy P f.type xs f.offset,zfy P f.type Z f.offset with
   |some a,some b=>match Ch P f.type a b with
    |some true=>uE xs Z fs
    |some false=>some false
    |none=>none
   |_,_=>none
def yN(t:TypeId)(xs Z:List AV):Option Bool:=
 match P.underlying t with
 |some (.struct Y)=>match P.stoodInHeld t||P.eqGuardType P.depth t with
  |true=>none
  |false=>uE P xs Z Y.toList
 |_=>none
def tf(t:TypeId)(x y:AV):Option Bool:=
 match x,y with
 | .agg K,.agg Z=>yN P t K Z
 |x,y=>yM P t x y
def uF(op:BinOp)(k:IntKind)(a b:Int):Option AV:=
 match b with
 | .ofNat m=>match op with
   | .shl=>some (.int k (k.wrap (a*2^ min m k.bits)))
   | .shr=>some (.int k (a.fdiv (2^ min m k.bits)))
   |_=>none
 |_=>none
def rO(op:BinOp)(k Y:IntKind)(a b:Int):Option AV:=
 match op with
 | .shl=>uF .shl k a b
 | .shr=>uF .shr k a b
 |op=>if k=Y then zhA op k a b else none
def Ci(op:BinOp)(t:TypeId)(x y:AV):Option AV:=
 match op with
 | .eql=>match tf P t x y with
   |some b=>some (.bool b)
   |none=>none
 | .neq=>match tf P t x y with
   |some b=>some (.bool !b)
   |none=>none
 |_=>none
def zgV(D:BinOp->Sx->Sx->Option Bool)(op:BinOp)(t:TypeId)(x y:AV):Option AV:=
 match x,y with
 | .int k a,.int k' b=>rO op k k' a b
 | .str a,.str b=>wh op a b
 | .sx k a,y=>yL D op (.sx k a) y
 | .int k a,.sx k' b=>yL D op (.int k a) (.sx k' b)
 |x,y=>Ci P op t x y
def rQ(op:UnOp)(x:AV):Option AV:=
 match op,x with
 | .neg,.sx k e=>some (.sx k (.bin .sub k (.lit 0) e))
 | .xor,.sx k e=>some (.sx k (.bin .xor k (.lit (if k.signed then -1 else k.max)) e))
 | .neg,.int k n=>zhA .sub k 0 n
 | .xor,.int k n=>zhA .xor k (if k.signed then -1 else k.max) n
 | .not,.bool b=>some (.bool !b)
 |_,_=>none
def tg:List AV->Option (List UInt8)
 |[]=>some []
 | .int .u8 n::cs=>match tg cs with
   |some bs=>some (UInt8.ofNat n.toNat::bs)
   |none=>none
 |_=>none
def zhJ(H:Hp)(L K:TypeId)(x:AV):Option AV:=
 match P.underlying L,P.underlying K with
 |some (.slice e),some .string=>match P.underlying e with
  |some (.int .u8)=>match zhd H 1 x with
   |some (_,g)=>match tg g with
    |some bs=>match x with
     | .sl _ _ _ _|.nilS=>some (.str bs)
     |_=>none
    |none=>none
   |none=>none
  |_=>none
 |some _,some (.int k)=>match x with
  | .int _ n=>some (.int k (k.wrap n))
  | .sx _ e=>some (.sx k (.conv k e))
  |_=>none
 |some .string,some .string=>match x with
  | .str s=>some (.str s)
  |_=>none
 |_,_=>none
def zhT(H:Hp)(t:TypeId)(l c:AV):Option (AV×Hp):=
 match P.underlying t,l,c with
 |some (.slice e),.int _ (.ofNat l),.int _ (.ofNat c)=>match zfF P e,zgo P e,zge P e with
  |some s,some b,some z=>if l<=c/\c*b<=zg1/\c<=zg1/\z.length=s then some (.sl H.next 0 l s,H.alloc (.cells (nY z l) 0 true))else none
  |_,_,_=>none
 |_,_,_=>none
def extract(x:AV)(i:Nat):Option AV:=
 match x with
 | .tup vs=>vs[i]?
 |_=>none
def mm(I:Bool):AV->AV->Option AV
 | .int k x,.int _ y=>some (.int k (if (if I then decide (y > x)else decide (y<x))then y else x))
 |_,_=>none
def rR(I:Bool)(x:AV):List AV->Option AV
 |[]=>some x
 |y::ys=>match mm I x y with
  |some z=>rR I z ys
  |none=>none
def zf9(H:Hp)(t:TypeId)(x:AV):Option AV:=
 match P.underlying t with
 |some .string=>match x with
  | .str s=>some (.int .i64 s.length)
  |_=>none
 |some (.slice _)=>match x with
  | .sl _ _ n _=>some (.int .i64 n)
  | .lst K=>some (.int .i64 K.length)
  | .nilS=>some (.int .i64 0)
  |_=>none
 |some (.array n _)=>some (.int .i64 n)
 |some (.map _ _)=>match te H x with
  |some V=>some (.int .i64 V.length)
  |none=>none
 |_=>none
def pI(keep:Bool)(H:Hp)(b:Builtin)(Z:List TypeId)(j:List AV):Option (AV×Hp):=
 match b with
 | .append=>match Z,j with
   |[t,u],[s,x]=>zgH P keep H t u s x
   |_,_=>none
 | .len=>match Z,j with
   |[t],[x]=>match zf9 P H t x with
    |some v=>some (v,H)
    |none=>none
   |_,_=>none
 | .max=>match j with
   |x::xs=>match rR true x xs with
    |some v=>some (v,H)
    |none=>none
   |[]=>none
 | .min=>match j with
   |x::xs=>match rR false x xs with
    |some v=>some (v,H)
    |none=>none
   |[]=>none
 |_=>none
def ret(H:Hp):Option AV->Option (AV×Hp)
 |some v=>some (v,H)
 |none=>none
def yO(E:aw)(H:Hp)(c a b:Operand):Option (AV×Hp):=
 match zfl E c with
 |some (.bool true)=>ret H (zfl E a)
 |some (.bool false)=>ret H (zfl E b)
 |_=>none
def wi(H:Hp)(t:TypeId):Option (AV×Hp):=
 match zge P t with
 |some z=>some (.ptr H.next 0,H.alloc (.cells z 0 true))
 |none=>none
def wj(E:aw)(H:Hp)(x:Operand):Option (AV×Hp):=
 match zfl E x with
 |some v=>some (.ptr H.next 0,H.alloc (.cells v.cells 0 true))
 |none=>none
def yP(E:aw)(H:Hp)(t:TypeId)(I:Array (Nat×Operand)):Option (AV×Hp):=
 match zhF E I.toList with
 |some J=>ret H (zgB P t J)
 |none=>none
def wl(E:aw)(H:Hp)(t:TypeId)(len:Nat)(I:Array (Nat×Operand)):Option (AV×Hp):=
 match zhF E I.toList with
 |some J=>zgW P H t len J
 |none=>none
def wm(E:aw)(H:Hp)(t:TypeId)(a:Operand):Option (AV×Hp):=
 match zfl E a with
 |some v=>ret H (iU P H t v)
 |none=>none
def yQ(E:aw)(H:Hp)(t:TypeId)(a x:Operand):Option (AV×Hp):=
 match zfl E a,zfl E x with
 |some a,some x=>match nf P H t a x with
  |some H=>some (zgA,H)
  |none=>none
 |_,_=>none
def yR(E:aw)(H:Hp)(x:Operand):Option (AV×Hp):=
 match zfl E x with
 |some (.ptr r o)=>some (.ptr r o,H)
 |some (.iptr g)=>some (.iptr g,H)
 |_=>none
def yS(D:BinOp->Sx->Sx->Option Bool)(E:aw)(H:Hp)(op:BinOp)(t:TypeId)(x y:Operand):Option (AV×Hp):=
 match zfl E x,zfl E y with
 |some x,some y=>ret H (zgV P D op t x y)
 |_,_=>none
def yT(E:aw)(H:Hp)(op:UnOp)(x:Operand):Option (AV×Hp):=
 match zfl E x with
 |some x=>ret H (rQ op x)
 |none=>none
def wn(E:aw)(H:Hp)(s d:TypeId)(x:Operand):Option (AV×Hp):=
 match zfl E x with
 |some x=>ret H (zhJ P H s d x)
 |none=>none
def yU(E:aw)(H:Hp)(Z:Fn)(first M:Array Operand):Option (AV×Hp):=
 match Z,first.toList,zhq E M.toList with
 | .func f,[],some vs=>some (.clo f vs,H)
 |_,_,_=>none
def wo(H:Hp)(r:Option Operand):Option (AV×Hp):=
 match r with
 |none=>some (.map H.next,H.alloc (.map []))
 |some _=>none
def wq(E:aw)(H:Hp)(t:TypeId)(l c:Operand):Option (AV×Hp):=
 match zfl E l,zfl E c with
 |some l,some c=>zhT P H t l c
 |_,_=>none
def jW(E:aw):Option Operand->Option (Option AV)
 |none=>some none
 |some x=>match zfl E x with
  |some v=>some (some v)
  |none=>none
def wr(E:aw)(H:Hp)(t:TypeId)(x:Operand)(lo I Z:Option Operand):Option (AV×Hp):=
 match Z,zfl E x,jW E lo,jW E I with
 |none,some x,some l,some h=>ret H (nX P H t x l h)
 |_,_,_,_=>none
def yV(E:aw)(H:Hp)(t:TypeId)(x:Operand)(f:Nat):Option (AV×Hp):=
 match zfl E x with
 |some x=>ret H (zfu P t x f)
 |none=>none
def yW(E:aw)(H:Hp)(t:TypeId)(x:Operand)(f:Nat):Option (AV×Hp):=
 match zfl E x with
 |some x=>ret H (zf5 P t x f)
 |none=>none
def yX(E:aw)(H:Hp)(t:TypeId)(x i:Operand):Option (AV×Hp):=
 match zfl E x,zfl E i with
 |some x,some i=>ret H (zgi P t x i)
 |_,_=>none
def yY(E:aw)(H:Hp)(t:TypeId)(x i:Operand):Option (AV×Hp):=
 match zfl E x,zfl E i with
 |some x,some i=>ret H (oS P t x i)
 |_,_=>none
def wt(E:aw)(H:Hp)(t:TypeId)(m k:Operand)(ok:Bool):Option (AV×Hp):=
 match zfl E m,zfl E k with
 |some m,some k=>ret H (zhv P H t m k ok)
 |_,_=>none
def yZ(E:aw)(H:Hp)(t:TypeId)(m k v:Operand):Option (AV×Hp):=
 match zfl E m,zfl E k,zfl E v with
 |some m,some k,some v=>match jj P H t m k v with
  |some H=>some (zgA,H)
  |none=>none
 |_,_,_=>none
def y0(E:aw)(H:Hp)(x:Operand)(i:Nat):Option (AV×Hp):=
 match zfl E x with
 |some x=>ret H (extract x i)
 |none=>none
def de(D:BinOp->Sx->Sx->Option Bool)(E:aw)(H:Hp)(op:Op):Option (AV×Hp):=
 match op with
 | .move x=>ret H (zfl E x)
 | .assign x=>ret H (zfl E x)
 | .pick c a b=>yO E H c a b
 | .alloc t=>wi P H t
 | .box _ x=>wj E H x
 | .build t I=>yP P E H t I
 | .buildSlice t j I=>wl P E H t j I
 | .load t a=>wm P E H t a
 | .store t a x=>yQ P E H t a x
 | .nilCheck x=>yR E H x
 | .binOp op t x y _=>yS P D E H op t x y
 | .unOp op _ x=>yT E H op x
 | .convert s d x=>wn P E H s d x
 | .makeFunc Z first M=>yU E H Z first M
 | .makeMap _ r=>wo H r
 | .makeSlice t l c=>wq P E H t l c
 | .slice t x Y V U=>wr P E H t x Y V U
 | .fieldAddr t x f=>yV P E H t x f
 | .field t x f=>yW P E H t x f
 | .indexAddr t x i=>yX P E H t x i
 | .index t x i=>yY P E H t x i
 | .lookup t m k ok=>wt P E H t m k ok
 | .mapUpdate t m k v=>yZ P E H t m k v
 | .extract x i=>y0 E H x i
 |_=>none
inductive Task where
 |code (f:FuncId) (N:Nat) (c:Code) (E:aw) (H:Hp)
 |call (f:FuncId) (args:List AV) (H:Hp)
inductive AX where
 |normal|exit (id:Nat)|ret
inductive Res where
 |done (x:AX) (E:aw) (H:Hp)
 |val (v:AV) (H:Hp)
 |fail
def fk(N:Nat)(E:aw)(K:Option Tmp)(v:AV):Option aw:=
 match K with
 |some d=>match Nat.blt d N with
  |true=>some (T.set E d (some v))
  |false=>none
 |none=>some E
def y4(ops:List Oper)(E:aw)(j:Nat):Option Bool:=
 match (ops[j]?).bind (·.dst)with
 |some d=>match E.at d with|.bool b=>some b |_=>none
 |none=>none
def zhw(ops:List Oper)(E:aw)(o:Oper):Bool:=
 match o.guard with
 |none=>true
 |some (j,U)=>match y4 ops E j with
  |some b=>b == U
  |none=>false
variable (cfg:Cfg)
def rS(ih:Task->Res)(f:FuncId)(E:aw)(H:Hp)(c:Call):Res:=
 match c.callee with
 | .value g=>match zfl E g,zhq E c.args.toList with
   |some (.clo k K),some vs=>ih (.call k (vs++K) H)
   |_,_=>.fail
 | .builtin b=>match zhq E c.args.toList with
   |some vs=>match pI P (cfg.keep f) H b c.argTypes.toList vs with
    |some (v,H)=>.val v H
    |none=>.fail
   |none=>.fail
 |_=>.fail
def gT:Option (AV×Hp)->Res
 |some (v,H)=>.val v H
 |none=>.fail
def zgI(ih:Task->Res)(f:FuncId)(E:aw)(H:Hp)(op:Op):Res:=
 match op with
 | .call c=>rS P cfg ih f E H c
 |op=>gT (de P cfg.dec E H op)
def Sx.beq:Sx->Sx->Bool
 | .var i,.var j=>Nat.beq i j
 | .lit a,.lit b=>a == b
 | .bin o k a b,.bin M k' L Z=>decide (o=M)&&decide (k=k')&&Sx.beq a L&&Sx.beq b Z
 | .conv k a,.conv k' b=>decide (k=k')&&Sx.beq a b
 |_,_=>false
mutual
def AV.beq:AV->AV->Bool
 | .int k a,.int k' b=>decide (k=k')&&(a == b)
 | .sx k a,.sx k' b=>decide (k=k')&&Sx.beq a b
 | .bool a,.bool b=>a == b
 | .str a,.str b=>a == b
 | .nilP,.nilP|.nilM,.nilM|.nilF,.nilF|.nilS,.nilS=>true
 | .ptr r o,.ptr O M=>Nat.beq r O&&Nat.beq o M
 | .iptr a,.iptr b=>lE a b
 | .sl r o l z,.sl O M g J=>Nat.beq r O&&Nat.beq o M&&Nat.beq l g&&Nat.beq z J
 | .lst a,.lst b=>th a b
 | .map r,.map O=>Nat.beq r O
 | .clo f a,.clo Z b=>Nat.beq f Z&&lE a b
 | .agg a,.agg b=>lE a b
 | .tup a,.tup b=>lE a b
 |_,_=>false
def lE:List AV->List AV->Bool
 |[],[]=>true
 |a::x,b::y=>AV.beq a b&&lE x y
 |_,_=>false
def th:List (List AV)->List (List AV)->Bool
 |[],[]=>true
 |a::x,b::y=>lE a b&&th x y
 |_,_=>false
end
inductive Kind where
 |calm   -- looks at no memory
 |read
 |make
 |act
def zhh:Op->Kind
 | .load ..|.lookup ..|.convert ..|.slice ..=>.read
 | .alloc _|.box ..|.buildSlice ..|.makeMap ..|.makeSlice ..=>.make
 | .store ..|.mapUpdate ..=>.act
 | .call c=>match c.callee with
   | .builtin .len|.builtin .max|.builtin .min=>.read
   |_=>.act
 |_=>.calm
structure Rec where
 o:Oper
 did:Bool
 E:aw
 H:Hp
 val:AV
 H':Hp
inductive ResD where
 |done (E:aw) (H:Hp) (rs:List Rec)
 |fail
def n1(r:Rec):ResD->ResD
 | .done E H rs=>.done E H (r::rs)
 | .fail=>.fail
def zhW(Z:aw->Hp->ResD)(H:Hp):Option aw->ResD
 |some E=>Z E H
 |none=>.fail
def jq(ih:Task->Res)(f N:Nat)(Z:List Oper):List Oper->aw->Hp->ResD
 |[],E,H=>.done E H []
 |o::rest,E,H=>match zhw Z E o with
  |true=>match zgI P cfg ih f E H o.op with
   | .val v H'=>n1 ⟨o,true,E,H,v,H'⟩ (zhW (jq ih f N Z rest) H' (fk N E o.dst v))
   |_=>.fail
  |false=>n1 ⟨o,false,E,H,zgA,H⟩ (zhW (jq ih f N Z rest) H (fk N E o.dst zgA))
def preds(o:Oper):List Nat:=(o.after.toList.filter (Region.binds .any)).map (·.on)
def uG:List Nat->List Nat->List Nat
 |acc,[]=>acc
 |acc,x::xs=>match acc.contains x with
  |true=>uG acc xs
  |false=>uG (x::acc) xs
def wu(l:List Nat):List Nat:=uG [] l
def iw:List Oper->List (List Nat)->List (List Nat)
 |[],acc=>acc
 |o::rest,acc=>iw rest (acc++[wu (preds o++(preds o).flatMap fun i=>acc.getD i [])])
def Gn(o:Oper):List Nat:=o.dst.toList++o.op.operands.toList.filterMap fun|.tmp t=>some t |_=>none
def rT(Z:List Oper)(o:Oper):List Nat:=Gn o++(match o.guard with|some (j,_)=>((Z[j]?).bind (·.dst)).toList|none=>[])
def mI(o:Oper):Bool:=match zhh o.op with|.act=>true |_=>false
def rU(o:Oper):Bool:=match zhh o.op with|.make=>true |_=>false
def clash(Z:List Oper)(p q:Oper):Bool:=
 (mI p&&(mI q||rU q)) ||
 (p.dst.toList.any fun d=>(rT Z q).contains d)||(q.dst.toList.any fun d=>(rT Z p).contains d)
def pJ(Z:List Oper):Bool:=
 let A:=iw Z []
 (List.range Z.length).all fun j=>match Z[j]? with
   |none=>true
   |some q=>(preds q).all (·< j)&&(match q.guard with|some (g,_)=>(A.getD j []).contains g|none=>true) &&
    (List.range j).all fun i=>match Z[i]? with
      |none=>true
      |some p=>!clash Z p q||(A.getD j []).contains i
def jr(ops:List Oper):List Nat:=(List.range ops.length).filter fun i=>match ops[i]? with
 |some o=>mI o
 |none=>false
def zf3(rs:List Rec)(H':Hp)(e:Nat):Hp:=match rs[e]? with
 |some r=>r.H
 |none=>H'
def HB.beq:HB->HB->Bool
 | .cells a i t,.cells b j u=>lE a b&&Nat.beq i j&&(t == u)
 | .map a,.map b=>lE (a.map (·.1)) (b.map (·.1))&&lE (a.map (·.2)) (b.map (·.2))
 |_,_=>false
def zdQ(r:Rec)(H:Hp):Bool:=
 match zhh r.o.op with
 | .read=>match zgI P cfg (fun _=>.fail) 0 r.E H r.o.op with
   | .val v _=>AV.beq v r.val
   |_=>false
 | .make=>match H.get r.H.next,r.H'.get r.H.next with
   |some b,some o=>HB.beq b o
   |_,_=>false
 |_=>true
def y9(A:List (List Nat))(V:List Nat)(i m:Nat):Bool:=
 !(V.any (fun e=>(A.getD i []).contains e&&Nat.ble m e)||V.any (fun e=>(A.getD e []).contains i&&Nat.blt e m))
def od(ops:List Oper):List (Nat×Nat):=
 (List.range ops.length).flatMap fun i=>match ops[i]? with
   |some o=>match zhh o.op with
    | .read|.make=>((jr ops++[ops.length]).filter (y9 (iw ops []) (jr ops) i)).map fun m=>(i,m)
    |_=>[]
   |none=>[]
def ti(L:List (Nat×Nat))(rs:List Rec)(H':Hp):Bool:=
 rs.all (fun r=>Nat.ble r.H.next r.H'.next)&&L.all fun p=>match rs[p.1]? with
  |some r=>!r.did||zdQ P cfg r (zf3 rs H' p.2)
  |none=>true
def mJ(ih:Task->Res)(f N:Nat)(ops:List Oper)(E:aw)(H:Hp):Res:=
 match pJ ops with
 |true=>match jq P cfg ih f N ops ops E H with
  | .done E' H' rs=>match ti P cfg (od ops) rs H' with
    |true=>.done .normal E' H'
    |false=>.fail
  | .fail=>.fail
 |false=>.fail
def iW:List Nat->Nat->Nat
 |[],_=>0
 |x::xs,i=>match Nat.beq x i with
  |true=>0
  |false=>iW xs i+1
def rV(g:List Nat)(o:Oper):Oper:=
 {o with after:=((o.after.toList.filter (Region.binds .any)).map fun e=>{e with on:=iW g e.on}).toArray,guard:=match o.guard with|some (j,b)=>some (iW g j,b)|none=>none}
def iy(g:List Nat)(l:List Oper):List Oper:=g.filterMap fun i=>match l[i]? with
 |some o=>some (rV g o)
 |none=>none
def ww(g:List Nat)(l:List Oper):Bool:=
 Nat.beq g.length l.length &&
 (List.range l.length).all (fun k=>(match g[k]? with|some i=>Nat.blt i l.length&&Nat.beq (iW g i) k|none=>false)&&Nat.blt (iW g k) l.length&&(match g[iW g k]? with|some i=>Nat.beq i k|none=>false)) &&
 l.all (fun o=>(preds o).all (fun p=>Nat.blt p l.length)&&(match o.guard with|some (j,_)=>Nat.blt j l.length|none=>true))
def js(q p:Nat)(l:List Oper):List Oper:=match l[q]? with
 |some o=>l.set q {o with after:=o.after.push {on:=p,ground:=.data} }
 |none=>l
def T.beq{i:Type}(U:i->i->Bool):T i->T i->Bool
 | .e,.e=>true
 | .n v l r,.n O g Z=>(match v,O with|some a,some b=>U a b|none,none=>true |_,_=>false)&&T.beq U l g&&T.beq U r Z
 |_,_=>false
def Cj(ops:List Oper)(Z Y:aw)(L J:Hp):Bool:=
 ops.all (fun o=>match o.dst with|some d=>AV.beq (Z.at d) (Y.at d)|none=>true)&&Nat.beq L.next J.next&&T.beq HB.beq L.t J.t
def tj(ops:List Oper):Res->Res->Res
 | .done .normal E1 H1,.done .normal L J=>match Cj ops E1 L H1 J with
   |true=>.done .normal E1 H1
   |false=>.fail
 |_,_=>.fail
def zhB(ih:Task->Res)(f N:Nat)(E:aw)(H:Hp):Plan->List Oper->Res
 | .text,ops=>mJ P cfg ih f N ops E H
 | .perm ord,ops=>match ww ord ops with
   |true=>mJ P cfg ih f N (iy ord ops) E H
   |false=>.fail
 | .split p q a b,ops=>match Nat.beq p q with
   |true=>.fail
   |false=>tj ops (zhB ih f N E H a (js q p ops)) (zhB ih f N E H b (js p q ops))
def zhD(Z:aw->Hp->Res)(H:Hp):Option aw->Res
 |some E=>Z E H
 |none=>.fail
def jP(ih:Task->Res)(f N:Nat)(Z:List Oper)(ops:List Oper):aw->Hp->Res:=
 List.rec (motive:=fun _=>aw->Hp->Res) (fun E H=>.done .normal E H)
  (fun o _ Y E H=>match zhw Z E o with
    |true=>match zgI P cfg ih f E H o.op with
     | .val v H=>zhD Y H (fk N E o.dst v)
     |_=>.fail
    |false=>zhD Y H (fk N E o.dst zgA)) ops
def wy:Nat->aw
 |0=>.e
 |d+1=>.n (some zgA) (wy d) (wy d)
def tk(N:Nat):aw:=wy (Nat.log2 N+1)
def zft:Nat->List AV->aw->aw
 |_,[],E=>E
 |i,v::vs,E=>zft (i+1) vs (T.set E i (some v))
def zgN(E:aw)(H:Hp):ResultVar->Option AV
 | .tmp t=>some (E.at t)
 | .cell a t=>iU P H t (E.at a)
def zgD(E:aw)(H:Hp):List ResultVar->Option (List AV)
 |[]=>some []
 |r::rs=>match zgN P E H r,zgD E H rs with
  |some v,some vs=>some (v::vs)
  |_,_=>none
def zfi:List AV->AV
 |[v]=>v
 |vs=>.tup vs
def uH(rs:List ResultVar)(E:aw)(H:Hp):Res:=
 match zgD P E H rs with
 |some vs=>.val (zfi vs) H
 |none=>.fail
def og(ih:Task->Res)(f:FuncId)(j:List AV)(H:Hp):Res:=
 match P.funcs[f]? with
 |some Z=>match Z.body with
  |some c=>match ih (.code f (max Z.ntmps j.length) c (zft 0 j (tk (max Z.ntmps j.length))) H)with
   | .done .normal E H=>uH P Z.results.toList E H
   | .done .ret E H=>uH P Z.results.toList E H
   |_=>.fail
  |none=>.fail
 |none=>.fail
def oh(ih:Task->Res)(f N:Nat)(b:Code):Res->Res
 | .done .normal E H=>ih (.code f N b E H)
 |r=>r
def zhU(id:Nat):Res->Res
 | .done (.exit i) E H=>match Nat.beq i id with
   |true=>.done .normal E H
   |false=>.done (.exit i) E H
 |r=>r
def tl(ih:Task->Res)(f N:Nat)(x:Operand)(a b:Code)(E:aw)(H:Hp):Res:=
 match zfl E x with
 |some (.bool true)=>ih (.code f N a E H)
 |some (.bool false)=>ih (.code f N b E H)
 |_=>.fail
def jN(z:Nat):Nat->List AV->List (List AV)
 |0,_=>[]
 |n+1,l=>l.take z::jN z n (l.drop z)
def kn(g:AV->Hp->Option (AV×Hp)):List AV->Hp->Option (List AV×Hp)
 |[],H=>some ([],H)
 |c::cs,H=>match g c H with
  |some (d,H)=>match kn g cs H with
   |some (Z,H)=>some (d::Z,H)
   |none=>none
  |none=>none
def iz:Nat->AV->Hp->Option (AV×Hp)
 |0,_,_=>none
 |n+1,v,H=>match v with
  | .sl r m j z=>match H.get r with
    |some (.cells g V I)=>match Nat.ble (m+j*z) g.length&&Nat.ble V g.length with
     |true=>match kn (iz n) ((g.drop m).take (j*z)) (H.set r (.cells g (max V (m+j*z)) I))with
      |some (l,H)=>some (.lst (jN z j l),H)
      |none=>none
     |false=>none
    |_=>none
  | .agg g=>match kn (iz n) g H with
    |some (Z,H)=>some (.agg Z,H)
    |none=>none
  | .ptr _ _=>none
  | .map _=>none
  |v=>some (v,H)
def wz(ih:Task->Res)(f:FuncId)(j:List AV)(H:Hp):Option (List AV×Hp)->Res
 |some (Z,H')=>match cfg.call f Z with
  |some r=>.val r H'
  |none=>og P ih f j H
 |none=>og P ih f j H
def uI:Bool->Res->Res
 |true,.val v H=>gT (iz 100 v H)
 |_,r=>r
def ol(ih:Task->Res)(f:FuncId)(j:List AV)(H:Hp):Res:=match cfg.ice f with
 |true=>wz P cfg ih f j H (kn (iz 100) j H)
 |false=>og P ih f j H
def step(ih:Task->Res):Task->Res
 | .call f j H=>match cfg.call f j with
   |some r=>.val r H
   |none=>uI (cfg.froz f) (ol P cfg ih f j H)
 | .code f N c E H=>match c with
   | .skip=>.done .normal E H
   | .region id ops draw=>match draw with
     |false=>jP P cfg ih f N ops.toList ops.toList E H
     |true=>zhB P cfg ih f N E H (cfg.plan f id) ops.toList
   | .seq a b=>oh ih f N b (ih (.code f N a E H))
   | .cond x a b=>tl ih f N x a b E H
   | .block id a=>zhU id (ih (.code f N a E H))
   | .loop a=>oh ih f N (.loop a) (ih (.code f N a E H))
   | .exit id=>.done (.exit id) E H
   | .ret=>.done .ret E H
   |_=>.fail
def ev(n:Nat):Task->Res:=Nat.rec (motive:=fun _=>Task->Res) (fun _=>.fail) (fun _ ih=>step P cfg ih) n
end
def zfM:Hp:={next:=0,t:=.e}
def iceL(g:AV->Option AV):List AV->Option (List AV)
 |[]=>some []
 |c::cs=>match g c,iceL g cs with
  |some d,some Z=>some (d::Z)
  |_,_=>none
def rW(g:AV->Option AV):List (List AV)->Option (List (List AV))
 |[]=>some []
 |c::cs=>match iceL g c,rW g cs with
  |some d,some Z=>some (d::Z)
  |_,_=>none
def iceV(H:Hp):Nat->AV->Option AV
 |0,_=>none
 |n+1,v=>match v with
  | .sl r m j z=>match H.get r with
    |some (.cells g _ _)=>match iceL (iceV H n) ((g.drop m).take (j*z))with
     |some l=>if l.length=j*z then some (.lst (jN z j l))else none
     |none=>none
    |_=>none
  | .lst K=>match rW (iceV H n) K with
    |some Y=>some (.lst Y)
    |none=>none
  | .agg g=>match iceL (iceV H n) g with
    |some Z=>some (.agg Z)
    |none=>none
  | .tup g=>match iceL (iceV H n) g with
    |some Z=>some (.tup Z)
    |none=>none
  | .int k a=>some (.int k a)
  | .sx k e=>some (.sx k e)
  | .bool b=>some (.bool b)
  | .str s=>some (.str s)
  | .nilP=>some .nilP
  | .nilM=>some .nilM
  | .nilF=>some .nilF
  | .nilS=>some .nilS
  |_=>none
def wA(P:Program)(cfg:Cfg)(n m:Nat)(f:FuncId)(j:List AV):Option AV:=
 match ev P cfg n (.call f j zfM)with
 | .val v H=>iceV H m v
 |_=>none
def qM(m:Nat)(j:List AV):Bool:=
 match iceL (iceV zfM m) j with
 |some Z=>lE Z j
 |none=>false
def Ck(P:Program)(cfg:Cfg)(n m:Nat)(f:FuncId)(j:List AV)(r:AV):Bool:=
 match wA P cfg n m f j with
 |some q=>AV.beq q r
 |none=>false
def tm:List (FuncId×List AV×AV)->FuncId->List AV->Option AV
 |[],_,_=>none
 |p::l,f,args=>match Nat.beq p.1 f with
  |true=>match lE p.2.1 args with
   |true=>some p.2.2
   |false=>tm l f args
  |false=>tm l f args
end
end Go.Ab
