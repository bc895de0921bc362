/- Parts: AbDefs. -/
import GoSem.Step
set_option linter.unusedSimpArgs false
set_option linter.unusedVariables false
set_option linter.unusedSectionVars false
set_option linter.defProp false
set_option maxHeartbeats 32000000
namespace Go.Ab
noncomputable section
open Go
inductive T (α:Type) where
 |e
 |n (v:Option α) (l r:T α)
def jn{z:Type}(b:Bool)(x y:z):z:=Bool.rec y x b
def T.get{z:Type}(t:T z):Nat->Option z:=
 T.rec (motive:=fun _=>Nat->Option z) (fun _=>none)
  (fun v _ _ C Z k=>jn (Nat.beq k 0) v (jn (Nat.beq (Nat.mod k 2) 1) (C (Nat.div k 2)) (Z (Nat.sub (Nat.div k 2) 1)))) t
def rE{z:Type}(v:Option z)(f:Nat):T z->Nat->T z:=
 Nat.rec (motive:=fun _=>T z->Nat->T z) (fun t _=>t)
  (fun _ ih t k=>T.casesOn t
    (jn (Nat.beq k 0) (.n v .e .e) (jn (Nat.beq (Nat.mod k 2) 1) (.n none (ih .e (Nat.div k 2)) .e) (.n none .e (ih .e (Nat.sub (Nat.div k 2) 1)))))
    (fun u l r=>jn (Nat.beq k 0) (.n v l r) (jn (Nat.beq (Nat.mod k 2) 1) (.n u (ih l (Nat.div k 2)) r) (.n u l (ih r (Nat.sub (Nat.div k 2) 1)))))) f
def T.set{z:Type}(t:T z)(k:Nat)(v:Option z):T z:=rE v (k+1) t k
inductive Sx where
 |var (i:Nat)
 |lit (n:Int)
 |bin (op:BinOp) (k:IntKind) (a b:Sx)
 |conv (k:IntKind) (a:Sx)
inductive AV where
 |int (k:IntKind) (n:Int)
 |sx (k:IntKind) (e:Sx)
 |bool (b:Bool)
 |str (s:List UInt8)
 |nilP|nilM|nilF|nilS
 |ptr (r:Nat) (off:Nat)
 |iptr (cs:List AV)
 |sl (r off len z:Nat)
 |lst (xs:List (List AV))
 |map (r:Nat)
 |clo (f:Nat) (cap:List AV)
 |agg (cs:List AV)
 |tup (vs:List AV)
inductive HB where
 |cells (cs:List AV) (imm:Nat) (tip:Bool)
 |map (es:List (AV×AV))
structure Hp where
 next:Nat
 t:T HB
def Hp.get(h:Hp)(r:Nat):Option HB:=h.t.get r
def Hp.set(h:Hp)(r:Nat)(b:HB):Hp:={next:=h.next,t:=h.t.set r (some b) }
def Hp.kill(h:Hp)(r:Nat):Hp:={next:=h.next,t:=h.t.set r none}
def Hp.alloc(h:Hp)(b:HB):Hp:={next:=h.next+1,t:=h.t.set h.next (some b) }
inductive Plan where
 |text
 |perm (ord:List Nat)
 |split (p q:Nat) (a b:Plan)
structure Cfg where
 keep:FuncId->Bool
 dec:BinOp->Sx->Sx->Option Bool:=fun _ _ _=>none
 call:FuncId->List AV->Option AV:=fun _ _=>none
 ice:FuncId->Bool:=fun _=>false
 plan:FuncId->Nat->Plan:=fun _ _=>.text
 froz:FuncId->Bool:=fun _=>false
abbrev au:=T AV
def zcb:AV:=.tup []
def au.at(E:au)(t:Nat):AV:=(T.get E t).getD zcb
def um:Value->Option AV
 | .int k n=>some (.int k n)
 | .bool b=>some (.bool b)
 | .string s=>some (.str s.data.toList)
 | .pointer none=>some .nilP
 | .slice none 0 0=>some .nilS
 | .map none=>some .nilM
 | .nilFunc=>some .nilF
 |_=>none
def ta:Value->Option AV
 | .agg Z=>(Z.toList.mapM um).map .agg
 |v=>um v
def zaZ(E:au):Operand->Option AV
 | .tmp t=>some (E.at t)
 | .const v=>ta v
 | .global _=>none
 | .func f=>some (.clo f [])
def zcY(E:au):List Operand->Option (List AV)
 |[]=>some []
 |x::xs=>match zaZ E x,zcY E xs with
  |some v,some vs=>some (v::vs)
  |_,_=>none
def AV.cells:AV->List AV
 | .agg Z=>Z
 |v=>[v]
def AV.one:AV->Bool
 | .agg _|.tup _=>false
 |_=>true
section
variable (P:Program)
def zbh(t:TypeId):Option Nat:=(P.info? t).map (·.size)
def zb3(t:TypeId):Option Nat:=(P.info? t).map (·.bytes)
def pz(t:TypeId):Option AV:=
 match P.info? t with
 |some {zero:=some z,.. }=>ta z
 |_=>none
def zbU(t:TypeId):Option (List AV):=
 match pz P t with
 |some v=>some v.cells
 |none=>none
def zba(t:TypeId)(cs:List AV)(off:Nat):Option AV:=
 match P.underlying t with
 |some (.struct _)|some (.array _ _)=>
  match zbh P t with
  |some s=>let l:=(cs.drop off).take s;if l.length=s then some (.agg l)else none
  |none=>none
 |some _=>cs[off]?
 |none=>none
def ip(H:Hp)(t:TypeId):AV->Option AV
 | .ptr r K=>match H.get r with
   |some (.cells Z _ _)=>zba P t Z K
   |_=>none
 | .iptr Z=>zba P t Z 0
 |_=>none
def splice(cs:List AV)(off:Nat)(M:List AV):List AV:=cs.take off++M++cs.drop (off+M.length)
def lV(H:Hp)(t:TypeId)(a v:AV):Option Hp:=
 match a with
 | .ptr r K=>match H.get r,zbh P t with
   |some (.cells Z L g),some s=>
    if v.cells.length=s/\L<=K/\K+s<=Z.length/\v.cells.all AV.one then some (H.set r (.cells (splice Z K v.cells) L g))else none
   |_,_=>none
 |_=>none
def za6(t:TypeId)(a:AV)(i:Nat):Option AV:=
 match P.underlying t with
 |some (.struct L)=>match L[i]? with
  |some f=>match zbh P f.type with
   |some (_+1)=>match a with
    | .ptr r K=>some (.ptr r (K+f.offset))
    | .iptr Z=>some (.iptr (Z.drop f.offset))
    |_=>none
   |_=>none
  |none=>none
 |_=>none
def zbG(t:TypeId)(x:AV)(i:Nat):Option AV:=
 match P.underlying t,x with
 |some (.struct L),.agg Z=>match L[i]? with
  |some f=>zba P f.type Z f.offset
  |none=>none
 |_,_=>none
def zaV(n:Int):Option Nat:=match n with|.ofNat k=>some k |_=>none
def zb1(t:TypeId)(x i:AV):Option AV:=
 match i with
 | .int _ (.ofNat k)=>match P.underlying t with
   |some (.slice e)=>match zbh P e with
    |some s=>match x with
     | .sl r K g _=>if k<g then some (.ptr r (K+k*s))else none
     | .lst M=>match M[k]? with
       |some Z=>if Z.length=s then some (.iptr Z)else none
       |none=>none
     |_=>none
    |none=>none
   |some (.array n e)=>match zbh P e with
    |some s=>match x with
     | .ptr r K=>if k<n then some (.ptr r (K+k*s))else none
     |_=>none
    |none=>none
   |_=>none
 |_=>none
def nH(t:TypeId)(x i:AV):Option AV:=
 match i with
 | .int _ (.ofNat k)=>match P.underlying t,x with
   |some .string,.str s=>match s[k]? with
    |some b=>some (.int .u8 b.toNat)
    |none=>none
   |some (.array n e),.agg Z=>if k<n then (match zbh P e with|some s=>zba P e Z (k*s)|none=>none)else none
   |_,_=>none
 |_=>none
def zcS(d:Nat):Option AV->Option Nat
 |none=>some d
 |some (.int _ (.ofNat k))=>some k
 |some _=>none
def jo(t:TypeId)(x:AV)(lo Z:Option AV):Option AV:=
 match P.underlying t,x with
 |some .string,.str s=>
  match zcS 0 lo,zcS s.length Z with
  |some l,some h=>if l<=h/\h<=s.length then some (.str ((s.drop l).take (h-l)))else none
  |_,_=>none
 |some (.slice e),x=>match zbh P e with
  |some z=>match x with
   | .sl r K g Y=>match zcS 0 lo,zcS g Z with
     |some l,some h=>if l<=h/\h<=g/\Y=z then (if l=h then some (.lst [])else some (.sl r (K+l*z) (h-l) z))else none
     |_,_=>none
   | .lst M=>match zcS 0 lo,zcS M.length Z with
     |some l,some h=>if l<=h/\h<=M.length then (match (M.drop l).take (h-l)with
      |[]=>some (.lst [])
      |row::rows=>if row.length=z then some (.lst (row::rows))else none)else none
     |_,_=>none
   | .nilS=>match zcS 0 lo,zcS 0 Z with
     |some 0,some 0=>some .nilS
     |_,_=>none
   |_=>none
  |none=>none
 |_,_=>none
def mJ(H:Hp)(t:TypeId)(x:AV)(lo Z:Option AV):Option AV:=
 match x with
 | .ptr r K=>match P.underlying t,H.get r with
   |some (.array n e),some (.cells Y _ _)=>match zbh P e,zcS 0 lo,zcS n Z with
    |some z,some l,some h=>if l<=h/\h<=n/\K+n*z<=Y.length then (if l=h then some (.lst [])else some (.sl r (K+l*z) (h-l) z))else none
    |_,_,_=>none
   |_,_=>none
 |x=>jo P t x lo Z
def oz(m:Nat->Option (Nat×Nat))(cells:List AV):List (Nat×AV)->Option (List AV)
 |[]=>some cells
 |(i,v)::rest=>match m i with
  |none=>none
  |some (K,O)=>if v.cells.length≠O\/K+v.cells.length > cells.length then none else oz m (splice cells K v.cells) rest
def zde(E:au):List (Nat×Operand)->Option (List (Nat×AV))
 |[]=>some []
 |(i,x)::rest=>match zaZ E x,zde E rest with
  |some v,some vs=>some ((i,v)::vs)
  |_,_=>none
def DT(L:List Field):Option (List (Nat×Nat)):=L.mapM fun f=>(P.info? f.type).map fun i=>(f.offset,i.size)
def zb5(t:TypeId)(J:List (Nat×AV)):Option AV:=
 match zbU P t,P.underlying t with
 |some z,some (.struct L)=>match DT P L.toList with
  |some U=>match oz (fun i=>U[i]?) z J with
   |some Z=>some (.agg Z)
   |none=>none
  |none=>none
 |some z,some (.array _ e)=>match zbh P e with
  |some s=>match oz (fun i=>some (i*s,s)) z J with
   |some Z=>some (.agg Z)
   |none=>none
  |none=>none
 |_,_=>none
def mK(z:List AV):Nat->List AV
 |0=>[]
 |n+1=>z++mK z n
def zcv(H:Hp)(t:TypeId)(len:Nat)(J:List (Nat×AV)):Option (AV×Hp):=
 match P.underlying t with
 |some (.slice e)=>match zbh P e,zbU P e with
  |some s,some z=>if len*s<=16777216/\z.length=s then (match oz (fun i=>some (i*s,s)) (mK z len) J with
   |some Z=>some (.sl H.next 0 len s,H.alloc (.cells Z 0 true))
   |none=>none)else none
  |_,_=>none
 |_=>none
def zcw:Nat:=70368744177664   -- 2^46
def zcM(H:Hp)(s:Nat):AV->Option (Nat×List AV)
 | .sl r Z g _=>match H.get r with
   |some (.cells Y _ _)=>let l:=(Y.drop Z).take (g*s);if l.length=g*s then some (g,l)else none
   |_=>none
 | .lst M=>if M.all (fun K=>K.length == s)then some (M.length,M.flatten)else none
 | .nilS=>some (0,[])
 | .str b=>if s=1 then some (b.length,b.map fun x=>.int .u8 x.toNat)else none
 |_=>none
def zdB(keep:Bool)(H:Hp)(s b:Nat)(U:AV)(n:Nat)(M:List AV):Option (AV×Hp):=
 match U with
 | .nilS=>if n*b<=zcw/\n<=zcw then some (.sl H.next 0 n s,H.alloc (.cells M 0 true))else none
 | .sl r K g z=>match H.get r with
   |some (.cells Z L true)=>
    if (g+n)*b<=zcw/\g+n<=zcw/\K+g*s=Z.length/\z=s/\L<=Z.length then
     (if keep then some (.sl H.next 0 (g+n) s,(H.set r (.cells Z Z.length false)).alloc (.cells (Z.drop K++M) (g*s) true))
      else some (.sl H.next 0 (g+n) s,(H.kill r).alloc (.cells (Z.drop K++M) (L-K) true)))
    else none
   |_=>none
 |_=>none
def gR(keep:Bool)(H:Hp)(s:Nat):AV->Hp
 | .sl r K g _=>match H.get r with
   |some (.cells Z L true)=>match !keep&&Nat.blt (K+g*s) Z.length&&Nat.ble L (K+g*s)with
    |true=>H.set r (.cells (Z.take (K+g*s)) L true)
    |false=>H
   |_=>H
 |_=>H
def jp(t:TypeId):Bool:=
 match P.underlying t with
 |some (.slice _)|some .string=>true
 |_=>false
def zcg(keep:Bool)(H:Hp)(t u:TypeId)(U x:AV):Option (AV×Hp):=
 match P.underlying t with
 |some (.slice e)=>match zbh P e,zb3 P e,zbU P e with
  |some s,some b,some z=>match jp P u,zcM H s x with
   |true,some (0,_)=>match U with
    | .sl ..|.lst _|.nilS=>some (U,H)
    |_=>none
   |true,some (n,M)=>if M.all AV.one/\z.length=s then zdB keep (gR keep H s U) s b U n M else none
   |_,_=>none
  |_,_,_=>none
 |_=>none
def mL(I:TypeDesc)(x y:AV):Option Bool:=
 match I with
 | .int _=>match x,y with
   | .int k a,.int k' b=>if k=k' then some (a == b)else none
   |_,_=>none
 | .string=>match x,y with
   | .str a,.str b=>some (a == b)
   |_,_=>none
 | .bool=>match x,y with
   | .bool a,.bool b=>some (a == b)
   |_,_=>none
 |_=>none
def lc(t:TypeId):Option TypeDesc:=
 match P.underlying t with
 |some (.int k)=>some (.int k)
 |some .string=>some .string
 |some .bool=>some .bool
 |_=>none
def zcx(I:TypeDesc)(k:AV):List (AV×AV)->Nat->Option (Option (Nat×AV))
 |[],_=>some none
 |(k',v)::es,i=>match mL I k k' with
  |some true=>some (some (i,v))
  |some false=>zcx I k es (i+1)
  |none=>none
def rF(H:Hp):AV->Option (List (AV×AV))
 | .nilM=>some []
 | .map r=>match H.get r with
   |some (.map j)=>some j
   |_=>none
 |_=>none
def uo(ok:Bool)(v:AV)(I:Bool):AV:=match ok with
 |true=>.tup [v,.bool I]
 |false=>v
def jd(H:Hp)(t:TypeId)(m k:AV)(ok:Bool):Option AV:=
 match P.underlying t with
 |some (.map g e)=>match rF H m,lc P g with
  |some j,some I=>match zcx I k j 0 with
   |some (some (_,v))=>some (uo ok v true)
   |some none=>match pz P e with
    |some v=>some (uo ok v false)
    |none=>none
   |none=>none
  |_,_=>none
 |_=>none
def zdu(H:Hp)(t:TypeId)(m k v:AV):Option Hp:=
 match P.underlying t with
 |some (.map g _)=>match m,lc P g with
  | .map r,some I=>match H.get r with
    |some (.map j)=>match zcx I k j 0 with
     |some (some (i,_))=>some (H.set r (.map (j.set i (k,v))))
     |some none=>some (H.set r (.map (j++[(k,v)])))
     |none=>none
    |_=>none
  |_,_=>none
 |_=>none
def qu:List UInt8->List UInt8->Bool
 |_,[]=>false
 |[],_::_=>true
 |a::x,b::y=>a<b||(a == b&&qu x y)
def zc9(op:BinOp)(k:IntKind)(a b:Int):Option AV:=
 match op with
 | .add=>some (.int k (k.wrap (a+b)))
 | .sub=>some (.int k (k.wrap (a-b)))
 | .mul=>some (.int k (k.wrap (a*b)))
 | .quo=>if b=0 then none else some (.int k (k.wrap (a.tdiv b)))
 | .rem=>if b=0 then none else some (.int k (a.tmod b))
 | .and=>some (.int k (k.wrap (BitVec.ofInt k.bits a &&& BitVec.ofInt k.bits b).toNat))
 | .or=>some (.int k (k.wrap (BitVec.ofInt k.bits a |||BitVec.ofInt k.bits b).toNat))
 | .xor=>some (.int k (k.wrap (BitVec.ofInt k.bits a^^^ BitVec.ofInt k.bits b).toNat))
 | .andNot=>some (.int k (k.wrap (BitVec.ofInt k.bits a &&& ~~~ BitVec.ofInt k.bits b).toNat))
 | .eql=>some (.bool (a == b))
 | .neq=>some (.bool (a != b))
 | .lss=>some (.bool (a<b))
 | .leq=>some (.bool (a<=b))
 | .gtr=>some (.bool (a > b))
 | .geq=>some (.bool (a>=b))
 |_=>none
def As(op:BinOp)(k:IntKind)(a b:Int):Int:=
 match zc9 op k a b with
 |some (.int _ n)=>n
 |_=>0
def Sx.eval(ρ:Nat->Int):Sx->Int
 | .var i=>ρ i
 | .lit n=>n
 | .bin O k a b=>As O k (a.eval ρ) (b.eval ρ)
 | .conv k a=>k.wrap (a.eval ρ)
def wT:AV->Option (IntKind×Sx)
 | .int k n=>some (k,.lit n)
 | .sx k e=>some (k,e)
 |_=>none
def At(D:BinOp->Sx->Sx->Option Bool)(op:BinOp)(k:IntKind)(a b:Sx):Option AV:=
 match op with
 | .add=>some (.sx k (.bin .add k a b))
 | .sub=>some (.sx k (.bin .sub k a b))
 | .mul=>some (.sx k (.bin .mul k a b))
 | .and=>some (.sx k (.bin .and k a b))
 | .or=>some (.sx k (.bin .or k a b))
 | .xor=>some (.sx k (.bin .xor k a b))
 | .andNot=>some (.sx k (.bin .andNot k a b))
 | .quo=>match D .eql b (.lit 0)with
   |some false=>some (.sx k (.bin .quo k a b))
   |_=>none
 | .rem=>match D .eql b (.lit 0)with
   |some false=>some (.sx k (.bin .rem k a b))
   |_=>none
 | .shl=>none
 | .shr=>none
 |op=>match D op a b with
  |some r=>some (.bool r)
  |none=>none
def wU(D:BinOp->Sx->Sx->Option Bool)(op:BinOp)(x y:AV):Option AV:=
 match wT x,wT y with
 |some (k,a),some (k',b)=>if k=k' then At D op k a b else none
 |_,_=>none
def rG(op:BinOp)(a b:List UInt8):Option AV:=
 match op with
 | .add=>if a.length+b.length<=zcw then some (.str (a++b))else none
 | .eql=>some (.bool (a == b))
 | .neq=>some (.bool !(a == b))
 | .lss=>some (.bool (qu a b))
 | .leq=>some (.bool (qu a b||a == b))
 | .gtr=>some (.bool !(qu a b||a == b))
 | .geq=>some (.bool !(qu a b))
 |_=>none
def wV(t:TypeId)(x y:AV):Option Bool:=
 match P.underlying t with
 |some .bool=>match x,y with
  | .bool a,.bool b=>some (a == b)
  |_,_=>none
 |some (.pointer _)=>match x,y with
  | .nilP,.nilP=>some true
  | .ptr _ _,.nilP|.nilP,.ptr _ _|.iptr _,.nilP|.nilP,.iptr _=>some false
  |_,_=>none
 |some (.map _ _)=>match x,y with
  | .nilM,.nilM=>some true
  | .map _,.nilM|.nilM,.map _=>some false
  |_,_=>none
 |some (.func _ _ _)=>match x,y with
  | .nilF,.nilF=>some true
  | .clo _ _,.nilF|.nilF,.clo _ _=>some false
  |_,_=>none
 |some (.slice _)=>match x,y with
  | .nilS,.nilS=>some true
  | .sl _ _ _ _,.nilS|.nilS,.sl _ _ _ _|.lst (_::_),.nilS|.nilS,.lst (_::_)=>some false
  |_,_=>none
 |_=>none
def Au(t:TypeId)(x y:AV):Option Bool:=
 match x,y with
 | .int k a,.int k' b=>match P.underlying t with
   |some (.int _)=>if k=k' then some (a == b)else none
   |_=>none
 | .str a,.str b=>match P.underlying t with
   |some .string=>some (a == b)
   |_=>none
 |x,y=>wV P t x y
def tc(xs Y:List AV):List Field->Option Bool
 |[]=>some true
 |f::fs=>match f.name == "_" with
  |true=>tc xs Y fs
  |false=>match zba P f.type xs f.offset,zba P f.type Y f.offset with
   |some a,some b=>match Au P f.type a b with
    |some true=>tc xs Y fs
    |some false=>some false
    |none=>none
   |_,_=>none
def wW(t:TypeId)(xs Y:List AV):Option Bool:=
 match P.underlying t with
 |some (.struct L)=>match P.stoodInHeld t||P.eqGuardType P.depth t with
  |true=>none
  |false=>tc P xs Y L.toList
 |_=>none
def rH(t:TypeId)(x y:AV):Option Bool:=
 match x,y with
 | .agg M,.agg Y=>wW P t M Y
 |x,y=>wV P t x y
def td(op:BinOp)(k:IntKind)(a b:Int):Option AV:=
 match b with
 | .ofNat m=>match op with
   | .shl=>some (.int k (k.wrap (a*2^ min m k.bits)))
   | .shr=>some (.int k (a.fdiv (2^ min m k.bits)))
   |_=>none
 |_=>none
def qx(op:BinOp)(k z:IntKind)(a b:Int):Option AV:=
 match op with
 | .shl=>td .shl k a b
 | .shr=>td .shr k a b
 |op=>if k=z then zc9 op k a b else none
def Av(op:BinOp)(t:TypeId)(x y:AV):Option AV:=
 match op with
 | .eql=>match rH P t x y with
   |some b=>some (.bool b)
   |none=>none
 | .neq=>match rH P t x y with
   |some b=>some (.bool !b)
   |none=>none
 |_=>none
def zcq(D:BinOp->Sx->Sx->Option Bool)(op:BinOp)(t:TypeId)(x y:AV):Option AV:=
 match x,y with
 | .int k a,.int k' b=>qx op k k' a b
 | .str a,.str b=>rG op a b
 | .sx k a,y=>wU D op (.sx k a) y
 | .int k a,.sx k' b=>wU D op (.int k a) (.sx k' b)
 |x,y=>Av P op t x y
def qy(op:UnOp)(x:AV):Option AV:=
 match op,x with
 | .neg,.sx k e=>some (.sx k (.bin .sub k (.lit 0) e))
 | .xor,.sx k e=>some (.sx k (.bin .xor k (.lit (if k.signed then -1 else k.max)) e))
 | .neg,.int k n=>zc9 .sub k 0 n
 | .xor,.int k n=>zc9 .xor k (if k.signed then -1 else k.max) n
 | .not,.bool b=>some (.bool !b)
 |_,_=>none
def rI:List AV->Option (List UInt8)
 |[]=>some []
 | .int .u8 n::cs=>match rI cs with
   |some bs=>some (UInt8.ofNat n.toNat::bs)
   |none=>none
 |_=>none
def zdg(H:Hp)(V K:TypeId)(x:AV):Option AV:=
 match P.underlying V,P.underlying K with
 |some (.slice e),some .string=>match P.underlying e with
  |some (.int .u8)=>match zcM H 1 x with
   |some (_,Z)=>match rI Z with
    |some bs=>match x with
     | .sl _ _ _ _|.nilS=>some (.str bs)
     |_=>none
    |none=>none
   |none=>none
  |_=>none
 |some _,some (.int k)=>match x with
  | .int _ n=>some (.int k (k.wrap n))
  | .sx _ e=>some (.sx k (.conv k e))
  |_=>none
 |some .string,some .string=>match x with
  | .str s=>some (.str s)
  |_=>none
 |_,_=>none
def zdC(H:Hp)(t:TypeId)(l c:AV):Option (AV×Hp):=
 match P.underlying t,l,c with
 |some (.slice e),.int _ (.ofNat l),.int _ (.ofNat c)=>match zbh P e,zb3 P e,zbU P e with
  |some s,some b,some z=>if l<=c/\c*b<=zcw/\c<=zcw/\z.length=s then some (.sl H.next 0 l s,H.alloc (.cells (mK z l) 0 true))else none
  |_,_,_=>none
 |_,_,_=>none
def extract(x:AV)(i:Nat):Option AV:=
 match x with
 | .tup vs=>vs[i]?
 |_=>none
def mm(J:Bool):AV->AV->Option AV
 | .int k x,.int _ y=>some (.int k (if (if J then decide (y > x)else decide (y<x))then y else x))
 |_,_=>none
def qz(J:Bool)(x:AV):List AV->Option AV
 |[]=>some x
 |y::ys=>match mm J x y with
  |some z=>qz J z ys
  |none=>none
def zbO(H:Hp)(t:TypeId)(x:AV):Option AV:=
 match P.underlying t with
 |some .string=>match x with
  | .str s=>some (.int .i64 s.length)
  |_=>none
 |some (.slice _)=>match x with
  | .sl _ _ n _=>some (.int .i64 n)
  | .lst M=>some (.int .i64 M.length)
  | .nilS=>some (.int .i64 0)
  |_=>none
 |some (.array n _)=>some (.int .i64 n)
 |some (.map _ _)=>match rF H x with
  |some j=>some (.int .i64 j.length)
  |none=>none
 |_=>none
def oA(keep:Bool)(H:Hp)(b:Builtin)(M:List TypeId)(Y:List AV):Option (AV×Hp):=
 match b with
 | .append=>match M,Y with
   |[t,u],[s,x]=>zcg P keep H t u s x
   |_,_=>none
 | .len=>match M,Y with
   |[t],[x]=>match zbO P H t x with
    |some v=>some (v,H)
    |none=>none
   |_,_=>none
 | .max=>match Y with
   |x::xs=>match qz true x xs with
    |some v=>some (v,H)
    |none=>none
   |[]=>none
 | .min=>match Y with
   |x::xs=>match qz false x xs with
    |some v=>some (v,H)
    |none=>none
   |[]=>none
 |_=>none
def ret(H:Hp):Option AV->Option (AV×Hp)
 |some v=>some (v,H)
 |none=>none
def wX(E:au)(H:Hp)(c a b:Operand):Option (AV×Hp):=
 match zaZ E c with
 |some (.bool true)=>ret H (zaZ E a)
 |some (.bool false)=>ret H (zaZ E b)
 |_=>none
def uq(H:Hp)(t:TypeId):Option (AV×Hp):=
 match zbU P t with
 |some z=>some (.ptr H.next 0,H.alloc (.cells z 0 true))
 |none=>none
def ur(E:au)(H:Hp)(x:Operand):Option (AV×Hp):=
 match zaZ E x with
 |some v=>some (.ptr H.next 0,H.alloc (.cells v.cells 0 true))
 |none=>none
def wY(E:au)(H:Hp)(t:TypeId)(J:Array (Nat×Operand)):Option (AV×Hp):=
 match zde E J.toList with
 |some C=>ret H (zb5 P t C)
 |none=>none
def us(E:au)(H:Hp)(t:TypeId)(len:Nat)(J:Array (Nat×Operand)):Option (AV×Hp):=
 match zde E J.toList with
 |some C=>zcv P H t len C
 |none=>none
def ut(E:au)(H:Hp)(t:TypeId)(a:Operand):Option (AV×Hp):=
 match zaZ E a with
 |some v=>ret H (ip P H t v)
 |none=>none
def wZ(E:au)(H:Hp)(t:TypeId)(a x:Operand):Option (AV×Hp):=
 match zaZ E a,zaZ E x with
 |some a,some x=>match lV P H t a x with
  |some H=>some (zcb,H)
  |none=>none
 |_,_=>none
def w1(E:au)(H:Hp)(x:Operand):Option (AV×Hp):=
 match zaZ E x with
 |some (.ptr r o)=>some (.ptr r o,H)
 |some (.iptr Z)=>some (.iptr Z,H)
 |_=>none
def w5(D:BinOp->Sx->Sx->Option Bool)(E:au)(H:Hp)(op:BinOp)(t:TypeId)(x y:Operand):Option (AV×Hp):=
 match zaZ E x,zaZ E y with
 |some x,some y=>ret H (zcq P D op t x y)
 |_,_=>none
def w6(E:au)(H:Hp)(op:UnOp)(x:Operand):Option (AV×Hp):=
 match zaZ E x with
 |some x=>ret H (qy op x)
 |none=>none
def uu(E:au)(H:Hp)(s d:TypeId)(x:Operand):Option (AV×Hp):=
 match zaZ E x with
 |some x=>ret H (zdg P H s d x)
 |none=>none
def w7(E:au)(H:Hp)(I:Fn)(first Y:Array Operand):Option (AV×Hp):=
 match I,first.toList,zcY E Y.toList with
 | .func f,[],some vs=>some (.clo f vs,H)
 |_,_,_=>none
def uw(H:Hp)(r:Option Operand):Option (AV×Hp):=
 match r with
 |none=>some (.map H.next,H.alloc (.map []))
 |some _=>none
def ux(E:au)(H:Hp)(t:TypeId)(l c:Operand):Option (AV×Hp):=
 match zaZ E l,zaZ E c with
 |some l,some c=>zdC P H t l c
 |_,_=>none
def zdb(E:au):Option Operand->Option (Option AV)
 |none=>some none
 |some x=>match zaZ E x with
  |some v=>some (some v)
  |none=>none
def uy(E:au)(H:Hp)(t:TypeId)(x:Operand)(lo z J:Option Operand):Option (AV×Hp):=
 match J,zaZ E x,zdb E lo,zdb E z with
 |none,some x,some l,some h=>ret H (mJ P H t x l h)
 |_,_,_,_=>none
def w8(E:au)(H:Hp)(t:TypeId)(x:Operand)(f:Nat):Option (AV×Hp):=
 match zaZ E x with
 |some x=>ret H (za6 P t x f)
 |none=>none
def w9(E:au)(H:Hp)(t:TypeId)(x:Operand)(f:Nat):Option (AV×Hp):=
 match zaZ E x with
 |some x=>ret H (zbG P t x f)
 |none=>none
def xc(E:au)(H:Hp)(t:TypeId)(x i:Operand):Option (AV×Hp):=
 match zaZ E x,zaZ E i with
 |some x,some i=>ret H (zb1 P t x i)
 |_,_=>none
def xd(E:au)(H:Hp)(t:TypeId)(x i:Operand):Option (AV×Hp):=
 match zaZ E x,zaZ E i with
 |some x,some i=>ret H (nH P t x i)
 |_,_=>none
def uz(E:au)(H:Hp)(t:TypeId)(m k:Operand)(ok:Bool):Option (AV×Hp):=
 match zaZ E m,zaZ E k with
 |some m,some k=>ret H (jd P H t m k ok)
 |_,_=>none
def xe(E:au)(H:Hp)(t:TypeId)(m k v:Operand):Option (AV×Hp):=
 match zaZ E m,zaZ E k,zaZ E v with
 |some m,some k,some v=>match zdu P H t m k v with
  |some H=>some (zcb,H)
  |none=>none
 |_,_,_=>none
def xf(E:au)(H:Hp)(x:Operand)(i:Nat):Option (AV×Hp):=
 match zaZ E x with
 |some x=>ret H (extract x i)
 |none=>none
def cH(D:BinOp->Sx->Sx->Option Bool)(E:au)(H:Hp)(op:Op):Option (AV×Hp):=
 match op with
 | .move x=>ret H (zaZ E x)
 | .assign x=>ret H (zaZ E x)
 | .pick c a b=>wX E H c a b
 | .alloc t=>uq P H t
 | .box _ x=>ur E H x
 | .build t J=>wY P E H t J
 | .buildSlice t g J=>us P E H t g J
 | .load t a=>ut P E H t a
 | .store t a x=>wZ P E H t a x
 | .nilCheck x=>w1 E H x
 | .binOp op t x y _=>w5 P D E H op t x y
 | .unOp op _ x=>w6 E H op x
 | .convert s d x=>uu P E H s d x
 | .makeFunc I first Y=>w7 E H I first Y
 | .makeMap _ r=>uw H r
 | .makeSlice t l c=>ux P E H t l c
 | .slice t x O z Z=>uy P E H t x O z Z
 | .fieldAddr t x f=>w8 P E H t x f
 | .field t x f=>w9 P E H t x f
 | .indexAddr t x i=>xc P E H t x i
 | .index t x i=>xd P E H t x i
 | .lookup t m k ok=>uz P E H t m k ok
 | .mapUpdate t m k v=>xe P E H t m k v
 | .extract x i=>xf E H x i
 |_=>none
inductive Task where
 |code (f:FuncId) (N:Nat) (c:Code) (E:au) (H:Hp)
 |call (f:FuncId) (args:List AV) (H:Hp)
inductive AX where
 |normal|exit (id:Nat)|ret
inductive Res where
 |done (x:AX) (E:au) (H:Hp)
 |val (v:AV) (H:Hp)
 |fail
def ei(N:Nat)(E:au)(K:Option Tmp)(v:AV):Option au:=
 match K with
 |some d=>match Nat.blt d N with
  |true=>some (T.set E d (some v))
  |false=>none
 |none=>some E
def xg(ops:List Oper)(E:au)(j:Nat):Option Bool:=
 match (ops[j]?).bind (·.dst)with
 |some d=>match E.at d with|.bool b=>some b |_=>none
 |none=>none
def zc6(ops:List Oper)(E:au)(o:Oper):Bool:=
 match o.guard with
 |none=>true
 |some (j,Z)=>match xg ops E j with
  |some b=>b == Z
  |none=>false
variable (cfg:Cfg)
def qA(ih:Task->Res)(f:FuncId)(E:au)(H:Hp)(c:Call):Res:=
 match c.callee with
 | .value g=>match zaZ E g,zcY E c.args.toList with
   |some (.clo k i),some vs=>ih (.call k (vs++i) H)
   |_,_=>.fail
 | .builtin b=>match zcY E c.args.toList with
   |some vs=>match oA P (cfg.keep f) H b c.argTypes.toList vs with
    |some (v,H)=>.val v H
    |none=>.fail
   |none=>.fail
 |_=>.fail
def zcP:Option (AV×Hp)->Res
 |some (v,H)=>.val v H
 |none=>.fail
def zcd(ih:Task->Res)(f:FuncId)(E:au)(H:Hp)(op:Op):Res:=
 match op with
 | .call c=>qA P cfg ih f E H c
 |op=>zcP (cH P cfg.dec E H op)
def Sx.beq:Sx->Sx->Bool
 | .var i,.var j=>Nat.beq i j
 | .lit a,.lit b=>a == b
 | .bin o k a b,.bin g k' Z Y=>decide (o=g)&&decide (k=k')&&Sx.beq a Z&&Sx.beq b Y
 | .conv k a,.conv k' b=>decide (k=k')&&Sx.beq a b
 |_,_=>false
mutual
def AV.beq:AV->AV->Bool
 | .int k a,.int k' b=>decide (k=k')&&(a == b)
 | .sx k a,.sx k' b=>decide (k=k')&&Sx.beq a b
 | .bool a,.bool b=>a == b
 | .str a,.str b=>a == b
 | .nilP,.nilP|.nilM,.nilM|.nilF,.nilF|.nilS,.nilS=>true
 | .ptr r o,.ptr Z g=>Nat.beq r Z&&Nat.beq o g
 | .iptr a,.iptr b=>zdh a b
 | .sl r o l z,.sl Z g j Y=>Nat.beq r Z&&Nat.beq o g&&Nat.beq l j&&Nat.beq z Y
 | .lst a,.lst b=>rJ a b
 | .map r,.map Z=>Nat.beq r Z
 | .clo f a,.clo V b=>Nat.beq f V&&zdh a b
 | .agg a,.agg b=>zdh a b
 | .tup a,.tup b=>zdh a b
 |_,_=>false
def zdh:List AV->List AV->Bool
 |[],[]=>true
 |a::x,b::y=>AV.beq a b&&zdh x y
 |_,_=>false
def rJ:List (List AV)->List (List AV)->Bool
 |[],[]=>true
 |a::x,b::y=>zdh a b&&rJ x y
 |_,_=>false
end
inductive Kind where
 |calm   -- looks at no memory
 |read
 |make
 |act
def zcN:Op->Kind
 | .load ..|.lookup ..|.convert ..|.slice ..=>.read
 | .alloc _|.box ..|.buildSlice ..|.makeMap ..|.makeSlice ..=>.make
 | .store ..|.mapUpdate ..=>.act
 | .call c=>match c.callee with
   | .builtin .len|.builtin .max|.builtin .min=>.read
   |_=>.act
 |_=>.calm
structure Rec where
 o:Oper
 did:Bool
 E:au
 H:Hp
 val:AV
 H':Hp
inductive ResD where
 |done (E:au) (H:Hp) (rs:List Rec)
 |fail
def mM(r:Rec):ResD->ResD
 | .done E H rs=>.done E H (r::rs)
 | .fail=>.fail
def zdA(C:au->Hp->ResD)(H:Hp):Option au->ResD
 |some E=>C E H
 |none=>.fail
def iu(ih:Task->Res)(f N:Nat)(I:List Oper):List Oper->au->Hp->ResD
 |[],E,H=>.done E H []
 |o::rest,E,H=>match zc6 I E o with
  |true=>match zcd P cfg ih f E H o.op with
   | .val v H'=>mM ⟨o,true,E,H,v,H'⟩ (zdA (iu ih f N I rest) H' (ei N E o.dst v))
   |_=>.fail
  |false=>mM ⟨o,false,E,H,zcb,H⟩ (zdA (iu ih f N I rest) H (ei N E o.dst zcb))
def preds(o:Oper):List Nat:=(o.after.toList.filter (Region.binds .any)).map (·.on)
def te:List Nat->List Nat->List Nat
 |acc,[]=>acc
 |acc,x::xs=>match acc.contains x with
  |true=>te acc xs
  |false=>te (x::acc) xs
def uA(l:List Nat):List Nat:=te [] l
def gg:List Oper->List (List Nat)->List (List Nat)
 |[],acc=>acc
 |o::rest,acc=>gg rest (acc++[uA (preds o++(preds o).flatMap fun i=>acc.getD i [])])
def DU(o:Oper):List Nat:=o.dst.toList++o.op.operands.toList.filterMap fun|.tmp t=>some t |_=>none
def qB(I:List Oper)(o:Oper):List Nat:=DU o++(match o.guard with|some (j,_)=>((I[j]?).bind (·.dst)).toList|none=>[])
def lh(o:Oper):Bool:=match zcN o.op with|.act=>true |_=>false
def qC(o:Oper):Bool:=match zcN o.op with|.make=>true |_=>false
def clash(I:List Oper)(p q:Oper):Bool:=
 (lh p&&(lh q||qC q)) ||
 (p.dst.toList.any fun d=>(qB I q).contains d)||(q.dst.toList.any fun d=>(qB I p).contains d)
def oB(I:List Oper):Bool:=
 let A:=gg I []
 (List.range I.length).all fun j=>match I[j]? with
   |none=>true
   |some q=>(preds q).all (·< j)&&(match q.guard with|some (g,_)=>(A.getD j []).contains g|none=>true) &&
    (List.range j).all fun i=>match I[i]? with
      |none=>true
      |some p=>!clash I p q||(A.getD j []).contains i
def iw(ops:List Oper):List Nat:=(List.range ops.length).filter fun i=>match ops[i]? with
 |some o=>lh o
 |none=>false
def zbE(rs:List Rec)(H':Hp)(e:Nat):Hp:=match rs[e]? with
 |some r=>r.H
 |none=>H'
def HB.beq:HB->HB->Bool
 | .cells a i t,.cells b j u=>zdh a b&&Nat.beq i j&&(t == u)
 | .map a,.map b=>zdh (a.map (·.1)) (b.map (·.1))&&zdh (a.map (·.2)) (b.map (·.2))
 |_,_=>false
def zdd(r:Rec)(H:Hp):Bool:=
 match zcN r.o.op with
 | .read=>match zcd P cfg (fun _=>.fail) 0 r.E H r.o.op with
   | .val v _=>AV.beq v r.val
   |_=>false
 | .make=>match H.get r.H.next,r.H'.get r.H.next with
   |some b,some Y=>HB.beq b Y
   |_,_=>false
 |_=>true
def xh(A:List (List Nat))(J:List Nat)(i m:Nat):Bool:=
 !(J.any (fun e=>(A.getD i []).contains e&&Nat.ble m e)||J.any (fun e=>(A.getD e []).contains i&&Nat.blt e m))
def mO(ops:List Oper):List (Nat×Nat):=
 (List.range ops.length).flatMap fun i=>match ops[i]? with
   |some o=>match zcN o.op with
    | .read|.make=>((iw ops++[ops.length]).filter (xh (gg ops []) (iw ops) i)).map fun m=>(i,m)
    |_=>[]
   |none=>[]
def rK(m:List (Nat×Nat))(rs:List Rec)(H':Hp):Bool:=
 rs.all (fun r=>Nat.ble r.H.next r.H'.next)&&m.all fun p=>match rs[p.1]? with
  |some r=>!r.did||zdd P cfg r (zbE rs H' p.2)
  |none=>true
def li(ih:Task->Res)(f N:Nat)(ops:List Oper)(E:au)(H:Hp):Res:=
 match oB ops with
 |true=>match iu P cfg ih f N ops ops E H with
  | .done E' H' rs=>match rK P cfg (mO ops) rs H' with
    |true=>.done .normal E' H'
    |false=>.fail
  | .fail=>.fail
 |false=>.fail
def gS:List Nat->Nat->Nat
 |[],_=>0
 |x::xs,i=>match Nat.beq x i with
  |true=>0
  |false=>gS xs i+1
def qD(Z:List Nat)(o:Oper):Oper:=
 {o with after:=((o.after.toList.filter (Region.binds .any)).map fun e=>{e with on:=gS Z e.on}).toArray,guard:=match o.guard with|some (j,b)=>some (gS Z j,b)|none=>none}
def gh(Z:List Nat)(l:List Oper):List Oper:=Z.filterMap fun i=>match l[i]? with
 |some o=>some (qD Z o)
 |none=>none
def uB(Z:List Nat)(l:List Oper):Bool:=
 Nat.beq Z.length l.length &&
 (List.range l.length).all (fun k=>(match Z[k]? with|some i=>Nat.blt i l.length&&Nat.beq (gS Z i) k|none=>false)&&Nat.blt (gS Z k) l.length&&(match Z[gS Z k]? with|some i=>Nat.beq i k|none=>false)) &&
 l.all (fun o=>(preds o).all (fun p=>Nat.blt p l.length)&&(match o.guard with|some (j,_)=>Nat.blt j l.length|none=>true))
def iy(q p:Nat)(l:List Oper):List Oper:=match l[q]? with
 |some o=>l.set q {o with after:=o.after.push {on:=p,ground:=.data} }
 |none=>l
def T.beq{z:Type}(Z:z->z->Bool):T z->T z->Bool
 | .e,.e=>true
 | .n v l r,.n Y j V=>(match v,Y with|some a,some b=>Z a b|none,none=>true |_,_=>false)&&T.beq Z l j&&T.beq Z r V
 |_,_=>false
def Aw(ops:List Oper)(U i:au)(V m:Hp):Bool:=
 ops.all (fun o=>match o.dst with|some d=>AV.beq (U.at d) (i.at d)|none=>true)&&Nat.beq V.next m.next&&T.beq HB.beq V.t m.t
def rM(ops:List Oper):Res->Res->Res
 | .done .normal E1 H1,.done .normal i m=>match Aw ops E1 i H1 m with
   |true=>.done .normal E1 H1
   |false=>.fail
 |_,_=>.fail
def jq(ih:Task->Res)(f N:Nat)(E:au)(H:Hp):Plan->List Oper->Res
 | .text,ops=>li P cfg ih f N ops E H
 | .perm ord,ops=>match uB ord ops with
   |true=>li P cfg ih f N (gh ord ops) E H
   |false=>.fail
 | .split p q a b,ops=>match Nat.beq p q with
   |true=>.fail
   |false=>rM ops (jq ih f N E H a (iy q p ops)) (jq ih f N E H b (iy p q ops))
def zdc(C:au->Hp->Res)(H:Hp):Option au->Res
 |some E=>C E H
 |none=>.fail
def iX(ih:Task->Res)(f N:Nat)(I:List Oper)(ops:List Oper):au->Hp->Res:=
 List.rec (motive:=fun _=>au->Hp->Res) (fun E H=>.done .normal E H)
  (fun o _ C E H=>match zc6 I E o with
    |true=>match zcd P cfg ih f E H o.op with
     | .val v H=>zdc C H (ei N E o.dst v)
     |_=>.fail
    |false=>zdc C H (ei N E o.dst zcb)) ops
def uC:Nat->au
 |0=>.e
 |d+1=>.n (some zcb) (uC d) (uC d)
def rN(N:Nat):au:=uC (Nat.log2 N+1)
def zbj:Nat->List AV->au->au
 |_,[],E=>E
 |i,v::vs,E=>zbj (i+1) vs (T.set E i (some v))
def zch(E:au)(H:Hp):ResultVar->Option AV
 | .tmp t=>some (E.at t)
 | .cell a t=>ip P H t (E.at a)
def zb9(E:au)(H:Hp):List ResultVar->Option (List AV)
 |[]=>some []
 |r::rs=>match zch P E H r,zb9 E H rs with
  |some v,some vs=>some (v::vs)
  |_,_=>none
def za0:List AV->AV
 |[v]=>v
 |vs=>.tup vs
def tf(rs:List ResultVar)(E:au)(H:Hp):Res:=
 match zb9 P E H rs with
 |some vs=>.val (za0 vs) H
 |none=>.fail
def mP(ih:Task->Res)(f:FuncId)(Y:List AV)(H:Hp):Res:=
 match P.funcs[f]? with
 |some I=>match I.body with
  |some c=>match ih (.code f (max I.ntmps Y.length) c (zbj 0 Y (rN (max I.ntmps Y.length))) H)with
   | .done .normal E H=>tf P I.results.toList E H
   | .done .ret E H=>tf P I.results.toList E H
   |_=>.fail
  |none=>.fail
 |none=>.fail
def mQ(ih:Task->Res)(f N:Nat)(b:Code):Res->Res
 | .done .normal E H=>ih (.code f N b E H)
 |r=>r
def zdv(id:Nat):Res->Res
 | .done (.exit g) E H=>match Nat.beq g id with
   |true=>.done .normal E H
   |false=>.done (.exit g) E H
 |r=>r
def rO(ih:Task->Res)(f N:Nat)(x:Operand)(a b:Code)(E:au)(H:Hp):Res:=
 match zaZ E x with
 |some (.bool true)=>ih (.code f N a E H)
 |some (.bool false)=>ih (.code f N b E H)
 |_=>.fail
def iz(z:Nat):Nat->List AV->List (List AV)
 |0,_=>[]
 |n+1,l=>l.take z::iz z n (l.drop z)
def kG(g:AV->Hp->Option (AV×Hp)):List AV->Hp->Option (List AV×Hp)
 |[],H=>some ([],H)
 |c::cs,H=>match g c H with
  |some (d,H)=>match kG g cs H with
   |some (U,H)=>some (d::U,H)
   |none=>none
  |none=>none
def iY:Nat->AV->Hp->Option (AV×Hp)
 |0,_,_=>none
 |n+1,v,H=>match v with
  | .sl r K g z=>match H.get r with
    |some (.cells Z L Y)=>match Nat.ble (K+g*z) Z.length&&Nat.ble L Z.length with
     |true=>match kG (iY n) ((Z.drop K).take (g*z)) (H.set r (.cells Z (max L (K+g*z)) Y))with
      |some (l,H)=>some (.lst (iz z g l),H)
      |none=>none
     |false=>none
    |_=>none
  | .agg Z=>match kG (iY n) Z H with
    |some (U,H)=>some (.agg U,H)
    |none=>none
  | .ptr _ _=>none
  | .map _=>none
  |v=>some (v,H)
def uD(ih:Task->Res)(f:FuncId)(Y:List AV)(H:Hp):Option (List AV×Hp)->Res
 |some (i,H')=>match cfg.call f i with
  |some r=>.val r H'
  |none=>mP P ih f Y H
 |none=>mP P ih f Y H
def tg:Bool->Res->Res
 |true,.val v H=>zcP (iY 100 v H)
 |_,r=>r
def mR(ih:Task->Res)(f:FuncId)(Y:List AV)(H:Hp):Res:=match cfg.ice f with
 |true=>uD P cfg ih f Y H (kG (iY 100) Y H)
 |false=>mP P ih f Y H
def step(ih:Task->Res):Task->Res
 | .call f Y H=>match cfg.call f Y with
   |some r=>.val r H
   |none=>tg (cfg.froz f) (mR P cfg ih f Y H)
 | .code f N c E H=>match c with
   | .skip=>.done .normal E H
   | .region id ops draw=>match draw with
     |false=>iX P cfg ih f N ops.toList ops.toList E H
     |true=>jq P cfg ih f N E H (cfg.plan f id) ops.toList
   | .seq a b=>mQ ih f N b (ih (.code f N a E H))
   | .cond x a b=>rO ih f N x a b E H
   | .block id a=>zdv id (ih (.code f N a E H))
   | .loop a=>mQ ih f N (.loop a) (ih (.code f N a E H))
   | .exit id=>.done (.exit id) E H
   | .ret=>.done .ret E H
   |_=>.fail
def zb2(n:Nat):Task->Res:=Nat.rec (motive:=fun _=>Task->Res) (fun _=>.fail) (fun _ ih=>step P cfg ih) n
end
def zbk:Hp:={next:=0,t:=.e}
def iceL(g:AV->Option AV):List AV->Option (List AV)
 |[]=>some []
 |c::cs=>match g c,iceL g cs with
  |some d,some U=>some (d::U)
  |_,_=>none
def qE(g:AV->Option AV):List (List AV)->Option (List (List AV))
 |[]=>some []
 |c::cs=>match iceL g c,qE g cs with
  |some d,some U=>some (d::U)
  |_,_=>none
def iceV(H:Hp):Nat->AV->Option AV
 |0,_=>none
 |n+1,v=>match v with
  | .sl r K g z=>match H.get r with
    |some (.cells Z _ _)=>match iceL (iceV H n) ((Z.drop K).take (g*z))with
     |some l=>if l.length=g*z then some (.lst (iz z g l))else none
     |none=>none
    |_=>none
  | .lst M=>match qE (iceV H n) M with
    |some Y=>some (.lst Y)
    |none=>none
  | .agg Z=>match iceL (iceV H n) Z with
    |some U=>some (.agg U)
    |none=>none
  | .tup Z=>match iceL (iceV H n) Z with
    |some U=>some (.tup U)
    |none=>none
  | .int k a=>some (.int k a)
  | .sx k e=>some (.sx k e)
  | .bool b=>some (.bool b)
  | .str s=>some (.str s)
  | .nilP=>some .nilP
  | .nilM=>some .nilM
  | .nilF=>some .nilF
  | .nilS=>some .nilS
  |_=>none
def uE(P:Program)(cfg:Cfg)(n m:Nat)(f:FuncId)(Y:List AV):Option AV:=
 match zb2 P cfg n (.call f Y zbk)with
 | .val v H=>iceV H m v
 |_=>none
def pA(m:Nat)(Y:List AV):Bool:=
 match iceL (iceV zbk m) Y with
 |some i=>zdh i Y
 |none=>false
def Ax(P:Program)(cfg:Cfg)(n m:Nat)(f:FuncId)(Y:List AV)(r:AV):Bool:=
 match uE P cfg n m f Y with
 |some q=>AV.beq q r
 |none=>false
def rQ:List (FuncId×List AV×AV)->FuncId->List AV->Option AV
 |[],_,_=>none
 |p::l,f,args=>match Nat.beq p.1 f with
  |true=>match zdh p.2.1 args with
   |true=>some p.2.2
   |false=>rQ l f args
  |false=>rQ l f args
end
end Go.Ab
