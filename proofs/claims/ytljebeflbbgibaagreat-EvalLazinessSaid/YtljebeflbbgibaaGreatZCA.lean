/- Parts: AbDefs. -/
import GoSem.Step
set_option linter.unusedSimpArgs false
set_option linter.unusedVariables false
set_option linter.unusedSectionVars false
set_option linter.defProp false
set_option maxHeartbeats 32000000
namespace Go.Ab
noncomputable section
open Go
inductive T (α:Type) where
 |e
 |n (v:Option α) (l r:T α)
def hY{M:Type}(b:Bool)(x y:M):M:=Bool.rec y x b
def T.get{M:Type}(t:T M):Nat->Option M:=
 T.rec (motive:=fun _=>Nat->Option M) (fun _=>none)
  (fun v _ _ K Z k=>hY (Nat.beq k 0) v (hY (Nat.beq (Nat.mod k 2) 1) (K (Nat.div k 2)) (Z (Nat.sub (Nat.div k 2) 1)))) t
def po{M:Type}(v:Option M)(f:Nat):T M->Nat->T M:=
 Nat.rec (motive:=fun _=>T M->Nat->T M) (fun t _=>t)
  (fun _ ih t k=>T.casesOn t
    (hY (Nat.beq k 0) (.n v .e .e) (hY (Nat.beq (Nat.mod k 2) 1) (.n none (ih .e (Nat.div k 2)) .e) (.n none .e (ih .e (Nat.sub (Nat.div k 2) 1)))))
    (fun u l r=>hY (Nat.beq k 0) (.n v l r) (hY (Nat.beq (Nat.mod k 2) 1) (.n u (ih l (Nat.div k 2)) r) (.n u l (ih r (Nat.sub (Nat.div k 2) 1)))))) f
def T.set{M:Type}(t:T M)(k:Nat)(v:Option M):T M:=po v (k+1) t k
inductive Sx where
 |var (i:Nat)
 |lit (n:Int)
 |bin (op:BinOp) (k:IntKind) (a b:Sx)
 |conv (k:IntKind) (a:Sx)
inductive AV where
 |int (k:IntKind) (n:Int)
 |sx (k:IntKind) (e:Sx)
 |bool (b:Bool)
 |str (s:List UInt8)
 |nilP|nilM|nilF|nilS
 |ptr (r:Nat) (off:Nat)
 |iptr (cs:List AV)
 |sl (r off len z:Nat)
 |lst (xs:List (List AV))
 |map (r:Nat)
 |clo (f:Nat) (cap:List AV)
 |agg (cs:List AV)
 |tup (vs:List AV)
inductive HB where
 |cells (cs:List AV) (imm:Nat) (tip:Bool)
 |map (es:List (AV×AV))
structure Hp where
 next:Nat
 t:T HB
def Hp.get(h:Hp)(r:Nat):Option HB:=h.t.get r
def Hp.set(h:Hp)(r:Nat)(b:HB):Hp:={next:=h.next,t:=h.t.set r (some b) }
def Hp.kill(h:Hp)(r:Nat):Hp:={next:=h.next,t:=h.t.set r none}
def Hp.alloc(h:Hp)(b:HB):Hp:={next:=h.next+1,t:=h.t.set h.next (some b) }
inductive Plan where
 |text
 |perm (ord:List Nat)
 |split (p q:Nat) (a b:Plan)
structure Cfg where
 keep:FuncId->Bool
 dec:BinOp->Sx->Sx->Option Bool:=fun _ _ _=>none
 call:FuncId->List AV->Option AV:=fun _ _=>none
 ice:FuncId->Bool:=fun _=>false
 plan:FuncId->Nat->Plan:=fun _ _=>.text
 froz:FuncId->Bool:=fun _=>false
abbrev ao:=T AV
def zdx:AV:=.tup []
def ao.at(E:ao)(t:Nat):AV:=(T.get E t).getD zdx
def sZ:Value->Option AV
 | .int k n=>some (.int k n)
 | .bool b=>some (.bool b)
 | .string s=>some (.str s.data.toList)
 | .pointer none=>some .nilP
 | .slice none 0 0=>some .nilS
 | .map none=>some .nilM
 | .nilFunc=>some .nilF
 |_=>none
def qU:Value->Option AV
 | .agg W=>(W.toList.mapM sZ).map .agg
 |v=>sZ v
def zcp(E:ao):Operand->Option AV
 | .tmp t=>some (E.at t)
 | .const v=>qU v
 | .global _=>none
 | .func f=>some (.clo f [])
def zeq(E:ao):List Operand->Option (List AV)
 |[]=>some []
 |x::xs=>match zcp E x,zeq E xs with
  |some v,some vs=>some (v::vs)
  |_,_=>none
def AV.cells:AV->List AV
 | .agg W=>W
 |v=>[v]
def AV.one:AV->Bool
 | .agg _|.tup _=>false
 |_=>true
section
variable (P:Program)
def zcC(t:TypeId):Option Nat:=(P.info? t).map (·.size)
def zc7(t:TypeId):Option Nat:=(P.info? t).map (·.bytes)
def ny(t:TypeId):Option AV:=
 match P.info? t with
 |some {zero:=some z,.. }=>qU z
 |_=>none
def zcX(t:TypeId):Option (List AV):=
 match ny P t with
 |some v=>some v.cells
 |none=>none
def zcw(t:TypeId)(cs:List AV)(off:Nat):Option AV:=
 match P.underlying t with
 |some (.struct _)|some (.array _ _)=>
  match zcC P t with
  |some s=>let l:=(cs.drop off).take s;if l.length=s then some (.agg l)else none
  |none=>none
 |some _=>cs[off]?
 |none=>none
def zdZ(H:Hp)(t:TypeId):AV->Option AV
 | .ptr r M=>match H.get r with
   |some (.cells W _ _)=>zcw P t W M
   |_=>none
 | .iptr W=>zcw P t W 0
 |_=>none
def splice(cs:List AV)(off:Nat)(K:List AV):List AV:=cs.take off++K++cs.drop (off+K.length)
def zet(H:Hp)(t:TypeId)(a v:AV):Option Hp:=
 match a with
 | .ptr r M=>match H.get r,zcC P t with
   |some (.cells W g O),some s=>
    if v.cells.length=s/\g<=M/\M+s<=W.length/\v.cells.all AV.one then some (H.set r (.cells (splice W M v.cells) g O))else none
   |_,_=>none
 |_=>none
def zcs(t:TypeId)(a:AV)(i:Nat):Option AV:=
 match P.underlying t with
 |some (.struct U)=>match U[i]? with
  |some f=>match zcC P f.type with
   |some (_+1)=>match a with
    | .ptr r M=>some (.ptr r (M+f.offset))
    | .iptr W=>some (.iptr (W.drop f.offset))
    |_=>none
   |_=>none
  |none=>none
 |_=>none
def zcM(t:TypeId)(x:AV)(i:Nat):Option AV:=
 match P.underlying t,x with
 |some (.struct U),.agg W=>match U[i]? with
  |some f=>zcw P f.type W f.offset
  |none=>none
 |_,_=>none
def zcj(n:Int):Option Nat:=match n with|.ofNat k=>some k |_=>none
def zcU(t:TypeId)(x i:AV):Option AV:=
 match i with
 | .int _ (.ofNat k)=>match P.underlying t with
   |some (.slice e)=>match zcC P e with
    |some s=>match x with
     | .sl r M W _=>if k<W then some (.ptr r (M+k*s))else none
     | .lst C=>match C[k]? with
       |some z=>if z.length=s then some (.iptr z)else none
       |none=>none
     |_=>none
    |none=>none
   |some (.array n e)=>match zcC P e with
    |some s=>match x with
     | .ptr r M=>if k<n then some (.ptr r (M+k*s))else none
     |_=>none
    |none=>none
   |_=>none
 |_=>none
def lJ(t:TypeId)(x i:AV):Option AV:=
 match i with
 | .int _ (.ofNat k)=>match P.underlying t,x with
   |some .string,.str s=>match s[k]? with
    |some b=>some (.int .u8 b.toNat)
    |none=>none
   |some (.array n e),.agg W=>if k<n then (match zcC P e with|some s=>zcw P e W (k*s)|none=>none)else none
   |_,_=>none
 |_=>none
def zd3(d:Nat):Option AV->Option Nat
 |none=>some d
 |some (.int _ (.ofNat k))=>some k
 |some _=>none
def zeh(t:TypeId)(x:AV)(lo C:Option AV):Option AV:=
 match P.underlying t,x with
 |some .string,.str s=>
  match zd3 0 lo,zd3 s.length C with
  |some l,some h=>if l<=h/\h<=s.length then some (.str ((s.drop l).take (h-l)))else none
  |_,_=>none
 |some (.slice e),x=>match zcC P e with
  |some z=>match x with
   | .sl r M W L=>match zd3 0 lo,zd3 W C with
     |some l,some h=>if l<=h/\h<=W/\L=z then (if l=h then some (.lst [])else some (.sl r (M+l*z) (h-l) z))else none
     |_,_=>none
   | .lst Z=>match zd3 0 lo,zd3 Z.length C with
     |some l,some h=>if l<=h/\h<=Z.length then (match (Z.drop l).take (h-l)with
      |[]=>some (.lst [])
      |row::rows=>if row.length=z then some (.lst (row::rows))else none)else none
     |_,_=>none
   | .nilS=>match zd3 0 lo,zd3 0 C with
     |some 0,some 0=>some .nilS
     |_,_=>none
   |_=>none
  |none=>none
 |_,_=>none
def kR(H:Hp)(t:TypeId)(x:AV)(lo C:Option AV):Option AV:=
 match x with
 | .ptr r M=>match P.underlying t,H.get r with
   |some (.array n e),some (.cells W _ _)=>match zcC P e,zd3 0 lo,zd3 n C with
    |some z,some l,some h=>if l<=h/\h<=n/\M+n*z<=W.length then (if l=h then some (.lst [])else some (.sl r (M+l*z) (h-l) z))else none
    |_,_,_=>none
   |_,_=>none
 |x=>zeh P t x lo C
def mj(K:Nat->Option (Nat×Nat))(cells:List AV):List (Nat×AV)->Option (List AV)
 |[]=>some cells
 |(i,v)::rest=>match K i with
  |none=>none
  |some (M,j)=>if v.cells.length≠j\/M+v.cells.length > cells.length then none else mj K (splice cells M v.cells) rest
def zeQ(E:ao):List (Nat×Operand)->Option (List (Nat×AV))
 |[]=>some []
 |(i,x)::rest=>match zcp E x,zeQ E rest with
  |some v,some vs=>some ((i,v)::vs)
  |_,_=>none
def Cv(U:List Field):Option (List (Nat×Nat)):=U.mapM fun f=>(P.info? f.type).map fun i=>(f.offset,i.size)
def zdK(t:TypeId)(Z:List (Nat×AV)):Option AV:=
 match zcX P t,P.underlying t with
 |some z,some (.struct U)=>match Cv P U.toList with
  |some m=>match mj (fun i=>m[i]?) z Z with
   |some W=>some (.agg W)
   |none=>none
  |none=>none
 |some z,some (.array _ e)=>match zcC P e with
  |some s=>match mj (fun i=>some (i*s,s)) z Z with
   |some W=>some (.agg W)
   |none=>none
  |none=>none
 |_,_=>none
def gw(z:List AV):Nat->List AV
 |0=>[]
 |n+1=>z++gw z n
def zdS(H:Hp)(t:TypeId)(len:Nat)(Z:List (Nat×AV)):Option (AV×Hp):=
 match P.underlying t with
 |some (.slice e)=>match zcC P e,zcX P e with
  |some s,some z=>if len*s<=16777216/\z.length=s then (match mj (fun i=>some (i*s,s)) (gw z len) Z with
   |some W=>some (.sl H.next 0 len s,H.alloc (.cells W 0 true))
   |none=>none)else none
  |_,_=>none
 |_=>none
def zdO:Nat:=70368744177664   -- 2^46
def zer(H:Hp)(s:Nat):AV->Option (Nat×List AV)
 | .sl r M W _=>match H.get r with
   |some (.cells Z _ _)=>let l:=(Z.drop M).take (W*s);if l.length=W*s then some (W,l)else none
   |_=>none
 | .lst C=>if C.all (fun z=>z.length == s)then some (C.length,C.flatten)else none
 | .nilS=>some (0,[])
 | .str b=>if s=1 then some (b.length,b.map fun x=>.int .u8 x.toNat)else none
 |_=>none
def jH(keep:Bool)(H:Hp)(s b:Nat)(F:AV)(n:Nat)(K:List AV):Option (AV×Hp):=
 match F with
 | .nilS=>if n*b<=zdO/\n<=zdO then some (.sl H.next 0 n s,H.alloc (.cells K 0 true))else none
 | .sl r M W z=>match H.get r with
   |some (.cells Z g true)=>
    if (W+n)*b<=zdO/\W+n<=zdO/\M+W*s=Z.length/\z=s/\g<=Z.length then
     (if keep then some (.sl H.next 0 (W+n) s,(H.set r (.cells Z Z.length false)).alloc (.cells (Z.drop M++K) (W*s) true))
      else some (.sl H.next 0 (W+n) s,(H.kill r).alloc (.cells (Z.drop M++K) (g-M) true)))
    else none
   |_=>none
 |_=>none
def fY(keep:Bool)(H:Hp)(s:Nat):AV->Hp
 | .sl r M W _=>match H.get r with
   |some (.cells Z g true)=>match !keep&&Nat.blt (M+W*s) Z.length&&Nat.ble g (M+W*s)with
    |true=>H.set r (.cells (Z.take (M+W*s)) g true)
    |false=>H
   |_=>H
 |_=>H
def j9(t:TypeId):Bool:=
 match P.underlying t with
 |some (.slice _)|some .string=>true
 |_=>false
def zdX(keep:Bool)(H:Hp)(t u:TypeId)(F x:AV):Option (AV×Hp):=
 match P.underlying t with
 |some (.slice e)=>match zcC P e,zc7 P e,zcX P e with
  |some s,some b,some z=>match j9 P u,zer H s x with
   |true,some (0,_)=>match F with
    | .sl ..|.lst _|.nilS=>some (F,H)
    |_=>none
   |true,some (n,K)=>if K.all AV.one/\z.length=s then jH keep (fY keep H s F) s b F n K else none
   |_,_=>none
  |_,_,_=>none
 |_=>none
def kS(J:TypeDesc)(x y:AV):Option Bool:=
 match J with
 | .int _=>match x,y with
   | .int k a,.int k' b=>if k=k' then some (a == b)else none
   |_,_=>none
 | .string=>match x,y with
   | .str a,.str b=>some (a == b)
   |_,_=>none
 | .bool=>match x,y with
   | .bool a,.bool b=>some (a == b)
   |_,_=>none
 |_=>none
def zeZ(t:TypeId):Option TypeDesc:=
 match P.underlying t with
 |some (.int k)=>some (.int k)
 |some .string=>some .string
 |some .bool=>some .bool
 |_=>none
def zdT(J:TypeDesc)(k:AV):List (AV×AV)->Nat->Option (Option (Nat×AV))
 |[],_=>some none
 |(k',v)::es,i=>match kS J k k' with
  |some true=>some (some (i,v))
  |some false=>zdT J k es (i+1)
  |none=>none
def pp(H:Hp):AV->Option (List (AV×AV))
 | .nilM=>some []
 | .map r=>match H.get r with
   |some (.map U)=>some U
   |_=>none
 |_=>none
def s6(ok:Bool)(v:AV)(L:Bool):AV:=match ok with
 |true=>.tup [v,.bool L]
 |false=>v
def zeD(H:Hp)(t:TypeId)(m k:AV)(ok:Bool):Option AV:=
 match P.underlying t with
 |some (.map L e)=>match pp H m,zeZ P L with
  |some U,some J=>match zdT J k U 0 with
   |some (some (_,v))=>some (s6 ok v true)
   |some none=>match ny P e with
    |some v=>some (s6 ok v false)
    |none=>none
   |none=>none
  |_,_=>none
 |_=>none
def ze2(H:Hp)(t:TypeId)(m k v:AV):Option Hp:=
 match P.underlying t with
 |some (.map L _)=>match m,zeZ P L with
  | .map r,some J=>match H.get r with
    |some (.map U)=>match zdT J k U 0 with
     |some (some (i,_))=>some (H.set r (.map (U.set i (k,v))))
     |some none=>some (H.set r (.map (U++[(k,v)])))
     |none=>none
    |_=>none
  |_,_=>none
 |_=>none
def oo:List UInt8->List UInt8->Bool
 |_,[]=>false
 |[],_::_=>true
 |a::x,b::y=>a<b||(a == b&&oo x y)
def zeE(op:BinOp)(k:IntKind)(a b:Int):Option AV:=
 match op with
 | .add=>some (.int k (k.wrap (a+b)))
 | .sub=>some (.int k (k.wrap (a-b)))
 | .mul=>some (.int k (k.wrap (a*b)))
 | .quo=>if b=0 then none else some (.int k (k.wrap (a.tdiv b)))
 | .rem=>if b=0 then none else some (.int k (a.tmod b))
 | .and=>some (.int k (k.wrap (BitVec.ofInt k.bits a &&& BitVec.ofInt k.bits b).toNat))
 | .or=>some (.int k (k.wrap (BitVec.ofInt k.bits a |||BitVec.ofInt k.bits b).toNat))
 | .xor=>some (.int k (k.wrap (BitVec.ofInt k.bits a^^^ BitVec.ofInt k.bits b).toNat))
 | .andNot=>some (.int k (k.wrap (BitVec.ofInt k.bits a &&& ~~~ BitVec.ofInt k.bits b).toNat))
 | .eql=>some (.bool (a == b))
 | .neq=>some (.bool (a != b))
 | .lss=>some (.bool (a<b))
 | .leq=>some (.bool (a<=b))
 | .gtr=>some (.bool (a > b))
 | .geq=>some (.bool (a>=b))
 |_=>none
def yp(op:BinOp)(k:IntKind)(a b:Int):Int:=
 match zeE op k a b with
 |some (.int _ n)=>n
 |_=>0
def Sx.eval(ρ:Nat->Int):Sx->Int
 | .var i=>ρ i
 | .lit n=>n
 | .bin Z k a b=>yp Z k (a.eval ρ) (b.eval ρ)
 | .conv k a=>k.wrap (a.eval ρ)
def vg:AV->Option (IntKind×Sx)
 | .int k n=>some (k,.lit n)
 | .sx k e=>some (k,e)
 |_=>none
def yq(D:BinOp->Sx->Sx->Option Bool)(op:BinOp)(k:IntKind)(a b:Sx):Option AV:=
 match op with
 | .add=>some (.sx k (.bin .add k a b))
 | .sub=>some (.sx k (.bin .sub k a b))
 | .mul=>some (.sx k (.bin .mul k a b))
 | .and=>some (.sx k (.bin .and k a b))
 | .or=>some (.sx k (.bin .or k a b))
 | .xor=>some (.sx k (.bin .xor k a b))
 | .andNot=>some (.sx k (.bin .andNot k a b))
 | .quo=>match D .eql b (.lit 0)with
   |some false=>some (.sx k (.bin .quo k a b))
   |_=>none
 | .rem=>match D .eql b (.lit 0)with
   |some false=>some (.sx k (.bin .rem k a b))
   |_=>none
 | .shl=>none
 | .shr=>none
 |op=>match D op a b with
  |some r=>some (.bool r)
  |none=>none
def vh(D:BinOp->Sx->Sx->Option Bool)(op:BinOp)(x y:AV):Option AV:=
 match vg x,vg y with
 |some (k,a),some (k',b)=>if k=k' then yq D op k a b else none
 |_,_=>none
def s7(op:BinOp)(a b:List UInt8):Option AV:=
 match op with
 | .add=>if a.length+b.length<=zdO then some (.str (a++b))else none
 | .eql=>some (.bool (a == b))
 | .neq=>some (.bool !(a == b))
 | .lss=>some (.bool (oo a b))
 | .leq=>some (.bool (oo a b||a == b))
 | .gtr=>some (.bool !(oo a b||a == b))
 | .geq=>some (.bool !(oo a b))
 |_=>none
def vi(t:TypeId)(x y:AV):Option Bool:=
 match P.underlying t with
 |some .bool=>match x,y with
  | .bool a,.bool b=>some (a == b)
  |_,_=>none
 |some (.pointer _)=>match x,y with
  | .nilP,.nilP=>some true
  | .ptr _ _,.nilP|.nilP,.ptr _ _|.iptr _,.nilP|.nilP,.iptr _=>some false
  |_,_=>none
 |some (.map _ _)=>match x,y with
  | .nilM,.nilM=>some true
  | .map _,.nilM|.nilM,.map _=>some false
  |_,_=>none
 |some (.func _ _ _)=>match x,y with
  | .nilF,.nilF=>some true
  | .clo _ _,.nilF|.nilF,.clo _ _=>some false
  |_,_=>none
 |some (.slice _)=>match x,y with
  | .nilS,.nilS=>some true
  | .sl _ _ _ _,.nilS|.nilS,.sl _ _ _ _|.lst (_::_),.nilS|.nilS,.lst (_::_)=>some false
  |_,_=>none
 |_=>none
def yr(t:TypeId)(x y:AV):Option Bool:=
 match x,y with
 | .int k a,.int k' b=>match P.underlying t with
   |some (.int _)=>if k=k' then some (a == b)else none
   |_=>none
 | .str a,.str b=>match P.underlying t with
   |some .string=>some (a == b)
   |_=>none
 |x,y=>vi P t x y
def qV(xs O:List AV):List Field->Option Bool
 |[]=>some true
 |f::fs=>match f.name == "_" with
  |true=>qV xs O fs
  |false=>match zcw P f.type xs f.offset,zcw P f.type O f.offset with
   |some a,some b=>match yr P f.type a b with
    |some true=>qV xs O fs
    |some false=>some false
    |none=>none
   |_,_=>none
def vj(t:TypeId)(xs O:List AV):Option Bool:=
 match P.underlying t with
 |some (.struct U)=>match P.stoodInHeld t||P.eqGuardType P.depth t with
  |true=>none
  |false=>qV P xs O U.toList
 |_=>none
def pr(t:TypeId)(x y:AV):Option Bool:=
 match x,y with
 | .agg C,.agg O=>vj P t C O
 |x,y=>vi P t x y
def oq(op:BinOp)(k:IntKind)(a b:Int):Option AV:=
 match b with
 | .ofNat m=>match op with
   | .shl=>some (.int k (k.wrap (a*2^ min m k.bits)))
   | .shr=>some (.int k (a.fdiv (2^ min m k.bits)))
   |_=>none
 |_=>none
def nz(op:BinOp)(k M:IntKind)(a b:Int):Option AV:=
 match op with
 | .shl=>oq .shl k a b
 | .shr=>oq .shr k a b
 |op=>if k=M then zeE op k a b else none
def yu(op:BinOp)(t:TypeId)(x y:AV):Option AV:=
 match op with
 | .eql=>match pr P t x y with
   |some b=>some (.bool b)
   |none=>none
 | .neq=>match pr P t x y with
   |some b=>some (.bool !b)
   |none=>none
 |_=>none
def zdr(D:BinOp->Sx->Sx->Option Bool)(op:BinOp)(t:TypeId)(x y:AV):Option AV:=
 match x,y with
 | .int k a,.int k' b=>nz op k k' a b
 | .str a,.str b=>s7 op a b
 | .sx k a,y=>vh D op (.sx k a) y
 | .int k a,.sx k' b=>vh D op (.int k a) (.sx k' b)
 |x,y=>yu P op t x y
def nA(op:UnOp)(x:AV):Option AV:=
 match op,x with
 | .neg,.sx k e=>some (.sx k (.bin .sub k (.lit 0) e))
 | .xor,.sx k e=>some (.sx k (.bin .xor k (.lit (if k.signed then -1 else k.max)) e))
 | .neg,.int k n=>zeE .sub k 0 n
 | .xor,.int k n=>zeE .xor k (if k.signed then -1 else k.max) n
 | .not,.bool b=>some (.bool !b)
 |_,_=>none
def pt:List AV->Option (List UInt8)
 |[]=>some []
 | .int .u8 n::cs=>match pt cs with
   |some bs=>some (UInt8.ofNat n.toNat::bs)
   |none=>none
 |_=>none
def zeI(H:Hp)(o j:TypeId)(x:AV):Option AV:=
 match P.underlying o,P.underlying j with
 |some (.slice e),some .string=>match P.underlying e with
  |some (.int .u8)=>match zer H 1 x with
   |some (_,W)=>match pt W with
    |some bs=>match x with
     | .sl _ _ _ _|.nilS=>some (.str bs)
     |_=>none
    |none=>none
   |none=>none
  |_=>none
 |some _,some (.int k)=>match x with
  | .int _ n=>some (.int k (k.wrap n))
  | .sx _ e=>some (.sx k (.conv k e))
  |_=>none
 |some .string,some .string=>match x with
  | .str s=>some (.str s)
  |_=>none
 |_,_=>none
def zeb(H:Hp)(t:TypeId)(l c:AV):Option (AV×Hp):=
 match P.underlying t,l,c with
 |some (.slice e),.int _ (.ofNat l),.int _ (.ofNat c)=>match zcC P e,zc7 P e,zcX P e with
  |some s,some b,some z=>if l<=c/\c*b<=zdO/\c<=zdO/\z.length=s then some (.sl H.next 0 l s,H.alloc (.cells (gw z l) 0 true))else none
  |_,_,_=>none
 |_,_,_=>none
def extract(x:AV)(i:Nat):Option AV:=
 match x with
 | .tup vs=>vs[i]?
 |_=>none
def mm(K:Bool):AV->AV->Option AV
 | .int k x,.int _ y=>some (.int k (if (if K then decide (y > x)else decide (y<x))then y else x))
 |_,_=>none
def ot(K:Bool)(x:AV):List AV->Option AV
 |[]=>some x
 |y::ys=>match mm K x y with
  |some z=>ot K z ys
  |none=>none
def zc0(H:Hp)(t:TypeId)(x:AV):Option AV:=
 match P.underlying t with
 |some .string=>match x with
  | .str s=>some (.int .i64 s.length)
  |_=>none
 |some (.slice _)=>match x with
  | .sl _ _ n _=>some (.int .i64 n)
  | .lst C=>some (.int .i64 C.length)
  | .nilS=>some (.int .i64 0)
  |_=>none
 |some (.array n _)=>some (.int .i64 n)
 |some (.map _ _)=>match pp H x with
  |some U=>some (.int .i64 U.length)
  |none=>none
 |_=>none
def mn(keep:Bool)(H:Hp)(b:Builtin)(O:List TypeId)(args:List AV):Option (AV×Hp):=
 match b with
 | .append=>match O,args with
   |[t,u],[s,x]=>zdX P keep H t u s x
   |_,_=>none
 | .len=>match O,args with
   |[t],[x]=>match zc0 P H t x with
    |some v=>some (v,H)
    |none=>none
   |_,_=>none
 | .max=>match args with
   |x::xs=>match ot true x xs with
    |some v=>some (v,H)
    |none=>none
   |[]=>none
 | .min=>match args with
   |x::xs=>match ot false x xs with
    |some v=>some (v,H)
    |none=>none
   |[]=>none
 |_=>none
def ret(H:Hp):Option AV->Option (AV×Hp)
 |some v=>some (v,H)
 |none=>none
def vk(E:ao)(H:Hp)(c a b:Operand):Option (AV×Hp):=
 match zcp E c with
 |some (.bool true)=>ret H (zcp E a)
 |some (.bool false)=>ret H (zcp E b)
 |_=>none
def s8(H:Hp)(t:TypeId):Option (AV×Hp):=
 match zcX P t with
 |some z=>some (.ptr H.next 0,H.alloc (.cells z 0 true))
 |none=>none
def s9(E:ao)(H:Hp)(x:Operand):Option (AV×Hp):=
 match zcp E x with
 |some v=>some (.ptr H.next 0,H.alloc (.cells v.cells 0 true))
 |none=>none
def vm(E:ao)(H:Hp)(t:TypeId)(i:Array (Nat×Operand)):Option (AV×Hp):=
 match zeQ E i.toList with
 |some L=>ret H (zdK P t L)
 |none=>none
def ta(E:ao)(H:Hp)(t:TypeId)(len:Nat)(i:Array (Nat×Operand)):Option (AV×Hp):=
 match zeQ E i.toList with
 |some L=>zdS P H t len L
 |none=>none
def tc(E:ao)(H:Hp)(t:TypeId)(a:Operand):Option (AV×Hp):=
 match zcp E a with
 |some v=>ret H (zdZ P H t v)
 |none=>none
def vn(E:ao)(H:Hp)(t:TypeId)(a x:Operand):Option (AV×Hp):=
 match zcp E a,zcp E x with
 |some a,some x=>match zet P H t a x with
  |some H=>some (zdx,H)
  |none=>none
 |_,_=>none
def vo(E:ao)(H:Hp)(x:Operand):Option (AV×Hp):=
 match zcp E x with
 |some (.ptr r o)=>some (.ptr r o,H)
 |some (.iptr W)=>some (.iptr W,H)
 |_=>none
def vp(D:BinOp->Sx->Sx->Option Bool)(E:ao)(H:Hp)(op:BinOp)(t:TypeId)(x y:Operand):Option (AV×Hp):=
 match zcp E x,zcp E y with
 |some x,some y=>ret H (zdr P D op t x y)
 |_,_=>none
def vq(E:ao)(H:Hp)(op:UnOp)(x:Operand):Option (AV×Hp):=
 match zcp E x with
 |some x=>ret H (nA op x)
 |none=>none
def td(E:ao)(H:Hp)(s d:TypeId)(x:Operand):Option (AV×Hp):=
 match zcp E x with
 |some x=>ret H (zeI P H s d x)
 |none=>none
def vr(E:ao)(H:Hp)(fn:Fn)(first z:Array Operand):Option (AV×Hp):=
 match fn,first.toList,zeq E z.toList with
 | .func f,[],some vs=>some (.clo f vs,H)
 |_,_,_=>none
def te(H:Hp)(r:Option Operand):Option (AV×Hp):=
 match r with
 |none=>some (.map H.next,H.alloc (.map []))
 |some _=>none
def tf(E:ao)(H:Hp)(t:TypeId)(l c:Operand):Option (AV×Hp):=
 match zcp E l,zcp E c with
 |some l,some c=>zeb P H t l c
 |_,_=>none
def zeJ(E:ao):Option Operand->Option (Option AV)
 |none=>some none
 |some x=>match zcp E x with
  |some v=>some (some v)
  |none=>none
def tg(E:ao)(H:Hp)(t:TypeId)(x:Operand)(lo C K:Option Operand):Option (AV×Hp):=
 match K,zcp E x,zeJ E lo,zeJ E C with
 |none,some x,some l,some h=>ret H (kR P H t x l h)
 |_,_,_,_=>none
def vt(E:ao)(H:Hp)(t:TypeId)(x:Operand)(f:Nat):Option (AV×Hp):=
 match zcp E x with
 |some x=>ret H (zcs P t x f)
 |none=>none
def vu(E:ao)(H:Hp)(t:TypeId)(x:Operand)(f:Nat):Option (AV×Hp):=
 match zcp E x with
 |some x=>ret H (zcM P t x f)
 |none=>none
def vw(E:ao)(H:Hp)(t:TypeId)(x i:Operand):Option (AV×Hp):=
 match zcp E x,zcp E i with
 |some x,some i=>ret H (zcU P t x i)
 |_,_=>none
def vx(E:ao)(H:Hp)(t:TypeId)(x i:Operand):Option (AV×Hp):=
 match zcp E x,zcp E i with
 |some x,some i=>ret H (lJ P t x i)
 |_,_=>none
def th(E:ao)(H:Hp)(t:TypeId)(m k:Operand)(ok:Bool):Option (AV×Hp):=
 match zcp E m,zcp E k with
 |some m,some k=>ret H (zeD P H t m k ok)
 |_,_=>none
def vy(E:ao)(H:Hp)(t:TypeId)(m k v:Operand):Option (AV×Hp):=
 match zcp E m,zcp E k,zcp E v with
 |some m,some k,some v=>match ze2 P H t m k v with
  |some H=>some (zdx,H)
  |none=>none
 |_,_,_=>none
def vz(E:ao)(H:Hp)(x:Operand)(i:Nat):Option (AV×Hp):=
 match zcp E x with
 |some x=>ret H (extract x i)
 |none=>none
def cq(D:BinOp->Sx->Sx->Option Bool)(E:ao)(H:Hp)(op:Op):Option (AV×Hp):=
 match op with
 | .move x=>ret H (zcp E x)
 | .assign x=>ret H (zcp E x)
 | .pick c a b=>vk E H c a b
 | .alloc t=>s8 P H t
 | .box _ x=>s9 E H x
 | .build t Z=>vm P E H t Z
 | .buildSlice t W Z=>ta P E H t W Z
 | .load t a=>tc P E H t a
 | .store t a x=>vn P E H t a x
 | .nilCheck x=>vo E H x
 | .binOp op t x y _=>vp P D E H op t x y
 | .unOp op _ x=>vq E H op x
 | .convert s d x=>td P E H s d x
 | .makeFunc Y first z=>vr E H Y first z
 | .makeMap _ r=>te H r
 | .makeSlice t l c=>tf P E H t l c
 | .slice t x M C K=>tg P E H t x M C K
 | .fieldAddr t x f=>vt P E H t x f
 | .field t x f=>vu P E H t x f
 | .indexAddr t x i=>vw P E H t x i
 | .index t x i=>vx P E H t x i
 | .lookup t m k ok=>th P E H t m k ok
 | .mapUpdate t m k v=>vy P E H t m k v
 | .extract x i=>vz E H x i
 |_=>none
inductive Task where
 |code (f:FuncId) (N:Nat) (c:Code) (E:ao) (H:Hp)
 |call (f:FuncId) (args:List AV) (H:Hp)
inductive AX where
 |normal|exit (id:Nat)|ret
inductive Res where
 |done (x:AX) (E:ao) (H:Hp)
 |val (v:AV) (H:Hp)
 |fail
def dW(N:Nat)(E:ao)(j:Option Tmp)(v:AV):Option ao:=
 match j with
 |some d=>match Nat.blt d N with
  |true=>some (T.set E d (some v))
  |false=>none
 |none=>some E
def vA(ops:List Oper)(E:ao)(j:Nat):Option Bool:=
 match (ops[j]?).bind (·.dst)with
 |some d=>match E.at d with|.bool b=>some b |_=>none
 |none=>none
def zey(ops:List Oper)(E:ao)(o:Oper):Bool:=
 match o.guard with
 |none=>true
 |some (j,L)=>match vA ops E j with
  |some b=>b == L
  |none=>false
variable (cfg:Cfg)
def ou(ih:Task->Res)(f:FuncId)(E:ao)(H:Hp)(c:Call):Res:=
 match c.callee with
 | .value g=>match zcp E g,zeq E c.args.toList with
   |some (.clo k U),some vs=>ih (.call k (vs++U) H)
   |_,_=>.fail
 | .builtin b=>match zeq E c.args.toList with
   |some vs=>match mn P (cfg.keep f) H b c.argTypes.toList vs with
    |some (v,H)=>.val v H
    |none=>.fail
   |none=>.fail
 |_=>.fail
def zec:Option (AV×Hp)->Res
 |some (v,H)=>.val v H
 |none=>.fail
def zdA(ih:Task->Res)(f:FuncId)(E:ao)(H:Hp)(op:Op):Res:=
 match op with
 | .call c=>ou P cfg ih f E H c
 |op=>zec (cq P cfg.dec E H op)
def Sx.beq:Sx->Sx->Bool
 | .var i,.var j=>Nat.beq i j
 | .lit a,.lit b=>a == b
 | .bin o k a b,.bin U k' M Z=>decide (o=U)&&decide (k=k')&&Sx.beq a M&&Sx.beq b Z
 | .conv k a,.conv k' b=>decide (k=k')&&Sx.beq a b
 |_,_=>false
mutual
def AV.beq:AV->AV->Bool
 | .int k a,.int k' b=>decide (k=k')&&(a == b)
 | .sx k a,.sx k' b=>decide (k=k')&&Sx.beq a b
 | .bool a,.bool b=>a == b
 | .str a,.str b=>a == b
 | .nilP,.nilP|.nilM,.nilM|.nilF,.nilF|.nilS,.nilS=>true
 | .ptr r o,.ptr m U=>Nat.beq r m&&Nat.beq o U
 | .iptr a,.iptr b=>zeT a b
 | .sl r o l z,.sl m U j L=>Nat.beq r m&&Nat.beq o U&&Nat.beq l j&&Nat.beq z L
 | .lst a,.lst b=>pu a b
 | .map r,.map m=>Nat.beq r m
 | .clo f a,.clo A b=>Nat.beq f A&&zeT a b
 | .agg a,.agg b=>zeT a b
 | .tup a,.tup b=>zeT a b
 |_,_=>false
def zeT:List AV->List AV->Bool
 |[],[]=>true
 |a::x,b::y=>AV.beq a b&&zeT x y
 |_,_=>false
def pu:List (List AV)->List (List AV)->Bool
 |[],[]=>true
 |a::x,b::y=>zeT a b&&pu x y
 |_,_=>false
end
inductive Kind where
 |calm   -- looks at no memory
 |read
 |make
 |act
def zed:Op->Kind
 | .load ..|.lookup ..|.convert ..|.slice ..=>.read
 | .alloc _|.box ..|.buildSlice ..|.makeMap ..|.makeSlice ..=>.make
 | .store ..|.mapUpdate ..=>.act
 | .call c=>match c.callee with
   | .builtin .len|.builtin .max|.builtin .min=>.read
   |_=>.act
 |_=>.calm
structure Rec where
 o:Oper
 did:Bool
 E:ao
 H:Hp
 val:AV
 H':Hp
inductive ResD where
 |done (E:ao) (H:Hp) (rs:List Rec)
 |fail
def kT(r:Rec):ResD->ResD
 | .done E H rs=>.done E H (r::rs)
 | .fail=>.fail
def ze5(g:ao->Hp->ResD)(H:Hp):Option ao->ResD
 |some E=>g E H
 |none=>.fail
def gA(ih:Task->Res)(f N:Nat)(C:List Oper):List Oper->ao->Hp->ResD
 |[],E,H=>.done E H []
 |o::rest,E,H=>match zey C E o with
  |true=>match zdA P cfg ih f E H o.op with
   | .val v H'=>kT ⟨o,true,E,H,v,H'⟩ (ze5 (gA ih f N C rest) H' (dW N E o.dst v))
   |_=>.fail
  |false=>kT ⟨o,false,E,H,zdx,H⟩ (ze5 (gA ih f N C rest) H (dW N E o.dst zdx))
def preds(o:Oper):List Nat:=(o.after.toList.filter (Region.binds .any)).map (·.on)
def qW:List Nat->List Nat->List Nat
 |acc,[]=>acc
 |acc,x::xs=>match acc.contains x with
  |true=>qW acc xs
  |false=>qW (x::acc) xs
def ti(l:List Nat):List Nat:=qW [] l
def fu:List Oper->List (List Nat)->List (List Nat)
 |[],acc=>acc
 |o::rest,acc=>fu rest (acc++[ti (preds o++(preds o).flatMap fun i=>acc.getD i [])])
def Cw(o:Oper):List Nat:=o.dst.toList++o.op.operands.toList.filterMap fun|.tmp t=>some t |_=>none
def ow(C:List Oper)(o:Oper):List Nat:=Cw o++(match o.guard with|some (j,_)=>((C[j]?).bind (·.dst)).toList|none=>[])
def jG(o:Oper):Bool:=match zed o.op with|.act=>true |_=>false
def ox(o:Oper):Bool:=match zed o.op with|.make=>true |_=>false
def clash(C:List Oper)(p q:Oper):Bool:=
 (jG p&&(jG q||ox q)) ||
 (p.dst.toList.any fun d=>(ow C q).contains d)||(q.dst.toList.any fun d=>(ow C p).contains d)
def mo(C:List Oper):Bool:=
 let A:=fu C []
 (List.range C.length).all fun j=>match C[j]? with
   |none=>true
   |some q=>(preds q).all (·< j)&&(match q.guard with|some (g,_)=>(A.getD j []).contains g|none=>true) &&
    (List.range j).all fun i=>match C[i]? with
      |none=>true
      |some p=>!clash C p q||(A.getD j []).contains i
def gB(ops:List Oper):List Nat:=(List.range ops.length).filter fun i=>match ops[i]? with
 |some o=>jG o
 |none=>false
def zc3(rs:List Rec)(H':Hp)(e:Nat):Hp:=match rs[e]? with
 |some r=>r.H
 |none=>H'
def HB.beq:HB->HB->Bool
 | .cells a i t,.cells b j u=>zeT a b&&Nat.beq i j&&(t == u)
 | .map a,.map b=>zeT (a.map (·.1)) (b.map (·.1))&&zeT (a.map (·.2)) (b.map (·.2))
 |_,_=>false
def zcH(r:Rec)(H:Hp):Bool:=
 match zed r.o.op with
 | .read=>match zdA P cfg (fun _=>.fail) 0 r.E H r.o.op with
   | .val v _=>AV.beq v r.val
   |_=>false
 | .make=>match H.get r.H.next,r.H'.get r.H.next with
   |some b,some i=>HB.beq b i
   |_,_=>false
 |_=>true
def vB(A:List (List Nat))(O:List Nat)(i m:Nat):Bool:=
 !(O.any (fun e=>(A.getD i []).contains e&&Nat.ble m e)||O.any (fun e=>(A.getD e []).contains i&&Nat.blt e m))
def kV(ops:List Oper):List (Nat×Nat):=
 (List.range ops.length).flatMap fun i=>match ops[i]? with
   |some o=>match zed o.op with
    | .read|.make=>((gB ops++[ops.length]).filter (vB (fu ops []) (gB ops) i)).map fun m=>(i,m)
    |_=>[]
   |none=>[]
def pw(V:List (Nat×Nat))(rs:List Rec)(H':Hp):Bool:=
 rs.all (fun r=>Nat.ble r.H.next r.H'.next)&&V.all fun p=>match rs[p.1]? with
  |some r=>!r.did||zcH P cfg r (zc3 rs H' p.2)
  |none=>true
def ze0(ih:Task->Res)(f N:Nat)(ops:List Oper)(E:ao)(H:Hp):Res:=
 match mo ops with
 |true=>match gA P cfg ih f N ops ops E H with
  | .done E' H' rs=>match pw P cfg (kV ops) rs H' with
    |true=>.done .normal E' H'
    |false=>.fail
  | .fail=>.fail
 |false=>.fail
def fO:List Nat->Nat->Nat
 |[],_=>0
 |x::xs,i=>match Nat.beq x i with
  |true=>0
  |false=>fO xs i+1
def oy(U:List Nat)(o:Oper):Oper:=
 {o with after:=((o.after.toList.filter (Region.binds .any)).map fun e=>{e with on:=fO U e.on}).toArray,guard:=match o.guard with|some (j,b)=>some (fO U j,b)|none=>none}
def zel(U:List Nat)(l:List Oper):List Oper:=U.filterMap fun i=>match l[i]? with
 |some o=>some (oy U o)
 |none=>none
def tj(U:List Nat)(l:List Oper):Bool:=
 Nat.beq U.length l.length &&
 (List.range l.length).all (fun k=>(match U[k]? with|some i=>Nat.blt i l.length&&Nat.beq (fO U i) k|none=>false)&&Nat.blt (fO U k) l.length&&(match U[fO U k]? with|some i=>Nat.beq i k|none=>false)) &&
 l.all (fun o=>(preds o).all (fun p=>Nat.blt p l.length)&&(match o.guard with|some (j,_)=>Nat.blt j l.length|none=>true))
def gC(q p:Nat)(l:List Oper):List Oper:=match l[q]? with
 |some o=>l.set q {o with after:=o.after.push {on:=p,ground:=.data} }
 |none=>l
def T.beq{M:Type}(C:M->M->Bool):T M->T M->Bool
 | .e,.e=>true
 | .n v l r,.n A j m=>(match v,A with|some a,some b=>C a b|none,none=>true |_,_=>false)&&T.beq C l j&&T.beq C r m
 |_,_=>false
def yw(ops:List Oper)(U M:ao)(O Z:Hp):Bool:=
 ops.all (fun o=>match o.dst with|some d=>AV.beq (U.at d) (M.at d)|none=>true)&&Nat.beq O.next Z.next&&T.beq HB.beq O.t Z.t
def px(ops:List Oper):Res->Res->Res
 | .done .normal E1 H1,.done .normal M Z=>match yw ops E1 M H1 Z with
   |true=>.done .normal E1 H1
   |false=>.fail
 |_,_=>.fail
def zeF(ih:Task->Res)(f N:Nat)(E:ao)(H:Hp):Plan->List Oper->Res
 | .text,ops=>ze0 P cfg ih f N ops E H
 | .perm ord,ops=>match tj ord ops with
   |true=>ze0 P cfg ih f N (zel ord ops) E H
   |false=>.fail
 | .split p q a b,ops=>match Nat.beq p q with
   |true=>.fail
   |false=>px ops (zeF ih f N E H a (gC q p ops)) (zeF ih f N E H b (gC p q ops))
def zeK(g:ao->Hp->Res)(H:Hp):Option ao->Res
 |some E=>g E H
 |none=>.fail
def zeG(ih:Task->Res)(f N:Nat)(C:List Oper)(ops:List Oper):ao->Hp->Res:=
 List.rec (motive:=fun _=>ao->Hp->Res) (fun E H=>.done .normal E H)
  (fun o _ g E H=>match zey C E o with
    |true=>match zdA P cfg ih f E H o.op with
     | .val v H=>zeK g H (dW N E o.dst v)
     |_=>.fail
    |false=>zeK g H (dW N E o.dst zdx)) ops
def tk:Nat->ao
 |0=>.e
 |d+1=>.n (some zdx) (tk d) (tk d)
def py(N:Nat):ao:=tk (Nat.log2 N+1)
def zcr:Nat->List AV->ao->ao
 |_,[],E=>E
 |i,v::vs,E=>zcr (i+1) vs (T.set E i (some v))
def zee(E:ao)(H:Hp):ResultVar->Option AV
 | .tmp t=>some (E.at t)
 | .cell a t=>zdZ P H t (E.at a)
def zd2(E:ao)(H:Hp):List ResultVar->Option (List AV)
 |[]=>some []
 |r::rs=>match zee P E H r,zd2 E H rs with
  |some v,some vs=>some (v::vs)
  |_,_=>none
def zcn:List AV->AV
 |[v]=>v
 |vs=>.tup vs
def qX(rs:List ResultVar)(E:ao)(H:Hp):Res:=
 match zd2 P E H rs with
 |some vs=>.val (zcn vs) H
 |none=>.fail
def ze6(ih:Task->Res)(f:FuncId)(args:List AV)(H:Hp):Res:=
 match P.funcs[f]? with
 |some m=>match m.body with
  |some c=>match ih (.code f (max m.ntmps args.length) c (zcr 0 args (py (max m.ntmps args.length))) H)with
   | .done .normal E H=>qX P m.results.toList E H
   | .done .ret E H=>qX P m.results.toList E H
   |_=>.fail
  |none=>.fail
 |none=>.fail
def kX(ih:Task->Res)(f N:Nat)(b:Code):Res->Res
 | .done .normal E H=>ih (.code f N b E H)
 |r=>r
def ze3(id:Nat):Res->Res
 | .done (.exit V) E H=>match Nat.beq V id with
   |true=>.done .normal E H
   |false=>.done (.exit V) E H
 |r=>r
def pz(ih:Task->Res)(f N:Nat)(x:Operand)(a b:Code)(E:ao)(H:Hp):Res:=
 match zcp E x with
 |some (.bool true)=>ih (.code f N a E H)
 |some (.bool false)=>ih (.code f N b E H)
 |_=>.fail
def zdP(z:Nat):Nat->List AV->List (List AV)
 |0,_=>[]
 |n+1,l=>l.take z::zdP z n (l.drop z)
def ii(g:AV->Hp->Option (AV×Hp)):List AV->Hp->Option (List AV×Hp)
 |[],H=>some ([],H)
 |c::cs,H=>match g c H with
  |some (d,H)=>match ii g cs H with
   |some (F,H)=>some (d::F,H)
   |none=>none
  |none=>none
def fw:Nat->AV->Hp->Option (AV×Hp)
 |0,_,_=>none
 |n+1,v,H=>match v with
  | .sl r M W z=>match H.get r with
    |some (.cells Z g O)=>match Nat.ble (M+W*z) Z.length&&Nat.ble g Z.length with
     |true=>match ii (fw n) ((Z.drop M).take (W*z)) (H.set r (.cells Z (max g (M+W*z)) O))with
      |some (l,H)=>some (.lst (zdP z W l),H)
      |none=>none
     |false=>none
    |_=>none
  | .agg Z=>match ii (fw n) Z H with
    |some (F,H)=>some (.agg F,H)
    |none=>none
  | .ptr _ _=>none
  | .map _=>none
  |v=>some (v,H)
def tl(ih:Task->Res)(f:FuncId)(args:List AV)(H:Hp):Option (List AV×Hp)->Res
 |some (W,H')=>match cfg.call f W with
  |some r=>.val r H'
  |none=>ze6 P ih f args H
 |none=>ze6 P ih f args H
def qY:Bool->Res->Res
 |true,.val v H=>zec (fw 100 v H)
 |_,r=>r
def kY(ih:Task->Res)(f:FuncId)(args:List AV)(H:Hp):Res:=match cfg.ice f with
 |true=>tl P cfg ih f args H (ii (fw 100) args H)
 |false=>ze6 P ih f args H
def step(ih:Task->Res):Task->Res
 | .call f args H=>match cfg.call f args with
   |some r=>.val r H
   |none=>qY (cfg.froz f) (kY P cfg ih f args H)
 | .code f N c E H=>match c with
   | .skip=>.done .normal E H
   | .region id ops draw=>match draw with
     |false=>zeG P cfg ih f N ops.toList ops.toList E H
     |true=>zeF P cfg ih f N E H (cfg.plan f id) ops.toList
   | .seq a b=>kX ih f N b (ih (.code f N a E H))
   | .cond x a b=>pz ih f N x a b E H
   | .block id a=>ze3 id (ih (.code f N a E H))
   | .loop a=>kX ih f N (.loop a) (ih (.code f N a E H))
   | .exit id=>.done (.exit id) E H
   | .ret=>.done .ret E H
   |_=>.fail
def zdp(n:Nat):Task->Res:=Nat.rec (motive:=fun _=>Task->Res) (fun _=>.fail) (fun _ ih=>step P cfg ih) n
end
def zc2:Hp:={next:=0,t:=.e}
def iceL(g:AV->Option AV):List AV->Option (List AV)
 |[]=>some []
 |c::cs=>match g c,iceL g cs with
  |some d,some F=>some (d::F)
  |_,_=>none
def oz(g:AV->Option AV):List (List AV)->Option (List (List AV))
 |[]=>some []
 |c::cs=>match iceL g c,oz g cs with
  |some d,some F=>some (d::F)
  |_,_=>none
def iceV(H:Hp):Nat->AV->Option AV
 |0,_=>none
 |n+1,v=>match v with
  | .sl r M W z=>match H.get r with
    |some (.cells Z _ _)=>match iceL (iceV H n) ((Z.drop M).take (W*z))with
     |some l=>if l.length=W*z then some (.lst (zdP z W l))else none
     |none=>none
    |_=>none
  | .lst C=>match oz (iceV H n) C with
    |some O=>some (.lst O)
    |none=>none
  | .agg Z=>match iceL (iceV H n) Z with
    |some F=>some (.agg F)
    |none=>none
  | .tup Z=>match iceL (iceV H n) Z with
    |some F=>some (.tup F)
    |none=>none
  | .int k a=>some (.int k a)
  | .sx k e=>some (.sx k e)
  | .bool b=>some (.bool b)
  | .str s=>some (.str s)
  | .nilP=>some .nilP
  | .nilM=>some .nilM
  | .nilF=>some .nilF
  | .nilS=>some .nilS
  |_=>none
def tm(P:Program)(cfg:Cfg)(n m:Nat)(f:FuncId)(args:List AV):Option AV:=
 match zdp P cfg n (.call f args zc2)with
 | .val v H=>iceV H m v
 |_=>none
def nB(m:Nat)(args:List AV):Bool:=
 match iceL (iceV zc2 m) args with
 |some W=>zeT W args
 |none=>false
def yx(P:Program)(cfg:Cfg)(n m:Nat)(f:FuncId)(args:List AV)(r:AV):Bool:=
 match tm P cfg n m f args with
 |some q=>AV.beq q r
 |none=>false
def pA:List (FuncId×List AV×AV)->FuncId->List AV->Option AV
 |[],_,_=>none
 |p::l,f,args=>match Nat.beq p.1 f with
  |true=>match zeT p.2.1 args with
   |true=>some p.2.2
   |false=>pA l f args
  |false=>pA l f args
end
end Go.Ab
