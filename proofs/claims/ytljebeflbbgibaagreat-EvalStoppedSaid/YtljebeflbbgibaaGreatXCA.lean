/- Parts: AbDefs. -/
import GoSem.Step
set_option linter.unusedSimpArgs false
set_option linter.unusedVariables false
set_option linter.unusedSectionVars false
set_option linter.defProp false
set_option maxHeartbeats 32000000
namespace Go.Ab
noncomputable section
open Go
inductive T (α:Type) where
 |e
 |n (v:Option α) (l r:T α)
def iy{U:Type}(b:Bool)(x y:U):U:=Bool.rec y x b
def T.get{U:Type}(t:T U):Nat->Option U:=
 T.rec (motive:=fun _=>Nat->Option U) (fun _=>none)
  (fun v _ _ Z i k=>iy (Nat.beq k 0) v (iy (Nat.beq (Nat.mod k 2) 1) (Z (Nat.div k 2)) (i (Nat.sub (Nat.div k 2) 1)))) t
def pP{U:Type}(v:Option U)(f:Nat):T U->Nat->T U:=
 Nat.rec (motive:=fun _=>T U->Nat->T U) (fun t _=>t)
  (fun _ ih t k=>T.casesOn t
    (iy (Nat.beq k 0) (.n v .e .e) (iy (Nat.beq (Nat.mod k 2) 1) (.n none (ih .e (Nat.div k 2)) .e) (.n none .e (ih .e (Nat.sub (Nat.div k 2) 1)))))
    (fun u l r=>iy (Nat.beq k 0) (.n v l r) (iy (Nat.beq (Nat.mod k 2) 1) (.n u (ih l (Nat.div k 2)) r) (.n u l (ih r (Nat.sub (Nat.div k 2) 1)))))) f
def T.set{U:Type}(t:T U)(k:Nat)(v:Option U):T U:=pP v (k+1) t k
inductive Sx where
 |var (i:Nat)
 |lit (n:Int)
 |bin (op:BinOp) (k:IntKind) (a b:Sx)
 |conv (k:IntKind) (a:Sx)
inductive AV where
 |int (k:IntKind) (n:Int)
 |sx (k:IntKind) (e:Sx)
 |bool (b:Bool)
 |str (s:List UInt8)
 |nilP|nilM|nilF|nilS
 |ptr (r:Nat) (off:Nat)
 |iptr (cs:List AV)
 |sl (r off len z:Nat)
 |lst (xs:List (List AV))
 |map (r:Nat)
 |clo (f:Nat) (cap:List AV)
 |agg (cs:List AV)
 |tup (vs:List AV)
inductive HB where
 |cells (cs:List AV) (imm:Nat) (tip:Bool)
 |map (es:List (AV×AV))
structure Hp where
 next:Nat
 t:T HB
def Hp.get(h:Hp)(r:Nat):Option HB:=h.t.get r
def Hp.set(h:Hp)(r:Nat)(b:HB):Hp:={next:=h.next,t:=h.t.set r (some b) }
def Hp.kill(h:Hp)(r:Nat):Hp:={next:=h.next,t:=h.t.set r none}
def Hp.alloc(h:Hp)(b:HB):Hp:={next:=h.next+1,t:=h.t.set h.next (some b) }
inductive Plan where
 |text
 |perm (ord:List Nat)
 |split (p q:Nat) (a b:Plan)
structure Cfg where
 keep:FuncId->Bool
 dec:BinOp->Sx->Sx->Option Bool:=fun _ _ _=>none
 call:FuncId->List AV->Option AV:=fun _ _=>none
 ice:FuncId->Bool:=fun _=>false
 plan:FuncId->Nat->Plan:=fun _ _=>.text
 froz:FuncId->Bool:=fun _=>false
abbrev ax:=T AV
def zev:AV:=.tup []
def ax.at(E:ax)(t:Nat):AV:=(T.get E t).getD zev
def tA:Value->Option AV
 | .int k n=>some (.int k n)
 | .bool b=>some (.bool b)
 | .string s=>some (.str s.data.toList)
 | .pointer none=>some .nilP
 | .slice none 0 0=>some .nilS
 | .map none=>some .nilM
 | .nilFunc=>some .nilF
 |_=>none
def rI:Value->Option AV
 | .agg Y=>(Y.toList.mapM tA).map .agg
 |v=>tA v
def zdo(E:ax):Operand->Option AV
 | .tmp t=>some (E.at t)
 | .const v=>rI v
 | .global _=>none
 | .func f=>some (.clo f [])
def zfj(E:ax):List Operand->Option (List AV)
 |[]=>some []
 |x::xs=>match zdo E x,zfj E xs with
  |some v,some vs=>some (v::vs)
  |_,_=>none
def AV.cells:AV->List AV
 | .agg Y=>Y
 |v=>[v]
def AV.one:AV->Bool
 | .agg _|.tup _=>false
 |_=>true
section
variable (P:Program)
def zdB(t:TypeId):Option Nat:=(P.info? t).map (·.size)
def zd6(t:TypeId):Option Nat:=(P.info? t).map (·.bytes)
def nR(t:TypeId):Option AV:=
 match P.info? t with
 |some {zero:=some z,.. }=>rI z
 |_=>none
def zdZ(t:TypeId):Option (List AV):=
 match nR P t with
 |some v=>some v.cells
 |none=>none
def zdx(t:TypeId)(cs:List AV)(off:Nat):Option AV:=
 match P.underlying t with
 |some (.struct _)|some (.array _ _)=>
  match zdB P t with
  |some s=>let l:=(cs.drop off).take s;if l.length=s then some (.agg l)else none
  |none=>none
 |some _=>cs[off]?
 |none=>none
def zeX(H:Hp)(t:TypeId):AV->Option AV
 | .ptr r V=>match H.get r with
   |some (.cells Y _ _)=>zdx P t Y V
   |_=>none
 | .iptr Y=>zdx P t Y 0
 |_=>none
def splice(cs:List AV)(off:Nat)(o:List AV):List AV:=cs.take off++o++cs.drop (off+o.length)
def jA(H:Hp)(t:TypeId)(a v:AV):Option Hp:=
 match a with
 | .ptr r V=>match H.get r,zdB P t with
   |some (.cells Y j K),some s=>
    if v.cells.length=s/\j<=V/\V+s<=Y.length/\v.cells.all AV.one then some (H.set r (.cells (splice Y V v.cells) j K))else none
   |_,_=>none
 |_=>none
def zdt(t:TypeId)(a:AV)(i:Nat):Option AV:=
 match P.underlying t with
 |some (.struct F)=>match F[i]? with
  |some f=>match zdB P f.type with
   |some (_+1)=>match a with
    | .ptr r V=>some (.ptr r (V+f.offset))
    | .iptr Y=>some (.iptr (Y.drop f.offset))
    |_=>none
   |_=>none
  |none=>none
 |_=>none
def zdN(t:TypeId)(x:AV)(i:Nat):Option AV:=
 match P.underlying t,x with
 |some (.struct F),.agg Y=>match F[i]? with
  |some f=>zdx P f.type Y f.offset
  |none=>none
 |_,_=>none
def zdi(n:Int):Option Nat:=match n with|.ofNat k=>some k |_=>none
def zdV(t:TypeId)(x i:AV):Option AV:=
 match i with
 | .int _ (.ofNat k)=>match P.underlying t with
   |some (.slice e)=>match zdB P e with
    |some s=>match x with
     | .sl r V Y _=>if k<Y then some (.ptr r (V+k*s))else none
     | .lst Z=>match Z[k]? with
       |some z=>if z.length=s then some (.iptr z)else none
       |none=>none
     |_=>none
    |none=>none
   |some (.array n e)=>match zdB P e with
    |some s=>match x with
     | .ptr r V=>if k<n then some (.ptr r (V+k*s))else none
     |_=>none
    |none=>none
   |_=>none
 |_=>none
def lW(t:TypeId)(x i:AV):Option AV:=
 match i with
 | .int _ (.ofNat k)=>match P.underlying t,x with
   |some .string,.str s=>match s[k]? with
    |some b=>some (.int .u8 b.toNat)
    |none=>none
   |some (.array n e),.agg Y=>if k<n then (match zdB P e with|some s=>zdx P e Y (k*s)|none=>none)else none
   |_,_=>none
 |_=>none
def ze1(d:Nat):Option AV->Option Nat
 |none=>some d
 |some (.int _ (.ofNat k))=>some k
 |some _=>none
def jk(t:TypeId)(x:AV)(lo A:Option AV):Option AV:=
 match P.underlying t,x with
 |some .string,.str s=>
  match ze1 0 lo,ze1 s.length A with
  |some l,some h=>if l<=h/\h<=s.length then some (.str ((s.drop l).take (h-l)))else none
  |_,_=>none
 |some (.slice e),x=>match zdB P e with
  |some z=>match x with
   | .sl r V Y M=>match ze1 0 lo,ze1 Y A with
     |some l,some h=>if l<=h/\h<=Y/\M=z then (if l=h then some (.lst [])else some (.sl r (V+l*z) (h-l) z))else none
     |_,_=>none
   | .lst Z=>match ze1 0 lo,ze1 Z.length A with
     |some l,some h=>if l<=h/\h<=Z.length then (match (Z.drop l).take (h-l)with
      |[]=>some (.lst [])
      |row::rows=>if row.length=z then some (.lst (row::rows))else none)else none
     |_,_=>none
   | .nilS=>match ze1 0 lo,ze1 0 A with
     |some 0,some 0=>some .nilS
     |_,_=>none
   |_=>none
  |none=>none
 |_,_=>none
def k8(H:Hp)(t:TypeId)(x:AV)(lo A:Option AV):Option AV:=
 match x with
 | .ptr r V=>match P.underlying t,H.get r with
   |some (.array n e),some (.cells Y _ _)=>match zdB P e,ze1 0 lo,ze1 n A with
    |some z,some l,some h=>if l<=h/\h<=n/\V+n*z<=Y.length then (if l=h then some (.lst [])else some (.sl r (V+l*z) (h-l) z))else none
    |_,_,_=>none
   |_,_=>none
 |x=>jk P t x lo A
def mL(o:Nat->Option (Nat×Nat))(cells:List AV):List (Nat×AV)->Option (List AV)
 |[]=>some cells
 |(i,v)::rest=>match o i with
  |none=>none
  |some (V,m)=>if v.cells.length≠m\/V+v.cells.length > cells.length then none else mL o (splice cells V v.cells) rest
def zfH(E:ax):List (Nat×Operand)->Option (List (Nat×AV))
 |[]=>some []
 |(i,x)::rest=>match zdo E x,zfH E rest with
  |some v,some vs=>some ((i,v)::vs)
  |_,_=>none
def C6(F:List Field):Option (List (Nat×Nat)):=F.mapM fun f=>(P.info? f.type).map fun i=>(f.offset,i.size)
def zeI(t:TypeId)(O:List (Nat×AV)):Option AV:=
 match zdZ P t,P.underlying t with
 |some z,some (.struct F)=>match C6 P F.toList with
  |some o=>match mL (fun i=>o[i]?) z O with
   |some Y=>some (.agg Y)
   |none=>none
  |none=>none
 |some z,some (.array _ e)=>match zdB P e with
  |some s=>match mL (fun i=>some (i*s,s)) z O with
   |some Y=>some (.agg Y)
   |none=>none
  |none=>none
 |_,_=>none
def gJ(z:List AV):Nat->List AV
 |0=>[]
 |n+1=>z++gJ z n
def zeP(H:Hp)(t:TypeId)(len:Nat)(O:List (Nat×AV)):Option (AV×Hp):=
 match P.underlying t with
 |some (.slice e)=>match zdB P e,zdZ P e with
  |some s,some z=>if len*s<=16777216/\z.length=s then (match mL (fun i=>some (i*s,s)) (gJ z len) O with
   |some Y=>some (.sl H.next 0 len s,H.alloc (.cells Y 0 true))
   |none=>none)else none
  |_,_=>none
 |_=>none
def zeL:Nat:=70368744177664   -- 2^46
def zfk(H:Hp)(s:Nat):AV->Option (Nat×List AV)
 | .sl r V Y _=>match H.get r with
   |some (.cells U _ _)=>let l:=(U.drop V).take (Y*s);if l.length=Y*s then some (Y,l)else none
   |_=>none
 | .lst Z=>if Z.all (fun z=>z.length == s)then some (Z.length,Z.flatten)else none
 | .nilS=>some (0,[])
 | .str b=>if s=1 then some (b.length,b.map fun x=>.int .u8 x.toNat)else none
 |_=>none
def zf5(keep:Bool)(H:Hp)(s b:Nat)(L:AV)(n:Nat)(o:List AV):Option (AV×Hp):=
 match L with
 | .nilS=>if n*b<=zeL/\n<=zeL then some (.sl H.next 0 n s,H.alloc (.cells o 0 true))else none
 | .sl r V Y z=>match H.get r with
   |some (.cells Z j true)=>
    if (Y+n)*b<=zeL/\Y+n<=zeL/\V+Y*s=Z.length/\z=s/\j<=Z.length then
     (if keep then some (.sl H.next 0 (Y+n) s,(H.set r (.cells Z Z.length false)).alloc (.cells (Z.drop V++o) (Y*s) true))
      else some (.sl H.next 0 (Y+n) s,(H.kill r).alloc (.cells (Z.drop V++o) (j-V) true)))
    else none
   |_=>none
 |_=>none
def gw(keep:Bool)(H:Hp)(s:Nat):AV->Hp
 | .sl r V Y _=>match H.get r with
   |some (.cells Z j true)=>match !keep&&Nat.blt (V+Y*s) Z.length&&Nat.ble j (V+Y*s)with
    |true=>H.set r (.cells (Z.take (V+Y*s)) j true)
    |false=>H
   |_=>H
 |_=>H
def kG(t:TypeId):Bool:=
 match P.underlying t with
 |some (.slice _)|some .string=>true
 |_=>false
def zeV(keep:Bool)(H:Hp)(t u:TypeId)(L x:AV):Option (AV×Hp):=
 match P.underlying t with
 |some (.slice e)=>match zdB P e,zd6 P e,zdZ P e with
  |some s,some b,some z=>match kG P u,zfk H s x with
   |true,some (0,_)=>match L with
    | .sl ..|.lst _|.nilS=>some (L,H)
    |_=>none
   |true,some (n,o)=>if o.all AV.one/\z.length=s then zf5 keep (gw keep H s L) s b L n o else none
   |_,_=>none
  |_,_,_=>none
 |_=>none
def lb(A:TypeDesc)(x y:AV):Option Bool:=
 match A with
 | .int _=>match x,y with
   | .int k a,.int k' b=>if k=k' then some (a == b)else none
   |_,_=>none
 | .string=>match x,y with
   | .str a,.str b=>some (a == b)
   |_,_=>none
 | .bool=>match x,y with
   | .bool a,.bool b=>some (a == b)
   |_,_=>none
 |_=>none
def zfQ(t:TypeId):Option TypeDesc:=
 match P.underlying t with
 |some (.int k)=>some (.int k)
 |some .string=>some .string
 |some .bool=>some .bool
 |_=>none
def jn(A:TypeDesc)(k:AV):List (AV×AV)->Nat->Option (Option (Nat×AV))
 |[],_=>some none
 |(k',v)::es,i=>match lb A k k' with
  |some true=>some (some (i,v))
  |some false=>jn A k es (i+1)
  |none=>none
def pQ(H:Hp):AV->Option (List (AV×AV))
 | .nilM=>some []
 | .map r=>match H.get r with
   |some (.map C)=>some C
   |_=>none
 |_=>none
def tB(ok:Bool)(v:AV)(V:Bool):AV:=match ok with
 |true=>.tup [v,.bool V]
 |false=>v
def zfv(H:Hp)(t:TypeId)(m k:AV)(ok:Bool):Option AV:=
 match P.underlying t with
 |some (.map z e)=>match pQ H m,zfQ P z with
  |some C,some A=>match jn A k C 0 with
   |some (some (_,v))=>some (tB ok v true)
   |some none=>match nR P e with
    |some v=>some (tB ok v false)
    |none=>none
   |none=>none
  |_,_=>none
 |_=>none
def zfS(H:Hp)(t:TypeId)(m k v:AV):Option Hp:=
 match P.underlying t with
 |some (.map z _)=>match m,zfQ P z with
  | .map r,some A=>match H.get r with
    |some (.map C)=>match jn A k C 0 with
     |some (some (i,_))=>some (H.set r (.map (C.set i (k,v))))
     |some none=>some (H.set r (.map (C++[(k,v)])))
     |none=>none
    |_=>none
  |_,_=>none
 |_=>none
def oR:List UInt8->List UInt8->Bool
 |_,[]=>false
 |[],_::_=>true
 |a::x,b::y=>a<b||(a == b&&oR x y)
def zfw(op:BinOp)(k:IntKind)(a b:Int):Option AV:=
 match op with
 | .add=>some (.int k (k.wrap (a+b)))
 | .sub=>some (.int k (k.wrap (a-b)))
 | .mul=>some (.int k (k.wrap (a*b)))
 | .quo=>if b=0 then none else some (.int k (k.wrap (a.tdiv b)))
 | .rem=>if b=0 then none else some (.int k (a.tmod b))
 | .and=>some (.int k (k.wrap (BitVec.ofInt k.bits a &&& BitVec.ofInt k.bits b).toNat))
 | .or=>some (.int k (k.wrap (BitVec.ofInt k.bits a |||BitVec.ofInt k.bits b).toNat))
 | .xor=>some (.int k (k.wrap (BitVec.ofInt k.bits a^^^ BitVec.ofInt k.bits b).toNat))
 | .andNot=>some (.int k (k.wrap (BitVec.ofInt k.bits a &&& ~~~ BitVec.ofInt k.bits b).toNat))
 | .eql=>some (.bool (a == b))
 | .neq=>some (.bool (a != b))
 | .lss=>some (.bool (a<b))
 | .leq=>some (.bool (a<=b))
 | .gtr=>some (.bool (a > b))
 | .geq=>some (.bool (a>=b))
 |_=>none
def zi(op:BinOp)(k:IntKind)(a b:Int):Int:=
 match zfw op k a b with
 |some (.int _ n)=>n
 |_=>0
def Sx.eval(ρ:Nat->Int):Sx->Int
 | .var i=>ρ i
 | .lit n=>n
 | .bin K k a b=>zi K k (a.eval ρ) (b.eval ρ)
 | .conv k a=>k.wrap (a.eval ρ)
def vR:AV->Option (IntKind×Sx)
 | .int k n=>some (k,.lit n)
 | .sx k e=>some (k,e)
 |_=>none
def zj(D:BinOp->Sx->Sx->Option Bool)(op:BinOp)(k:IntKind)(a b:Sx):Option AV:=
 match op with
 | .add=>some (.sx k (.bin .add k a b))
 | .sub=>some (.sx k (.bin .sub k a b))
 | .mul=>some (.sx k (.bin .mul k a b))
 | .and=>some (.sx k (.bin .and k a b))
 | .or=>some (.sx k (.bin .or k a b))
 | .xor=>some (.sx k (.bin .xor k a b))
 | .andNot=>some (.sx k (.bin .andNot k a b))
 | .quo=>match D .eql b (.lit 0)with
   |some false=>some (.sx k (.bin .quo k a b))
   |_=>none
 | .rem=>match D .eql b (.lit 0)with
   |some false=>some (.sx k (.bin .rem k a b))
   |_=>none
 | .shl=>none
 | .shr=>none
 |op=>match D op a b with
  |some r=>some (.bool r)
  |none=>none
def vT(D:BinOp->Sx->Sx->Option Bool)(op:BinOp)(x y:AV):Option AV:=
 match vR x,vR y with
 |some (k,a),some (k',b)=>if k=k' then zj D op k a b else none
 |_,_=>none
def tC(op:BinOp)(a b:List UInt8):Option AV:=
 match op with
 | .add=>if a.length+b.length<=zeL then some (.str (a++b))else none
 | .eql=>some (.bool (a == b))
 | .neq=>some (.bool !(a == b))
 | .lss=>some (.bool (oR a b))
 | .leq=>some (.bool (oR a b||a == b))
 | .gtr=>some (.bool !(oR a b||a == b))
 | .geq=>some (.bool !(oR a b))
 |_=>none
def vU(t:TypeId)(x y:AV):Option Bool:=
 match P.underlying t with
 |some .bool=>match x,y with
  | .bool a,.bool b=>some (a == b)
  |_,_=>none
 |some (.pointer _)=>match x,y with
  | .nilP,.nilP=>some true
  | .ptr _ _,.nilP|.nilP,.ptr _ _|.iptr _,.nilP|.nilP,.iptr _=>some false
  |_,_=>none
 |some (.map _ _)=>match x,y with
  | .nilM,.nilM=>some true
  | .map _,.nilM|.nilM,.map _=>some false
  |_,_=>none
 |some (.func _ _ _)=>match x,y with
  | .nilF,.nilF=>some true
  | .clo _ _,.nilF|.nilF,.clo _ _=>some false
  |_,_=>none
 |some (.slice _)=>match x,y with
  | .nilS,.nilS=>some true
  | .sl _ _ _ _,.nilS|.nilS,.sl _ _ _ _|.lst (_::_),.nilS|.nilS,.lst (_::_)=>some false
  |_,_=>none
 |_=>none
def zk(t:TypeId)(x y:AV):Option Bool:=
 match x,y with
 | .int k a,.int k' b=>match P.underlying t with
   |some (.int _)=>if k=k' then some (a == b)else none
   |_=>none
 | .str a,.str b=>match P.underlying t with
   |some .string=>some (a == b)
   |_=>none
 |x,y=>vU P t x y
def rJ(xs I:List AV):List Field->Option Bool
 |[]=>some true
 |f::fs=>match f.name == "_" with
  |true=>rJ xs I fs
  |false=>match zdx P f.type xs f.offset,zdx P f.type I f.offset with
   |some a,some b=>match zk P f.type a b with
    |some true=>rJ xs I fs
    |some false=>some false
    |none=>none
   |_,_=>none
def vV(t:TypeId)(xs I:List AV):Option Bool:=
 match P.underlying t with
 |some (.struct F)=>match P.stoodInHeld t||P.eqGuardType P.depth t with
  |true=>none
  |false=>rJ P xs I F.toList
 |_=>none
def pR(t:TypeId)(x y:AV):Option Bool:=
 match x,y with
 | .agg Y,.agg I=>vV P t Y I
 |x,y=>vU P t x y
def oS(op:BinOp)(k:IntKind)(a b:Int):Option AV:=
 match b with
 | .ofNat m=>match op with
   | .shl=>some (.int k (k.wrap (a*2^ min m k.bits)))
   | .shr=>some (.int k (a.fdiv (2^ min m k.bits)))
   |_=>none
 |_=>none
def nS(op:BinOp)(k J:IntKind)(a b:Int):Option AV:=
 match op with
 | .shl=>oS .shl k a b
 | .shr=>oS .shr k a b
 |op=>if k=J then zfw op k a b else none
def zl(op:BinOp)(t:TypeId)(x y:AV):Option AV:=
 match op with
 | .eql=>match pR P t x y with
   |some b=>some (.bool b)
   |none=>none
 | .neq=>match pR P t x y with
   |some b=>some (.bool !b)
   |none=>none
 |_=>none
def zep(D:BinOp->Sx->Sx->Option Bool)(op:BinOp)(t:TypeId)(x y:AV):Option AV:=
 match x,y with
 | .int k a,.int k' b=>nS op k k' a b
 | .str a,.str b=>tC op a b
 | .sx k a,y=>vT D op (.sx k a) y
 | .int k a,.sx k' b=>vT D op (.int k a) (.sx k' b)
 |x,y=>zl P op t x y
def nT(op:UnOp)(x:AV):Option AV:=
 match op,x with
 | .neg,.sx k e=>some (.sx k (.bin .sub k (.lit 0) e))
 | .xor,.sx k e=>some (.sx k (.bin .xor k (.lit (if k.signed then -1 else k.max)) e))
 | .neg,.int k n=>zfw .sub k 0 n
 | .xor,.int k n=>zfw .xor k (if k.signed then -1 else k.max) n
 | .not,.bool b=>some (.bool !b)
 |_,_=>none
def pS:List AV->Option (List UInt8)
 |[]=>some []
 | .int .u8 n::cs=>match pS cs with
   |some bs=>some (UInt8.ofNat n.toNat::bs)
   |none=>none
 |_=>none
def zfA(H:Hp)(z U:TypeId)(x:AV):Option AV:=
 match P.underlying z,P.underlying U with
 |some (.slice e),some .string=>match P.underlying e with
  |some (.int .u8)=>match zfk H 1 x with
   |some (_,Y)=>match pS Y with
    |some bs=>match x with
     | .sl _ _ _ _|.nilS=>some (.str bs)
     |_=>none
    |none=>none
   |none=>none
  |_=>none
 |some _,some (.int k)=>match x with
  | .int _ n=>some (.int k (k.wrap n))
  | .sx _ e=>some (.sx k (.conv k e))
  |_=>none
 |some .string,some .string=>match x with
  | .str s=>some (.str s)
  |_=>none
 |_,_=>none
def ze7(H:Hp)(t:TypeId)(l c:AV):Option (AV×Hp):=
 match P.underlying t,l,c with
 |some (.slice e),.int _ (.ofNat l),.int _ (.ofNat c)=>match zdB P e,zd6 P e,zdZ P e with
  |some s,some b,some z=>if l<=c/\c*b<=zeL/\c<=zeL/\z.length=s then some (.sl H.next 0 l s,H.alloc (.cells (gJ z l) 0 true))else none
  |_,_,_=>none
 |_,_,_=>none
def extract(x:AV)(i:Nat):Option AV:=
 match x with
 | .tup vs=>vs[i]?
 |_=>none
def mm(C:Bool):AV->AV->Option AV
 | .int k x,.int _ y=>some (.int k (if (if C then decide (y > x)else decide (y<x))then y else x))
 |_,_=>none
def oT(C:Bool)(x:AV):List AV->Option AV
 |[]=>some x
 |y::ys=>match mm C x y with
  |some z=>oT C z ys
  |none=>none
def zdY(H:Hp)(t:TypeId)(x:AV):Option AV:=
 match P.underlying t with
 |some .string=>match x with
  | .str s=>some (.int .i64 s.length)
  |_=>none
 |some (.slice _)=>match x with
  | .sl _ _ n _=>some (.int .i64 n)
  | .lst Y=>some (.int .i64 Y.length)
  | .nilS=>some (.int .i64 0)
  |_=>none
 |some (.array n _)=>some (.int .i64 n)
 |some (.map _ _)=>match pQ H x with
  |some C=>some (.int .i64 C.length)
  |none=>none
 |_=>none
def mN(keep:Bool)(H:Hp)(b:Builtin)(K:List TypeId)(args:List AV):Option (AV×Hp):=
 match b with
 | .append=>match K,args with
   |[t,u],[s,x]=>zeV P keep H t u s x
   |_,_=>none
 | .len=>match K,args with
   |[t],[x]=>match zdY P H t x with
    |some v=>some (v,H)
    |none=>none
   |_,_=>none
 | .max=>match args with
   |x::xs=>match oT true x xs with
    |some v=>some (v,H)
    |none=>none
   |[]=>none
 | .min=>match args with
   |x::xs=>match oT false x xs with
    |some v=>some (v,H)
    |none=>none
   |[]=>none
 |_=>none
def ret(H:Hp):Option AV->Option (AV×Hp)
 |some v=>some (v,H)
 |none=>none
def vW(E:ax)(H:Hp)(c a b:Operand):Option (AV×Hp):=
 match zdo E c with
 |some (.bool true)=>ret H (zdo E a)
 |some (.bool false)=>ret H (zdo E b)
 |_=>none
def tD(H:Hp)(t:TypeId):Option (AV×Hp):=
 match zdZ P t with
 |some z=>some (.ptr H.next 0,H.alloc (.cells z 0 true))
 |none=>none
def tE(E:ax)(H:Hp)(x:Operand):Option (AV×Hp):=
 match zdo E x with
 |some v=>some (.ptr H.next 0,H.alloc (.cells v.cells 0 true))
 |none=>none
def vX(E:ax)(H:Hp)(t:TypeId)(O:Array (Nat×Operand)):Option (AV×Hp):=
 match zfH E O.toList with
 |some F=>ret H (zeI P t F)
 |none=>none
def tF(E:ax)(H:Hp)(t:TypeId)(len:Nat)(O:Array (Nat×Operand)):Option (AV×Hp):=
 match zfH E O.toList with
 |some F=>zeP P H t len F
 |none=>none
def tG(E:ax)(H:Hp)(t:TypeId)(a:Operand):Option (AV×Hp):=
 match zdo E a with
 |some v=>ret H (zeX P H t v)
 |none=>none
def vY(E:ax)(H:Hp)(t:TypeId)(a x:Operand):Option (AV×Hp):=
 match zdo E a,zdo E x with
 |some a,some x=>match jA P H t a x with
  |some H=>some (zev,H)
  |none=>none
 |_,_=>none
def vZ(E:ax)(H:Hp)(x:Operand):Option (AV×Hp):=
 match zdo E x with
 |some (.ptr r o)=>some (.ptr r o,H)
 |some (.iptr Y)=>some (.iptr Y,H)
 |_=>none
def v4(D:BinOp->Sx->Sx->Option Bool)(E:ax)(H:Hp)(op:BinOp)(t:TypeId)(x y:Operand):Option (AV×Hp):=
 match zdo E x,zdo E y with
 |some x,some y=>ret H (zep P D op t x y)
 |_,_=>none
def v6(E:ax)(H:Hp)(op:UnOp)(x:Operand):Option (AV×Hp):=
 match zdo E x with
 |some x=>ret H (nT op x)
 |none=>none
def tH(E:ax)(H:Hp)(s d:TypeId)(x:Operand):Option (AV×Hp):=
 match zdo E x with
 |some x=>ret H (zfA P H s d x)
 |none=>none
def v7(E:ax)(H:Hp)(fn:Fn)(first A:Array Operand):Option (AV×Hp):=
 match fn,first.toList,zfj E A.toList with
 | .func f,[],some vs=>some (.clo f vs,H)
 |_,_,_=>none
def tI(H:Hp)(r:Option Operand):Option (AV×Hp):=
 match r with
 |none=>some (.map H.next,H.alloc (.map []))
 |some _=>none
def tJ(E:ax)(H:Hp)(t:TypeId)(l c:Operand):Option (AV×Hp):=
 match zdo E l,zdo E c with
 |some l,some c=>ze7 P H t l c
 |_,_=>none
def zfB(E:ax):Option Operand->Option (Option AV)
 |none=>some none
 |some x=>match zdo E x with
  |some v=>some (some v)
  |none=>none
def tK(E:ax)(H:Hp)(t:TypeId)(x:Operand)(lo A C:Option Operand):Option (AV×Hp):=
 match C,zdo E x,zfB E lo,zfB E A with
 |none,some x,some l,some h=>ret H (k8 P H t x l h)
 |_,_,_,_=>none
def v8(E:ax)(H:Hp)(t:TypeId)(x:Operand)(f:Nat):Option (AV×Hp):=
 match zdo E x with
 |some x=>ret H (zdt P t x f)
 |none=>none
def v9(E:ax)(H:Hp)(t:TypeId)(x:Operand)(f:Nat):Option (AV×Hp):=
 match zdo E x with
 |some x=>ret H (zdN P t x f)
 |none=>none
def wa(E:ax)(H:Hp)(t:TypeId)(x i:Operand):Option (AV×Hp):=
 match zdo E x,zdo E i with
 |some x,some i=>ret H (zdV P t x i)
 |_,_=>none
def wb(E:ax)(H:Hp)(t:TypeId)(x i:Operand):Option (AV×Hp):=
 match zdo E x,zdo E i with
 |some x,some i=>ret H (lW P t x i)
 |_,_=>none
def tL(E:ax)(H:Hp)(t:TypeId)(m k:Operand)(ok:Bool):Option (AV×Hp):=
 match zdo E m,zdo E k with
 |some m,some k=>ret H (zfv P H t m k ok)
 |_,_=>none
def wc(E:ax)(H:Hp)(t:TypeId)(m k v:Operand):Option (AV×Hp):=
 match zdo E m,zdo E k,zdo E v with
 |some m,some k,some v=>match zfS P H t m k v with
  |some H=>some (zev,H)
  |none=>none
 |_,_,_=>none
def wd(E:ax)(H:Hp)(x:Operand)(i:Nat):Option (AV×Hp):=
 match zdo E x with
 |some x=>ret H (extract x i)
 |none=>none
def cB(D:BinOp->Sx->Sx->Option Bool)(E:ax)(H:Hp)(op:Op):Option (AV×Hp):=
 match op with
 | .move x=>ret H (zdo E x)
 | .assign x=>ret H (zdo E x)
 | .pick c a b=>vW E H c a b
 | .alloc t=>tD P H t
 | .box _ x=>tE E H x
 | .build t O=>vX P E H t O
 | .buildSlice t Y O=>tF P E H t Y O
 | .load t a=>tG P E H t a
 | .store t a x=>vY P E H t a x
 | .nilCheck x=>vZ E H x
 | .binOp op t x y _=>v4 P D E H op t x y
 | .unOp op _ x=>v6 E H op x
 | .convert s d x=>tH P E H s d x
 | .makeFunc V first A=>v7 E H V first A
 | .makeMap _ r=>tI H r
 | .makeSlice t l c=>tJ P E H t l c
 | .slice t x Z U C=>tK P E H t x Z U C
 | .fieldAddr t x f=>v8 P E H t x f
 | .field t x f=>v9 P E H t x f
 | .indexAddr t x i=>wa P E H t x i
 | .index t x i=>wb P E H t x i
 | .lookup t m k ok=>tL P E H t m k ok
 | .mapUpdate t m k v=>wc P E H t m k v
 | .extract x i=>wd E H x i
 |_=>none
inductive Task where
 |code (f:FuncId) (N:Nat) (c:Code) (E:ax) (H:Hp)
 |call (f:FuncId) (args:List AV) (H:Hp)
inductive AX where
 |normal|exit (id:Nat)|ret
inductive Res where
 |done (x:AX) (E:ax) (H:Hp)
 |val (v:AV) (H:Hp)
 |fail
def d9(N:Nat)(E:ax)(U:Option Tmp)(v:AV):Option ax:=
 match U with
 |some d=>match Nat.blt d N with
  |true=>some (T.set E d (some v))
  |false=>none
 |none=>some E
def wg(ops:List Oper)(E:ax)(j:Nat):Option Bool:=
 match (ops[j]?).bind (·.dst)with
 |some d=>match E.at d with|.bool b=>some b |_=>none
 |none=>none
def zfr(ops:List Oper)(E:ax)(o:Oper):Bool:=
 match o.guard with
 |none=>true
 |some (j,z)=>match wg ops E j with
  |some b=>b == z
  |none=>false
variable (cfg:Cfg)
def oU(ih:Task->Res)(f:FuncId)(E:ax)(H:Hp)(c:Call):Res:=
 match c.callee with
 | .value g=>match zdo E g,zfj E c.args.toList with
   |some (.clo k L),some vs=>ih (.call k (vs++L) H)
   |_,_=>.fail
 | .builtin b=>match zfj E c.args.toList with
   |some vs=>match mN P (cfg.keep f) H b c.argTypes.toList vs with
    |some (v,H)=>.val v H
    |none=>.fail
   |none=>.fail
 |_=>.fail
def ze8:Option (AV×Hp)->Res
 |some (v,H)=>.val v H
 |none=>.fail
def zez(ih:Task->Res)(f:FuncId)(E:ax)(H:Hp)(op:Op):Res:=
 match op with
 | .call c=>oU P cfg ih f E H c
 |op=>ze8 (cB P cfg.dec E H op)
def Sx.beq:Sx->Sx->Bool
 | .var i,.var j=>Nat.beq i j
 | .lit a,.lit b=>a == b
 | .bin o k a b,.bin Z k' A m=>decide (o=Z)&&decide (k=k')&&Sx.beq a A&&Sx.beq b m
 | .conv k a,.conv k' b=>decide (k=k')&&Sx.beq a b
 |_,_=>false
mutual
def AV.beq:AV->AV->Bool
 | .int k a,.int k' b=>decide (k=k')&&(a == b)
 | .sx k a,.sx k' b=>decide (k=k')&&Sx.beq a b
 | .bool a,.bool b=>a == b
 | .str a,.str b=>a == b
 | .nilP,.nilP|.nilM,.nilM|.nilF,.nilF|.nilS,.nilS=>true
 | .ptr r o,.ptr A Z=>Nat.beq r A&&Nat.beq o Z
 | .iptr a,.iptr b=>zfK a b
 | .sl r o l z,.sl A Z K M=>Nat.beq r A&&Nat.beq o Z&&Nat.beq l K&&Nat.beq z M
 | .lst a,.lst b=>pT a b
 | .map r,.map A=>Nat.beq r A
 | .clo f a,.clo C b=>Nat.beq f C&&zfK a b
 | .agg a,.agg b=>zfK a b
 | .tup a,.tup b=>zfK a b
 |_,_=>false
def zfK:List AV->List AV->Bool
 |[],[]=>true
 |a::x,b::y=>AV.beq a b&&zfK x y
 |_,_=>false
def pT:List (List AV)->List (List AV)->Bool
 |[],[]=>true
 |a::x,b::y=>zfK a b&&pT x y
 |_,_=>false
end
inductive Kind where
 |calm   -- looks at no memory
 |read
 |make
 |act
def ze9:Op->Kind
 | .load ..|.lookup ..|.convert ..|.slice ..=>.read
 | .alloc _|.box ..|.buildSlice ..|.makeMap ..|.makeSlice ..=>.make
 | .store ..|.mapUpdate ..=>.act
 | .call c=>match c.callee with
   | .builtin .len|.builtin .max|.builtin .min=>.read
   |_=>.act
 |_=>.calm
structure Rec where
 o:Oper
 did:Bool
 E:ax
 H:Hp
 val:AV
 H':Hp
inductive ResD where
 |done (E:ax) (H:Hp) (rs:List Rec)
 |fail
def lc(r:Rec):ResD->ResD
 | .done E H rs=>.done E H (r::rs)
 | .fail=>.fail
def zfW(j:ax->Hp->ResD)(H:Hp):Option ax->ResD
 |some E=>j E H
 |none=>.fail
def gL(ih:Task->Res)(f N:Nat)(J:List Oper):List Oper->ax->Hp->ResD
 |[],E,H=>.done E H []
 |o::rest,E,H=>match zfr J E o with
  |true=>match zez P cfg ih f E H o.op with
   | .val v H'=>lc ⟨o,true,E,H,v,H'⟩ (zfW (gL ih f N J rest) H' (d9 N E o.dst v))
   |_=>.fail
  |false=>lc ⟨o,false,E,H,zev,H⟩ (zfW (gL ih f N J rest) H (d9 N E o.dst zev))
def preds(o:Oper):List Nat:=(o.after.toList.filter (Region.binds .any)).map (·.on)
def rK:List Nat->List Nat->List Nat
 |acc,[]=>acc
 |acc,x::xs=>match acc.contains x with
  |true=>rK acc xs
  |false=>rK (x::acc) xs
def tM(l:List Nat):List Nat:=rK [] l
def fE:List Oper->List (List Nat)->List (List Nat)
 |[],acc=>acc
 |o::rest,acc=>fE rest (acc++[tM (preds o++(preds o).flatMap fun i=>acc.getD i [])])
def C7(o:Oper):List Nat:=o.dst.toList++o.op.operands.toList.filterMap fun|.tmp t=>some t |_=>none
def oV(J:List Oper)(o:Oper):List Nat:=C7 o++(match o.guard with|some (j,_)=>((J[j]?).bind (·.dst)).toList|none=>[])
def jZ(o:Oper):Bool:=match ze9 o.op with|.act=>true |_=>false
def oW(o:Oper):Bool:=match ze9 o.op with|.make=>true |_=>false
def clash(J:List Oper)(p q:Oper):Bool:=
 (jZ p&&(jZ q||oW q)) ||
 (p.dst.toList.any fun d=>(oV J q).contains d)||(q.dst.toList.any fun d=>(oV J p).contains d)
def mO(J:List Oper):Bool:=
 let A:=fE J []
 (List.range J.length).all fun j=>match J[j]? with
   |none=>true
   |some q=>(preds q).all (·< j)&&(match q.guard with|some (g,_)=>(A.getD j []).contains g|none=>true) &&
    (List.range j).all fun i=>match J[i]? with
      |none=>true
      |some p=>!clash J p q||(A.getD j []).contains i
def gM(ops:List Oper):List Nat:=(List.range ops.length).filter fun i=>match ops[i]? with
 |some o=>jZ o
 |none=>false
def zd5(rs:List Rec)(H':Hp)(e:Nat):Hp:=match rs[e]? with
 |some r=>r.H
 |none=>H'
def HB.beq:HB->HB->Bool
 | .cells a i t,.cells b j u=>zfK a b&&Nat.beq i j&&(t == u)
 | .map a,.map b=>zfK (a.map (·.1)) (b.map (·.1))&&zfK (a.map (·.2)) (b.map (·.2))
 |_,_=>false
def zcL(r:Rec)(H:Hp):Bool:=
 match ze9 r.o.op with
 | .read=>match zez P cfg (fun _=>.fail) 0 r.E H r.o.op with
   | .val v _=>AV.beq v r.val
   |_=>false
 | .make=>match H.get r.H.next,r.H'.get r.H.next with
   |some b,some m=>HB.beq b m
   |_,_=>false
 |_=>true
def wh(A:List (List Nat))(Z:List Nat)(i m:Nat):Bool:=
 !(Z.any (fun e=>(A.getD i []).contains e&&Nat.ble m e)||Z.any (fun e=>(A.getD e []).contains i&&Nat.blt e m))
def lh(ops:List Oper):List (Nat×Nat):=
 (List.range ops.length).flatMap fun i=>match ops[i]? with
   |some o=>match ze9 o.op with
    | .read|.make=>((gM ops++[ops.length]).filter (wh (fE ops []) (gM ops) i)).map fun m=>(i,m)
    |_=>[]
   |none=>[]
def pU(M:List (Nat×Nat))(rs:List Rec)(H':Hp):Bool:=
 rs.all (fun r=>Nat.ble r.H.next r.H'.next)&&M.all fun p=>match rs[p.1]? with
  |some r=>!r.did||zcL P cfg r (zd5 rs H' p.2)
  |none=>true
def j0(ih:Task->Res)(f N:Nat)(ops:List Oper)(E:ax)(H:Hp):Res:=
 match mO ops with
 |true=>match gL P cfg ih f N ops ops E H with
  | .done E' H' rs=>match pU P cfg (lh ops) rs H' with
    |true=>.done .normal E' H'
    |false=>.fail
  | .fail=>.fail
 |false=>.fail
def fY:List Nat->Nat->Nat
 |[],_=>0
 |x::xs,i=>match Nat.beq x i with
  |true=>0
  |false=>fY xs i+1
def oX(J:List Nat)(o:Oper):Oper:=
 {o with after:=((o.after.toList.filter (Region.binds .any)).map fun e=>{e with on:=fY J e.on}).toArray,guard:=match o.guard with|some (j,b)=>some (fY J j,b)|none=>none}
def fF(J:List Nat)(l:List Oper):List Oper:=J.filterMap fun i=>match l[i]? with
 |some o=>some (oX J o)
 |none=>none
def tN(J:List Nat)(l:List Oper):Bool:=
 Nat.beq J.length l.length &&
 (List.range l.length).all (fun k=>(match J[k]? with|some i=>Nat.blt i l.length&&Nat.beq (fY J i) k|none=>false)&&Nat.blt (fY J k) l.length&&(match J[fY J k]? with|some i=>Nat.beq i k|none=>false)) &&
 l.all (fun o=>(preds o).all (fun p=>Nat.blt p l.length)&&(match o.guard with|some (j,_)=>Nat.blt j l.length|none=>true))
def gN(q p:Nat)(l:List Oper):List Oper:=match l[q]? with
 |some o=>l.set q {o with after:=o.after.push {on:=p,ground:=.data} }
 |none=>l
def T.beq{U:Type}(F:U->U->Bool):T U->T U->Bool
 | .e,.e=>true
 | .n v l r,.n Z K A=>(match v,Z with|some a,some b=>F a b|none,none=>true |_,_=>false)&&T.beq F l K&&T.beq F r A
 |_,_=>false
def zm(ops:List Oper)(m Z:ax)(z g:Hp):Bool:=
 ops.all (fun o=>match o.dst with|some d=>AV.beq (m.at d) (Z.at d)|none=>true)&&Nat.beq z.next g.next&&T.beq HB.beq z.t g.t
def pV(ops:List Oper):Res->Res->Res
 | .done .normal E1 H1,.done .normal Z g=>match zm ops E1 Z H1 g with
   |true=>.done .normal E1 H1
   |false=>.fail
 |_,_=>.fail
def zfx(ih:Task->Res)(f N:Nat)(E:ax)(H:Hp):Plan->List Oper->Res
 | .text,ops=>j0 P cfg ih f N ops E H
 | .perm ord,ops=>match tN ord ops with
   |true=>j0 P cfg ih f N (fF ord ops) E H
   |false=>.fail
 | .split p q a b,ops=>match Nat.beq p q with
   |true=>.fail
   |false=>pV ops (zfx ih f N E H a (gN q p ops)) (zfx ih f N E H b (gN p q ops))
def zfC(j:ax->Hp->Res)(H:Hp):Option ax->Res
 |some E=>j E H
 |none=>.fail
def zfy(ih:Task->Res)(f N:Nat)(J:List Oper)(ops:List Oper):ax->Hp->Res:=
 List.rec (motive:=fun _=>ax->Hp->Res) (fun E H=>.done .normal E H)
  (fun o _ j E H=>match zfr J E o with
    |true=>match zez P cfg ih f E H o.op with
     | .val v H=>zfC j H (d9 N E o.dst v)
     |_=>.fail
    |false=>zfC j H (d9 N E o.dst zev)) ops
def tO:Nat->ax
 |0=>.e
 |d+1=>.n (some zev) (tO d) (tO d)
def pW(N:Nat):ax:=tO (Nat.log2 N+1)
def zds:Nat->List AV->ax->ax
 |_,[],E=>E
 |i,v::vs,E=>zds (i+1) vs (T.set E i (some v))
def zfa(E:ax)(H:Hp):ResultVar->Option AV
 | .tmp t=>some (E.at t)
 | .cell a t=>zeX P H t (E.at a)
def ze0(E:ax)(H:Hp):List ResultVar->Option (List AV)
 |[]=>some []
 |r::rs=>match zfa P E H r,ze0 E H rs with
  |some v,some vs=>some (v::vs)
  |_,_=>none
def zdn:List AV->AV
 |[v]=>v
 |vs=>.tup vs
def rL(rs:List ResultVar)(E:ax)(H:Hp):Res:=
 match ze0 P E H rs with
 |some vs=>.val (zdn vs) H
 |none=>.fail
def zfX(ih:Task->Res)(f:FuncId)(args:List AV)(H:Hp):Res:=
 match P.funcs[f]? with
 |some V=>match V.body with
  |some c=>match ih (.code f (max V.ntmps args.length) c (zds 0 args (pW (max V.ntmps args.length))) H)with
   | .done .normal E H=>rL P V.results.toList E H
   | .done .ret E H=>rL P V.results.toList E H
   |_=>.fail
  |none=>.fail
 |none=>.fail
def lj(ih:Task->Res)(f N:Nat)(b:Code):Res->Res
 | .done .normal E H=>ih (.code f N b E H)
 |r=>r
def zfT(id:Nat):Res->Res
 | .done (.exit K) E H=>match Nat.beq K id with
   |true=>.done .normal E H
   |false=>.done (.exit K) E H
 |r=>r
def pX(ih:Task->Res)(f N:Nat)(x:Operand)(a b:Code)(E:ax)(H:Hp):Res:=
 match zdo E x with
 |some (.bool true)=>ih (.code f N a E H)
 |some (.bool false)=>ih (.code f N b E H)
 |_=>.fail
def jd(z:Nat):Nat->List AV->List (List AV)
 |0,_=>[]
 |n+1,l=>l.take z::jd z n (l.drop z)
def iC(g:AV->Hp->Option (AV×Hp)):List AV->Hp->Option (List AV×Hp)
 |[],H=>some ([],H)
 |c::cs,H=>match g c H with
  |some (d,H)=>match iC g cs H with
   |some (I,H)=>some (d::I,H)
   |none=>none
  |none=>none
def fG:Nat->AV->Hp->Option (AV×Hp)
 |0,_,_=>none
 |n+1,v,H=>match v with
  | .sl r V Y z=>match H.get r with
    |some (.cells Z j K)=>match Nat.ble (V+Y*z) Z.length&&Nat.ble j Z.length with
     |true=>match iC (fG n) ((Z.drop V).take (Y*z)) (H.set r (.cells Z (max j (V+Y*z)) K))with
      |some (l,H)=>some (.lst (jd z Y l),H)
      |none=>none
     |false=>none
    |_=>none
  | .agg Z=>match iC (fG n) Z H with
    |some (I,H)=>some (.agg I,H)
    |none=>none
  | .ptr _ _=>none
  | .map _=>none
  |v=>some (v,H)
def tP(ih:Task->Res)(f:FuncId)(args:List AV)(H:Hp):Option (List AV×Hp)->Res
 |some (L,H')=>match cfg.call f L with
  |some r=>.val r H'
  |none=>zfX P ih f args H
 |none=>zfX P ih f args H
def rM:Bool->Res->Res
 |true,.val v H=>ze8 (fG 100 v H)
 |_,r=>r
def lk(ih:Task->Res)(f:FuncId)(args:List AV)(H:Hp):Res:=match cfg.ice f with
 |true=>tP P cfg ih f args H (iC (fG 100) args H)
 |false=>zfX P ih f args H
def step(ih:Task->Res):Task->Res
 | .call f args H=>match cfg.call f args with
   |some r=>.val r H
   |none=>rM (cfg.froz f) (lk P cfg ih f args H)
 | .code f N c E H=>match c with
   | .skip=>.done .normal E H
   | .region id ops draw=>match draw with
     |false=>zfy P cfg ih f N ops.toList ops.toList E H
     |true=>zfx P cfg ih f N E H (cfg.plan f id) ops.toList
   | .seq a b=>lj ih f N b (ih (.code f N a E H))
   | .cond x a b=>pX ih f N x a b E H
   | .block id a=>zfT id (ih (.code f N a E H))
   | .loop a=>lj ih f N (.loop a) (ih (.code f N a E H))
   | .exit id=>.done (.exit id) E H
   | .ret=>.done .ret E H
   |_=>.fail
def ev(n:Nat):Task->Res:=Nat.rec (motive:=fun _=>Task->Res) (fun _=>.fail) (fun _ ih=>step P cfg ih) n
end
def zd3:Hp:={next:=0,t:=.e}
def iceL(g:AV->Option AV):List AV->Option (List AV)
 |[]=>some []
 |c::cs=>match g c,iceL g cs with
  |some d,some I=>some (d::I)
  |_,_=>none
def oY(g:AV->Option AV):List (List AV)->Option (List (List AV))
 |[]=>some []
 |c::cs=>match iceL g c,oY g cs with
  |some d,some I=>some (d::I)
  |_,_=>none
def iceV(H:Hp):Nat->AV->Option AV
 |0,_=>none
 |n+1,v=>match v with
  | .sl r V Y z=>match H.get r with
    |some (.cells Z _ _)=>match iceL (iceV H n) ((Z.drop V).take (Y*z))with
     |some l=>if l.length=Y*z then some (.lst (jd z Y l))else none
     |none=>none
    |_=>none
  | .lst U=>match oY (iceV H n) U with
    |some O=>some (.lst O)
    |none=>none
  | .agg Z=>match iceL (iceV H n) Z with
    |some I=>some (.agg I)
    |none=>none
  | .tup Z=>match iceL (iceV H n) Z with
    |some I=>some (.tup I)
    |none=>none
  | .int k a=>some (.int k a)
  | .sx k e=>some (.sx k e)
  | .bool b=>some (.bool b)
  | .str s=>some (.str s)
  | .nilP=>some .nilP
  | .nilM=>some .nilM
  | .nilF=>some .nilF
  | .nilS=>some .nilS
  |_=>none
def tQ(P:Program)(cfg:Cfg)(n m:Nat)(f:FuncId)(args:List AV):Option AV:=
 match ev P cfg n (.call f args zd3)with
 | .val v H=>iceV H m v
 |_=>none
def nU(m:Nat)(args:List AV):Bool:=
 match iceL (iceV zd3 m) args with
 |some L=>zfK L args
 |none=>false
def zn(P:Program)(cfg:Cfg)(n m:Nat)(f:FuncId)(args:List AV)(r:AV):Bool:=
 match tQ P cfg n m f args with
 |some q=>AV.beq q r
 |none=>false
def pY:List (FuncId×List AV×AV)->FuncId->List AV->Option AV
 |[],_,_=>none
 |p::l,f,args=>match Nat.beq p.1 f with
  |true=>match zfK p.2.1 args with
   |true=>some p.2.2
   |false=>pY l f args
  |false=>pY l f args
end
end Go.Ab
