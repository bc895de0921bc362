/- Parts: AbDefs. -/
import GoSem.Step
set_option linter.unusedSimpArgs false
set_option linter.unusedVariables false
set_option linter.unusedSectionVars false
set_option linter.defProp false
set_option maxHeartbeats 32000000
namespace Go.Ab
noncomputable section
open Go
inductive T (α:Type) where
 |e
 |n (v:Option α) (l r:T α)
def jG{α:Type}(b:Bool)(x y:α):α:=Bool.rec y x b
def T.get{α:Type}(t:T α):Nat->Option α:=
 T.rec (motive:=fun _=>Nat->Option α) (fun _=>none)
  (fun v _ _ gl gr k=>jG (Nat.beq k 0) v (jG (Nat.beq (Nat.mod k 2) 1) (gl (Nat.div k 2)) (gr (Nat.sub (Nat.div k 2) 1)))) t
def ta{α:Type}(v:Option α)(f:Nat):T α->Nat->T α:=
 Nat.rec (motive:=fun _=>T α->Nat->T α) (fun t _=>t)
  (fun _ ih t k=>T.casesOn t
    (jG (Nat.beq k 0) (.n v .e .e) (jG (Nat.beq (Nat.mod k 2) 1) (.n none (ih .e (Nat.div k 2)) .e) (.n none .e (ih .e (Nat.sub (Nat.div k 2) 1)))))
    (fun u l r=>jG (Nat.beq k 0) (.n v l r) (jG (Nat.beq (Nat.mod k 2) 1) (.n u (ih l (Nat.div k 2)) r) (.n u l (ih r (Nat.sub (Nat.div k 2) 1)))))) f
def T.set{α:Type}(t:T α)(k:Nat)(v:Option α):T α:=ta v (k+1) t k
inductive Sx where
 |var (i:Nat)
 |lit (n:Int)
 |bin (op:BinOp) (k:IntKind) (a b:Sx)
 |conv (k:IntKind) (a:Sx)
inductive AV where
 |int (k:IntKind) (n:Int)
 |sx (k:IntKind) (e:Sx)
 |bool (b:Bool)
 |str (s:List UInt8)
 |nilP|nilM|nilF|nilS
 |ptr (r:Nat) (off:Nat)
 |iptr (cs:List AV)
 |sl (r off len z:Nat)
 |lst (xs:List (List AV))
 |map (r:Nat)
 |clo (f:Nat) (cap:List AV)
 |agg (cs:List AV)
 |tup (vs:List AV)
inductive HB where
 |cells (cs:List AV) (imm:Nat) (tip:Bool)
 |map (es:List (AV×AV))
structure Hp where
 next:Nat
 t:T HB
def Hp.get(h:Hp)(r:Nat):Option HB:=h.t.get r
def Hp.set(h:Hp)(r:Nat)(b:HB):Hp:={next:=h.next,t:=h.t.set r (some b) }
def Hp.kill(h:Hp)(r:Nat):Hp:={next:=h.next,t:=h.t.set r none}
def Hp.alloc(h:Hp)(b:HB):Hp:={next:=h.next+1,t:=h.t.set h.next (some b) }
inductive Plan where
 |text
 |perm (ord:List Nat)
 |split (p q:Nat) (a b:Plan)
structure Cfg where
 keep:FuncId->Bool
 dec:BinOp->Sx->Sx->Option Bool:=fun _ _ _=>none
 call:FuncId->List AV->Option AV:=fun _ _=>none
 ice:FuncId->Bool:=fun _=>false
 plan:FuncId->Nat->Plan:=fun _ _=>.text
 froz:FuncId->Bool:=fun _=>false
abbrev aG:=T AV
def zff:AV:=.tup []
def aG.at(E:aG)(t:Nat):AV:=(T.get E t).getD zff
def wC:Value->Option AV
 | .int k n=>some (.int k n)
 | .bool b=>some (.bool b)
 | .string s=>some (.str s.data.toList)
 | .pointer none=>some .nilP
 | .slice none 0 0=>some .nilS
 | .map none=>some .nilM
 | .nilFunc=>some .nilF
 |_=>none
def uJ:Value->Option AV
 | .agg cs=>(cs.toList.mapM wC).map .agg
 |v=>wC v
def zd0(E:aG):Operand->Option AV
 | .tmp t=>some (E.at t)
 | .const v=>uJ v
 | .global _=>none
 | .func f=>some (.clo f [])
def zfV(E:aG):List Operand->Option (List AV)
 |[]=>some []
 |x::xs=>match zd0 E x,zfV E xs with
  |some v,some vs=>some (v::vs)
  |_,_=>none
def AV.cells:AV->List AV
 | .agg cs=>cs
 |v=>[v]
def AV.one:AV->Bool
 | .agg _|.tup _=>false
 |_=>true
section
variable (P:Program)
def zer(t:TypeId):Option Nat:=(P.info? t).map (·.size)
def zfg(t:TypeId):Option Nat:=(P.info? t).map (·.bytes)
def qA(t:TypeId):Option AV:=
 match P.info? t with
 |some {zero:=some z,.. }=>uJ z
 |_=>none
def ze5(t:TypeId):Option (List AV):=
 match qA P t with
 |some v=>some v.cells
 |none=>none
def zej(t:TypeId)(cs:List AV)(off:Nat):Option AV:=
 match P.underlying t with
 |some (.struct _)|some (.array _ _)=>
  match zer P t with
  |some s=>let l:=(cs.drop off).take s;if l.length=s then some (.agg l)else none
  |none=>none
 |some _=>cs[off]?
 |none=>none
def zfC(H:Hp)(t:TypeId):AV->Option AV
 | .ptr r off=>match H.get r with
   |some (.cells cs _ _)=>zej P t cs off
   |_=>none
 | .iptr cs=>zej P t cs 0
 |_=>none
def splice(cs:List AV)(off:Nat)(new:List AV):List AV:=cs.take off++new++cs.drop (off+new.length)
def j5(H:Hp)(t:TypeId)(a v:AV):Option Hp:=
 match a with
 | .ptr r off=>match H.get r,zer P t with
   |some (.cells cs imm tip),some s=>
    if v.cells.length=s/\imm<=off/\off+s<=cs.length/\v.cells.all AV.one then some (H.set r (.cells (splice cs off v.cells) imm tip))else none
   |_,_=>none
 |_=>none
def zeg(t:TypeId)(a:AV)(i:Nat):Option AV:=
 match P.underlying t with
 |some (.struct fields)=>match fields[i]? with
  |some f=>match zer P f.type with
   |some (_+1)=>match a with
    | .ptr r off=>some (.ptr r (off+f.offset))
    | .iptr cs=>some (.iptr (cs.drop f.offset))
    |_=>none
   |_=>none
  |none=>none
 |_=>none
def zeU(t:TypeId)(x:AV)(i:Nat):Option AV:=
 match P.underlying t,x with
 |some (.struct fields),.agg cs=>match fields[i]? with
  |some f=>zej P f.type cs f.offset
  |none=>none
 |_,_=>none
def zdN(n:Int):Option Nat:=match n with|.ofNat k=>some k |_=>none
def zeE(t:TypeId)(x i:AV):Option AV:=
 match i with
 | .int _ (.ofNat k)=>match P.underlying t with
   |some (.slice e)=>match zer P e with
    |some s=>match x with
     | .sl r off len _=>if k<len then some (.ptr r (off+k*s))else none
     | .lst xs=>match xs[k]? with
       |some row=>if row.length=s then some (.iptr row)else none
       |none=>none
     |_=>none
    |none=>none
   |some (.array n e)=>match zer P e with
    |some s=>match x with
     | .ptr r off=>if k<n then some (.ptr r (off+k*s))else none
     |_=>none
    |none=>none
   |_=>none
 |_=>none
def pI(t:TypeId)(x i:AV):Option AV:=
 match i with
 | .int _ (.ofNat k)=>match P.underlying t,x with
   |some .string,.str s=>match s[k]? with
    |some b=>some (.int .u8 b.toNat)
    |none=>none
   |some (.array n e),.agg cs=>if k<n then (match zer P e with|some s=>zej P e cs (k*s)|none=>none)else none
   |_,_=>none
 |_=>none
def zfL(d:Nat):Option AV->Option Nat
 |none=>some d
 |some (.int _ (.ofNat k))=>some k
 |some _=>none
def zfW(t:TypeId)(x:AV)(lo hi:Option AV):Option AV:=
 match P.underlying t,x with
 |some .string,.str s=>
  match zfL 0 lo,zfL s.length hi with
  |some l,some h=>if l<=h/\h<=s.length then some (.str ((s.drop l).take (h-l)))else none
  |_,_=>none
 |some (.slice e),x=>match zer P e with
  |some z=>match x with
   | .sl r off len z'=>match zfL 0 lo,zfL len hi with
     |some l,some h=>if l<=h/\h<=len/\z'=z then (if l=h then some (.lst [])else some (.sl r (off+l*z) (h-l) z))else none
     |_,_=>none
   | .lst xs=>match zfL 0 lo,zfL xs.length hi with
     |some l,some h=>if l<=h/\h<=xs.length then (match (xs.drop l).take (h-l)with
      |[]=>some (.lst [])
      |row::rows=>if row.length=z then some (.lst (row::rows))else none)else none
     |_,_=>none
   | .nilS=>match zfL 0 lo,zfL 0 hi with
     |some 0,some 0=>some .nilS
     |_,_=>none
   |_=>none
  |none=>none
 |_,_=>none
def my(H:Hp)(t:TypeId)(x:AV)(lo hi:Option AV):Option AV:=
 match x with
 | .ptr r off=>match P.underlying t,H.get r with
   |some (.array n e),some (.cells cs _ _)=>match zer P e,zfL 0 lo,zfL n hi with
    |some z,some l,some h=>if l<=h/\h<=n/\off+n*z<=cs.length then (if l=h then some (.lst [])else some (.sl r (off+l*z) (h-l) z))else none
    |_,_,_=>none
   |_,_=>none
 |x=>zfW P t x lo hi
def pJ(place:Nat->Option (Nat×Nat))(cells:List AV):List (Nat×AV)->Option (List AV)
 |[]=>some cells
 |(i,v)::rest=>match place i with
  |none=>none
  |some (off,size)=>if v.cells.length≠size\/off+v.cells.length > cells.length then none else pJ place (splice cells off v.cells) rest
def zgd(E:aG):List (Nat×Operand)->Option (List (Nat×AV))
 |[]=>some []
 |(i,x)::rest=>match zd0 E x,zgd E rest with
  |some v,some vs=>some ((i,v)::vs)
  |_,_=>none
def Gt(fields:List Field):Option (List (Nat×Nat)):=fields.mapM fun f=>(P.info? f.type).map fun i=>(f.offset,i.size)
def zfy(t:TypeId)(parts:List (Nat×AV)):Option AV:=
 match ze5 P t,P.underlying t with
 |some z,some (.struct fields)=>match Gt P fields.toList with
  |some places=>match pJ (fun i=>places[i]?) z parts with
   |some cs=>some (.agg cs)
   |none=>none
  |none=>none
 |some z,some (.array _ e)=>match zer P e with
  |some s=>match pJ (fun i=>some (i*s,s)) z parts with
   |some cs=>some (.agg cs)
   |none=>none
  |none=>none
 |_,_=>none
def lU(z:List AV):Nat->List AV
 |0=>[]
 |n+1=>z++lU z n
def zfn(H:Hp)(t:TypeId)(len:Nat)(parts:List (Nat×AV)):Option (AV×Hp):=
 match P.underlying t with
 |some (.slice e)=>match zer P e,ze5 P e with
  |some s,some z=>if len*s<=16777216/\z.length=s then (match pJ (fun i=>some (i*s,s)) (lU z len) parts with
   |some cs=>some (.sl H.next 0 len s,H.alloc (.cells cs 0 true))
   |none=>none)else none
  |_,_=>none
 |_=>none
def zfw:Nat:=70368744177664   -- 2^46
def zfz(H:Hp)(s:Nat):AV->Option (Nat×List AV)
 | .sl r off len _=>match H.get r with
   |some (.cells cs _ _)=>let l:=(cs.drop off).take (len*s);if l.length=len*s then some (len,l)else none
   |_=>none
 | .lst xs=>if xs.all (fun row=>row.length == s)then some (xs.length,xs.flatten)else none
 | .nilS=>some (0,[])
 | .str b=>if s=1 then some (b.length,b.map fun x=>.int .u8 x.toNat)else none
 |_=>none
def ja(keep:Bool)(H:Hp)(s b:Nat)(sv:AV)(n:Nat)(new:List AV):Option (AV×Hp):=
 match sv with
 | .nilS=>if n*b<=zfw/\n<=zfw then some (.sl H.next 0 n s,H.alloc (.cells new 0 true))else none
 | .sl r off len z=>match H.get r with
   |some (.cells cs imm true)=>
    if (len+n)*b<=zfw/\len+n<=zfw/\off+len*s=cs.length/\z=s/\imm<=cs.length then
     (if keep then some (.sl H.next 0 (len+n) s,(H.set r (.cells cs cs.length false)).alloc (.cells (cs.drop off++new) (len*s) true))
      else some (.sl H.next 0 (len+n) s,(H.kill r).alloc (.cells (cs.drop off++new) (imm-off) true)))
    else none
   |_=>none
 |_=>none
def gW(keep:Bool)(H:Hp)(s:Nat):AV->Hp
 | .sl r off len _=>match H.get r with
   |some (.cells cs imm true)=>match !keep&&Nat.blt (off+len*s) cs.length&&Nat.ble imm (off+len*s)with
    |true=>H.set r (.cells (cs.take (off+len*s)) imm true)
    |false=>H
   |_=>H
 |_=>H
def zfT(t:TypeId):Bool:=
 match P.underlying t with
 |some (.slice _)|some .string=>true
 |_=>false
def zeZ(keep:Bool)(H:Hp)(t u:TypeId)(sv x:AV):Option (AV×Hp):=
 match P.underlying t with
 |some (.slice e)=>match zer P e,zfg P e,ze5 P e with
  |some s,some b,some z=>match zfT P u,zfz H s x with
   |true,some (0,_)=>match sv with
    | .sl ..|.lst _|.nilS=>some (sv,H)
    |_=>none
   |true,some (n,new)=>if new.all AV.one/\z.length=s then ja keep (gW keep H s sv) s b sv n new else none
   |_,_=>none
  |_,_,_=>none
 |_=>none
def pK(kind:TypeDesc)(x y:AV):Option Bool:=
 match kind with
 | .int _=>match x,y with
   | .int k a,.int k' b=>if k=k' then some (a == b)else none
   |_,_=>none
 | .string=>match x,y with
   | .str a,.str b=>some (a == b)
   |_,_=>none
 | .bool=>match x,y with
   | .bool a,.bool b=>some (a == b)
   |_,_=>none
 |_=>none
def ny(t:TypeId):Option TypeDesc:=
 match P.underlying t with
 |some (.int k)=>some (.int k)
 |some .string=>some .string
 |some .bool=>some .bool
 |_=>none
def gX(kind:TypeDesc)(k:AV):List (AV×AV)->Nat->Option (Option (Nat×AV))
 |[],_=>some none
 |(k',v)::es,i=>match pK kind k k' with
  |some true=>some (some (i,v))
  |some false=>gX kind k es (i+1)
  |none=>none
def tc(H:Hp):AV->Option (List (AV×AV))
 | .nilM=>some []
 | .map r=>match H.get r with
   |some (.map es)=>some es
   |_=>none
 |_=>none
def wD(ok:Bool)(v:AV)(there:Bool):AV:=match ok with
 |true=>.tup [v,.bool there]
 |false=>v
def zge(H:Hp)(t:TypeId)(m k:AV)(ok:Bool):Option AV:=
 match P.underlying t with
 |some (.map kt e)=>match tc H m,ny P kt with
  |some es,some kind=>match gX kind k es 0 with
   |some (some (_,v))=>some (wD ok v true)
   |some none=>match qA P e with
    |some v=>some (wD ok v false)
    |none=>none
   |none=>none
  |_,_=>none
 |_=>none
def zgu(H:Hp)(t:TypeId)(m k v:AV):Option Hp:=
 match P.underlying t with
 |some (.map kt _)=>match m,ny P kt with
  | .map r,some kind=>match H.get r with
    |some (.map es)=>match gX kind k es 0 with
     |some (some (i,_))=>some (H.set r (.map (es.set i (k,v))))
     |some none=>some (H.set r (.map (es++[(k,v)])))
     |none=>none
    |_=>none
  |_,_=>none
 |_=>none
def td:List UInt8->List UInt8->Bool
 |_,[]=>false
 |[],_::_=>true
 |a::x,b::y=>a<b||(a == b&&td x y)
def zf7(op:BinOp)(k:IntKind)(a b:Int):Option AV:=
 match op with
 | .add=>some (.int k (k.wrap (a+b)))
 | .sub=>some (.int k (k.wrap (a-b)))
 | .mul=>some (.int k (k.wrap (a*b)))
 | .quo=>if b=0 then none else some (.int k (k.wrap (a.tdiv b)))
 | .rem=>if b=0 then none else some (.int k (a.tmod b))
 | .and=>some (.int k (k.wrap (BitVec.ofInt k.bits a &&& BitVec.ofInt k.bits b).toNat))
 | .or=>some (.int k (k.wrap (BitVec.ofInt k.bits a |||BitVec.ofInt k.bits b).toNat))
 | .xor=>some (.int k (k.wrap (BitVec.ofInt k.bits a^^^ BitVec.ofInt k.bits b).toNat))
 | .andNot=>some (.int k (k.wrap (BitVec.ofInt k.bits a &&& ~~~ BitVec.ofInt k.bits b).toNat))
 | .eql=>some (.bool (a == b))
 | .neq=>some (.bool (a != b))
 | .lss=>some (.bool (a<b))
 | .leq=>some (.bool (a<=b))
 | .gtr=>some (.bool (a > b))
 | .geq=>some (.bool (a>=b))
 |_=>none
def Ca(op:BinOp)(k:IntKind)(a b:Int):Int:=
 match zf7 op k a b with
 |some (.int _ n)=>n
 |_=>0
def Sx.eval(ρ:Nat->Int):Sx->Int
 | .var i=>ρ i
 | .lit n=>n
 | .bin op k a b=>Ca op k (a.eval ρ) (b.eval ρ)
 | .conv k a=>k.wrap (a.eval ρ)
def yL:AV->Option (IntKind×Sx)
 | .int k n=>some (k,.lit n)
 | .sx k e=>some (k,e)
 |_=>none
def Cb(D:BinOp->Sx->Sx->Option Bool)(op:BinOp)(k:IntKind)(a b:Sx):Option AV:=
 match op with
 | .add=>some (.sx k (.bin .add k a b))
 | .sub=>some (.sx k (.bin .sub k a b))
 | .mul=>some (.sx k (.bin .mul k a b))
 | .and=>some (.sx k (.bin .and k a b))
 | .or=>some (.sx k (.bin .or k a b))
 | .xor=>some (.sx k (.bin .xor k a b))
 | .andNot=>some (.sx k (.bin .andNot k a b))
 | .quo=>match D .eql b (.lit 0)with
   |some false=>some (.sx k (.bin .quo k a b))
   |_=>none
 | .rem=>match D .eql b (.lit 0)with
   |some false=>some (.sx k (.bin .rem k a b))
   |_=>none
 | .shl=>none
 | .shr=>none
 |op=>match D op a b with
  |some r=>some (.bool r)
  |none=>none
def yM(D:BinOp->Sx->Sx->Option Bool)(op:BinOp)(x y:AV):Option AV:=
 match yL x,yL y with
 |some (k,a),some (k',b)=>if k=k' then Cb D op k a b else none
 |_,_=>none
def wE(op:BinOp)(a b:List UInt8):Option AV:=
 match op with
 | .add=>if a.length+b.length<=zfw then some (.str (a++b))else none
 | .eql=>some (.bool (a == b))
 | .neq=>some (.bool !(a == b))
 | .lss=>some (.bool (td a b))
 | .leq=>some (.bool (td a b||a == b))
 | .gtr=>some (.bool !(td a b||a == b))
 | .geq=>some (.bool !(td a b))
 |_=>none
def yN(t:TypeId)(x y:AV):Option Bool:=
 match P.underlying t with
 |some .bool=>match x,y with
  | .bool a,.bool b=>some (a == b)
  |_,_=>none
 |some (.pointer _)=>match x,y with
  | .nilP,.nilP=>some true
  | .ptr _ _,.nilP|.nilP,.ptr _ _|.iptr _,.nilP|.nilP,.iptr _=>some false
  |_,_=>none
 |some (.map _ _)=>match x,y with
  | .nilM,.nilM=>some true
  | .map _,.nilM|.nilM,.map _=>some false
  |_,_=>none
 |some (.func _ _ _)=>match x,y with
  | .nilF,.nilF=>some true
  | .clo _ _,.nilF|.nilF,.clo _ _=>some false
  |_,_=>none
 |some (.slice _)=>match x,y with
  | .nilS,.nilS=>some true
  | .sl _ _ _ _,.nilS|.nilS,.sl _ _ _ _|.lst (_::_),.nilS|.nilS,.lst (_::_)=>some false
  |_,_=>none
 |_=>none
def Cc(t:TypeId)(x y:AV):Option Bool:=
 match x,y with
 | .int k a,.int k' b=>match P.underlying t with
   |some (.int _)=>if k=k' then some (a == b)else none
   |_=>none
 | .str a,.str b=>match P.underlying t with
   |some .string=>some (a == b)
   |_=>none
 |x,y=>yN P t x y
def uK(xs ys:List AV):List Field->Option Bool
 |[]=>some true
 |f::fs=>match f.name == "_" with
  |true=>uK xs ys fs
  |false=>match zej P f.type xs f.offset,zej P f.type ys f.offset with
   |some a,some b=>match Cc P f.type a b with
    |some true=>uK xs ys fs
    |some false=>some false
    |none=>none
   |_,_=>none
def yO(t:TypeId)(xs ys:List AV):Option Bool:=
 match P.underlying t with
 |some (.struct fields)=>match P.stoodInHeld t||P.eqGuardType P.depth t with
  |true=>none
  |false=>uK P xs ys fields.toList
 |_=>none
def te(t:TypeId)(x y:AV):Option Bool:=
 match x,y with
 | .agg xs,.agg ys=>yO P t xs ys
 |x,y=>yN P t x y
def uL(op:BinOp)(k:IntKind)(a b:Int):Option AV:=
 match b with
 | .ofNat m=>match op with
   | .shl=>some (.int k (k.wrap (a*2^ min m k.bits)))
   | .shr=>some (.int k (a.fdiv (2^ min m k.bits)))
   |_=>none
 |_=>none
def rM(op:BinOp)(k k':IntKind)(a b:Int):Option AV:=
 match op with
 | .shl=>uL .shl k a b
 | .shr=>uL .shr k a b
 |op=>if k=k' then zf7 op k a b else none
def Cd(op:BinOp)(t:TypeId)(x y:AV):Option AV:=
 match op with
 | .eql=>match te P t x y with
   |some b=>some (.bool b)
   |none=>none
 | .neq=>match te P t x y with
   |some b=>some (.bool !b)
   |none=>none
 |_=>none
def jS(D:BinOp->Sx->Sx->Option Bool)(op:BinOp)(t:TypeId)(x y:AV):Option AV:=
 match x,y with
 | .int k a,.int k' b=>rM op k k' a b
 | .str a,.str b=>wE op a b
 | .sx k a,y=>yM D op (.sx k a) y
 | .int k a,.sx k' b=>yM D op (.int k a) (.sx k' b)
 |x,y=>Cd P op t x y
def rN(op:UnOp)(x:AV):Option AV:=
 match op,x with
 | .neg,.sx k e=>some (.sx k (.bin .sub k (.lit 0) e))
 | .xor,.sx k e=>some (.sx k (.bin .xor k (.lit (if k.signed then -1 else k.max)) e))
 | .neg,.int k n=>zf7 .sub k 0 n
 | .xor,.int k n=>zf7 .xor k (if k.signed then -1 else k.max) n
 | .not,.bool b=>some (.bool !b)
 |_,_=>none
def tf:List AV->Option (List UInt8)
 |[]=>some []
 | .int .u8 n::cs=>match tf cs with
   |some bs=>some (UInt8.ofNat n.toNat::bs)
   |none=>none
 |_=>none
def jq(H:Hp)(src dst:TypeId)(x:AV):Option AV:=
 match P.underlying src,P.underlying dst with
 |some (.slice e),some .string=>match P.underlying e with
  |some (.int .u8)=>match zfz H 1 x with
   |some (_,cs)=>match tf cs with
    |some bs=>match x with
     | .sl _ _ _ _|.nilS=>some (.str bs)
     |_=>none
    |none=>none
   |none=>none
  |_=>none
 |some _,some (.int k)=>match x with
  | .int _ n=>some (.int k (k.wrap n))
  | .sx _ e=>some (.sx k (.conv k e))
  |_=>none
 |some .string,some .string=>match x with
  | .str s=>some (.str s)
  |_=>none
 |_,_=>none
def zf9(H:Hp)(t:TypeId)(l c:AV):Option (AV×Hp):=
 match P.underlying t,l,c with
 |some (.slice e),.int _ (.ofNat l),.int _ (.ofNat c)=>match zer P e,zfg P e,ze5 P e with
  |some s,some b,some z=>if l<=c/\c*b<=zfw/\c<=zfw/\z.length=s then some (.sl H.next 0 l s,H.alloc (.cells (lU z l) 0 true))else none
  |_,_,_=>none
 |_,_,_=>none
def extract(x:AV)(i:Nat):Option AV:=
 match x with
 | .tup vs=>vs[i]?
 |_=>none
def mm(mx:Bool):AV->AV->Option AV
 | .int k x,.int _ y=>some (.int k (if (if mx then decide (y > x)else decide (y<x))then y else x))
 |_,_=>none
def oH(mx:Bool)(x:AV):List AV->Option AV
 |[]=>some x
 |y::ys=>match mm mx x y with
  |some z=>oH mx z ys
  |none=>none
def zeR(H:Hp)(t:TypeId)(x:AV):Option AV:=
 match P.underlying t with
 |some .string=>match x with
  | .str s=>some (.int .i64 s.length)
  |_=>none
 |some (.slice _)=>match x with
  | .sl _ _ n _=>some (.int .i64 n)
  | .lst xs=>some (.int .i64 xs.length)
  | .nilS=>some (.int .i64 0)
  |_=>none
 |some (.array n _)=>some (.int .i64 n)
 |some (.map _ _)=>match tc H x with
  |some es=>some (.int .i64 es.length)
  |none=>none
 |_=>none
def oI(keep:Bool)(H:Hp)(b:Builtin)(ts:List TypeId)(args:List AV):Option (AV×Hp):=
 match b with
 | .append=>match ts,args with
   |[t,u],[s,x]=>zeZ P keep H t u s x
   |_,_=>none
 | .len=>match ts,args with
   |[t],[x]=>match zeR P H t x with
    |some v=>some (v,H)
    |none=>none
   |_,_=>none
 | .max=>match args with
   |x::xs=>match oH true x xs with
    |some v=>some (v,H)
    |none=>none
   |[]=>none
 | .min=>match args with
   |x::xs=>match oH false x xs with
    |some v=>some (v,H)
    |none=>none
   |[]=>none
 |_=>none
def ret(H:Hp):Option AV->Option (AV×Hp)
 |some v=>some (v,H)
 |none=>none
def yP(E:aG)(H:Hp)(c a b:Operand):Option (AV×Hp):=
 match zd0 E c with
 |some (.bool true)=>ret H (zd0 E a)
 |some (.bool false)=>ret H (zd0 E b)
 |_=>none
def wF(H:Hp)(t:TypeId):Option (AV×Hp):=
 match ze5 P t with
 |some z=>some (.ptr H.next 0,H.alloc (.cells z 0 true))
 |none=>none
def wG(E:aG)(H:Hp)(x:Operand):Option (AV×Hp):=
 match zd0 E x with
 |some v=>some (.ptr H.next 0,H.alloc (.cells v.cells 0 true))
 |none=>none
def yQ(E:aG)(H:Hp)(t:TypeId)(parts:Array (Nat×Operand)):Option (AV×Hp):=
 match zgd E parts.toList with
 |some ps=>ret H (zfy P t ps)
 |none=>none
def wH(E:aG)(H:Hp)(t:TypeId)(len:Nat)(parts:Array (Nat×Operand)):Option (AV×Hp):=
 match zgd E parts.toList with
 |some ps=>zfn P H t len ps
 |none=>none
def wI(E:aG)(H:Hp)(t:TypeId)(a:Operand):Option (AV×Hp):=
 match zd0 E a with
 |some v=>ret H (zfC P H t v)
 |none=>none
def yR(E:aG)(H:Hp)(t:TypeId)(a x:Operand):Option (AV×Hp):=
 match zd0 E a,zd0 E x with
 |some a,some x=>match j5 P H t a x with
  |some H=>some (zff,H)
  |none=>none
 |_,_=>none
def yS(E:aG)(H:Hp)(x:Operand):Option (AV×Hp):=
 match zd0 E x with
 |some (.ptr r o)=>some (.ptr r o,H)
 |some (.iptr cs)=>some (.iptr cs,H)
 |_=>none
def yT(D:BinOp->Sx->Sx->Option Bool)(E:aG)(H:Hp)(op:BinOp)(t:TypeId)(x y:Operand):Option (AV×Hp):=
 match zd0 E x,zd0 E y with
 |some x,some y=>ret H (jS P D op t x y)
 |_,_=>none
def yU(E:aG)(H:Hp)(op:UnOp)(x:Operand):Option (AV×Hp):=
 match zd0 E x with
 |some x=>ret H (rN op x)
 |none=>none
def wJ(E:aG)(H:Hp)(s d:TypeId)(x:Operand):Option (AV×Hp):=
 match zd0 E x with
 |some x=>ret H (jq P H s d x)
 |none=>none
def yV(E:aG)(H:Hp)(fn:Fn)(first captured:Array Operand):Option (AV×Hp):=
 match fn,first.toList,zfV E captured.toList with
 | .func f,[],some vs=>some (.clo f vs,H)
 |_,_,_=>none
def wK(H:Hp)(r:Option Operand):Option (AV×Hp):=
 match r with
 |none=>some (.map H.next,H.alloc (.map []))
 |some _=>none
def wL(E:aG)(H:Hp)(t:TypeId)(l c:Operand):Option (AV×Hp):=
 match zd0 E l,zd0 E c with
 |some l,some c=>zf9 P H t l c
 |_,_=>none
def zf5(E:aG):Option Operand->Option (Option AV)
 |none=>some none
 |some x=>match zd0 E x with
  |some v=>some (some v)
  |none=>none
def wM(E:aG)(H:Hp)(t:TypeId)(x:Operand)(lo hi mx:Option Operand):Option (AV×Hp):=
 match mx,zd0 E x,zf5 E lo,zf5 E hi with
 |none,some x,some l,some h=>ret H (my P H t x l h)
 |_,_,_,_=>none
def yW(E:aG)(H:Hp)(t:TypeId)(x:Operand)(f:Nat):Option (AV×Hp):=
 match zd0 E x with
 |some x=>ret H (zeg P t x f)
 |none=>none
def yX(E:aG)(H:Hp)(t:TypeId)(x:Operand)(f:Nat):Option (AV×Hp):=
 match zd0 E x with
 |some x=>ret H (zeU P t x f)
 |none=>none
def yY(E:aG)(H:Hp)(t:TypeId)(x i:Operand):Option (AV×Hp):=
 match zd0 E x,zd0 E i with
 |some x,some i=>ret H (zeE P t x i)
 |_,_=>none
def yZ(E:aG)(H:Hp)(t:TypeId)(x i:Operand):Option (AV×Hp):=
 match zd0 E x,zd0 E i with
 |some x,some i=>ret H (pI P t x i)
 |_,_=>none
def wN(E:aG)(H:Hp)(t:TypeId)(m k:Operand)(ok:Bool):Option (AV×Hp):=
 match zd0 E m,zd0 E k with
 |some m,some k=>ret H (zge P H t m k ok)
 |_,_=>none
def y0(E:aG)(H:Hp)(t:TypeId)(m k v:Operand):Option (AV×Hp):=
 match zd0 E m,zd0 E k,zd0 E v with
 |some m,some k,some v=>match zgu P H t m k v with
  |some H=>some (zff,H)
  |none=>none
 |_,_,_=>none
def y1(E:aG)(H:Hp)(x:Operand)(i:Nat):Option (AV×Hp):=
 match zd0 E x with
 |some x=>ret H (extract x i)
 |none=>none
def dD(D:BinOp->Sx->Sx->Option Bool)(E:aG)(H:Hp)(op:Op):Option (AV×Hp):=
 match op with
 | .move x=>ret H (zd0 E x)
 | .assign x=>ret H (zd0 E x)
 | .pick c a b=>yP E H c a b
 | .alloc t=>wF P H t
 | .box _ x=>wG E H x
 | .build t parts=>yQ P E H t parts
 | .buildSlice t len parts=>wH P E H t len parts
 | .load t a=>wI P E H t a
 | .store t a x=>yR P E H t a x
 | .nilCheck x=>yS E H x
 | .binOp op t x y _=>yT P D E H op t x y
 | .unOp op _ x=>yU E H op x
 | .convert s d x=>wJ P E H s d x
 | .makeFunc fn first captured=>yV E H fn first captured
 | .makeMap _ r=>wK H r
 | .makeSlice t l c=>wL P E H t l c
 | .slice t x lo hi mx=>wM P E H t x lo hi mx
 | .fieldAddr t x f=>yW P E H t x f
 | .field t x f=>yX P E H t x f
 | .indexAddr t x i=>yY P E H t x i
 | .index t x i=>yZ P E H t x i
 | .lookup t m k ok=>wN P E H t m k ok
 | .mapUpdate t m k v=>y0 P E H t m k v
 | .extract x i=>y1 E H x i
 |_=>none
inductive Task where
 |code (f:FuncId) (N:Nat) (c:Code) (E:aG) (H:Hp)
 |call (f:FuncId) (args:List AV) (H:Hp)
inductive AX where
 |normal|exit (id:Nat)|ret
inductive Res where
 |done (x:AX) (E:aG) (H:Hp)
 |val (v:AV) (H:Hp)
 |fail
def fD(N:Nat)(E:aG)(dst:Option Tmp)(v:AV):Option aG:=
 match dst with
 |some d=>match Nat.blt d N with
  |true=>some (T.set E d (some v))
  |false=>none
 |none=>some E
def y2(ops:List Oper)(E:aG)(j:Nat):Option Bool:=
 match (ops[j]?).bind (·.dst)with
 |some d=>match E.at d with|.bool b=>some b |_=>none
 |none=>none
def zf6(ops:List Oper)(E:aG)(o:Oper):Bool:=
 match o.guard with
 |none=>true
 |some (j,want)=>match y2 ops E j with
  |some b=>b == want
  |none=>false
variable (cfg:Cfg)
def qB(ih:Task->Res)(f:FuncId)(E:aG)(H:Hp)(c:Call):Res:=
 match c.callee with
 | .value g=>match zd0 E g,zfV E c.args.toList with
   |some (.clo k cap),some vs=>ih (.call k (vs++cap) H)
   |_,_=>.fail
 | .builtin b=>match zfV E c.args.toList with
   |some vs=>match oI P (cfg.keep f) H b c.argTypes.toList vs with
    |some (v,H)=>.val v H
    |none=>.fail
   |none=>.fail
 |_=>.fail
def zfM:Option (AV×Hp)->Res
 |some (v,H)=>.val v H
 |none=>.fail
def zfk(ih:Task->Res)(f:FuncId)(E:aG)(H:Hp)(op:Op):Res:=
 match op with
 | .call c=>qB P cfg ih f E H c
 |op=>zfM (dD P cfg.dec E H op)
def Sx.beq:Sx->Sx->Bool
 | .var i,.var j=>Nat.beq i j
 | .lit a,.lit b=>a == b
 | .bin o k a b,.bin o' k' a' b'=>decide (o=o')&&decide (k=k')&&Sx.beq a a'&&Sx.beq b b'
 | .conv k a,.conv k' b=>decide (k=k')&&Sx.beq a b
 |_,_=>false
mutual
def AV.beq:AV->AV->Bool
 | .int k a,.int k' b=>decide (k=k')&&(a == b)
 | .sx k a,.sx k' b=>decide (k=k')&&Sx.beq a b
 | .bool a,.bool b=>a == b
 | .str a,.str b=>a == b
 | .nilP,.nilP|.nilM,.nilM|.nilF,.nilF|.nilS,.nilS=>true
 | .ptr r o,.ptr r' o'=>Nat.beq r r'&&Nat.beq o o'
 | .iptr a,.iptr b=>j7 a b
 | .sl r o l z,.sl r' o' l' z'=>Nat.beq r r'&&Nat.beq o o'&&Nat.beq l l'&&Nat.beq z z'
 | .lst a,.lst b=>tg a b
 | .map r,.map r'=>Nat.beq r r'
 | .clo f a,.clo f' b=>Nat.beq f f'&&j7 a b
 | .agg a,.agg b=>j7 a b
 | .tup a,.tup b=>j7 a b
 |_,_=>false
def j7:List AV->List AV->Bool
 |[],[]=>true
 |a::x,b::y=>AV.beq a b&&j7 x y
 |_,_=>false
def tg:List (List AV)->List (List AV)->Bool
 |[],[]=>true
 |a::x,b::y=>j7 a b&&tg x y
 |_,_=>false
end
inductive Kind where
 |calm   -- looks at no memory
 |read
 |make
 |act
def jc:Op->Kind
 | .load ..|.lookup ..|.convert ..|.slice ..=>.read
 | .alloc _|.box ..|.buildSlice ..|.makeMap ..|.makeSlice ..=>.make
 | .store ..|.mapUpdate ..=>.act
 | .call c=>match c.callee with
   | .builtin .len|.builtin .max|.builtin .min=>.read
   |_=>.act
 |_=>.calm
structure Rec where
 o:Oper
 did:Bool
 E:aG
 H:Hp
 val:AV
 H':Hp
inductive ResD where
 |done (E:aG) (H:Hp) (rs:List Rec)
 |fail
def nA(r:Rec):ResD->ResD
 | .done E H rs=>.done E H (r::rs)
 | .fail=>.fail
def zgq(go:aG->Hp->ResD)(H:Hp):Option aG->ResD
 |some E=>go E H
 |none=>.fail
def jd(ih:Task->Res)(f N:Nat)(all:List Oper):List Oper->aG->Hp->ResD
 |[],E,H=>.done E H []
 |o::rest,E,H=>match zf6 all E o with
  |true=>match zfk P cfg ih f E H o.op with
   | .val v H'=>nA ⟨o,true,E,H,v,H'⟩ (zgq (jd ih f N all rest) H' (fD N E o.dst v))
   |_=>.fail
  |false=>nA ⟨o,false,E,H,zff,H⟩ (zgq (jd ih f N all rest) H (fD N E o.dst zff))
def preds(o:Oper):List Nat:=(o.after.toList.filter (Region.binds .any)).map (·.on)
def uM:List Nat->List Nat->List Nat
 |acc,[]=>acc
 |acc,x::xs=>match acc.contains x with
  |true=>uM acc xs
  |false=>uM (x::acc) xs
def wO(l:List Nat):List Nat:=uM [] l
def io:List Oper->List (List Nat)->List (List Nat)
 |[],acc=>acc
 |o::rest,acc=>io rest (acc++[wO (preds o++(preds o).flatMap fun i=>acc.getD i [])])
def Gu(o:Oper):List Nat:=o.dst.toList++o.op.operands.toList.filterMap fun|.tmp t=>some t |_=>none
def rO(all:List Oper)(o:Oper):List Nat:=Gu o++(match o.guard with|some (j,_)=>((all[j]?).bind (·.dst)).toList|none=>[])
def oJ(o:Oper):Bool:=match jc o.op with|.act=>true |_=>false
def rP(o:Oper):Bool:=match jc o.op with|.make=>true |_=>false
def clash(all:List Oper)(p q:Oper):Bool:=
 (oJ p&&(oJ q||rP q)) ||
 (p.dst.toList.any fun d=>(rO all q).contains d)||(q.dst.toList.any fun d=>(rO all p).contains d)
def pL(all:List Oper):Bool:=
 let A:=io all []
 (List.range all.length).all fun j=>match all[j]? with
   |none=>true
   |some q=>(preds q).all (·< j)&&(match q.guard with|some (g,_)=>(A.getD j []).contains g|none=>true) &&
    (List.range j).all fun i=>match all[i]? with
      |none=>true
      |some p=>!clash all p q||(A.getD j []).contains i
def je(ops:List Oper):List Nat:=(List.range ops.length).filter fun i=>match ops[i]? with
 |some o=>oJ o
 |none=>false
def zeI(rs:List Rec)(H':Hp)(e:Nat):Hp:=match rs[e]? with
 |some r=>r.H
 |none=>H'
def HB.beq:HB->HB->Bool
 | .cells a i t,.cells b j u=>j7 a b&&Nat.beq i j&&(t == u)
 | .map a,.map b=>j7 (a.map (·.1)) (b.map (·.1))&&j7 (a.map (·.2)) (b.map (·.2))
 |_,_=>false
def zdt(r:Rec)(H:Hp):Bool:=
 match jc r.o.op with
 | .read=>match zfk P cfg (fun _=>.fail) 0 r.E H r.o.op with
   | .val v _=>AV.beq v r.val
   |_=>false
 | .make=>match H.get r.H.next,r.H'.get r.H.next with
   |some b,some b'=>HB.beq b b'
   |_,_=>false
 |_=>true
def y3(A:List (List Nat))(acts:List Nat)(i m:Nat):Bool:=
 !(acts.any (fun e=>(A.getD i []).contains e&&Nat.ble m e)||acts.any (fun e=>(A.getD e []).contains i&&Nat.blt e m))
def nD(ops:List Oper):List (Nat×Nat):=
 (List.range ops.length).flatMap fun i=>match ops[i]? with
   |some o=>match jc o.op with
    | .read|.make=>((je ops++[ops.length]).filter (y3 (io ops []) (je ops) i)).map fun m=>(i,m)
    |_=>[]
   |none=>[]
def ti(need:List (Nat×Nat))(rs:List Rec)(H':Hp):Bool:=
 rs.all (fun r=>Nat.ble r.H.next r.H'.next)&&need.all fun p=>match rs[p.1]? with
  |some r=>!r.did||zdt P cfg r (zeI rs H' p.2)
  |none=>true
def lV(ih:Task->Res)(f N:Nat)(ops:List Oper)(E:aG)(H:Hp):Res:=
 match pL ops with
 |true=>match jd P cfg ih f N ops ops E H with
  | .done E' H' rs=>match ti P cfg (nD ops) rs H' with
    |true=>.done .normal E' H'
    |false=>.fail
  | .fail=>.fail
 |false=>.fail
def iO:List Nat->Nat->Nat
 |[],_=>0
 |x::xs,i=>match Nat.beq x i with
  |true=>0
  |false=>iO xs i+1
def rQ(ord:List Nat)(o:Oper):Oper:=
 {o with after:=((o.after.toList.filter (Region.binds .any)).map fun e=>{e with on:=iO ord e.on}).toArray,guard:=match o.guard with|some (j,b)=>some (iO ord j,b)|none=>none}
def ip(ord:List Nat)(l:List Oper):List Oper:=ord.filterMap fun i=>match l[i]? with
 |some o=>some (rQ ord o)
 |none=>none
def wP(ord:List Nat)(l:List Oper):Bool:=
 Nat.beq ord.length l.length &&
 (List.range l.length).all (fun k=>(match ord[k]? with|some i=>Nat.blt i l.length&&Nat.beq (iO ord i) k|none=>false)&&Nat.blt (iO ord k) l.length&&(match ord[iO ord k]? with|some i=>Nat.beq i k|none=>false)) &&
 l.all (fun o=>(preds o).all (fun p=>Nat.blt p l.length)&&(match o.guard with|some (j,_)=>Nat.blt j l.length|none=>true))
def jf(q p:Nat)(l:List Oper):List Oper:=match l[q]? with
 |some o=>l.set q {o with after:=o.after.push {on:=p,ground:=.data} }
 |none=>l
def T.beq{α:Type}(eq:α->α->Bool):T α->T α->Bool
 | .e,.e=>true
 | .n v l r,.n v' l' r'=>(match v,v' with|some a,some b=>eq a b|none,none=>true |_,_=>false)&&T.beq eq l l'&&T.beq eq r r'
 |_,_=>false
def Ce(ops:List Oper)(E1 E2:aG)(H1 H2:Hp):Bool:=
 ops.all (fun o=>match o.dst with|some d=>AV.beq (E1.at d) (E2.at d)|none=>true)&&Nat.beq H1.next H2.next&&T.beq HB.beq H1.t H2.t
def tj(ops:List Oper):Res->Res->Res
 | .done .normal E1 H1,.done .normal E2 H2=>match Ce ops E1 E2 H1 H2 with
   |true=>.done .normal E1 H1
   |false=>.fail
 |_,_=>.fail
def zf8(ih:Task->Res)(f N:Nat)(E:aG)(H:Hp):Plan->List Oper->Res
 | .text,ops=>lV P cfg ih f N ops E H
 | .perm ord,ops=>match wP ord ops with
   |true=>lV P cfg ih f N (ip ord ops) E H
   |false=>.fail
 | .split p q a b,ops=>match Nat.beq p q with
   |true=>.fail
   |false=>tj ops (zf8 ih f N E H a (jf q p ops)) (zf8 ih f N E H b (jf p q ops))
def zga(go:aG->Hp->Res)(H:Hp):Option aG->Res
 |some E=>go E H
 |none=>.fail
def js(ih:Task->Res)(f N:Nat)(all:List Oper)(ops:List Oper):aG->Hp->Res:=
 List.rec (motive:=fun _=>aG->Hp->Res) (fun E H=>.done .normal E H)
  (fun o _ go E H=>match zf6 all E o with
    |true=>match zfk P cfg ih f E H o.op with
     | .val v H=>zga go H (fD N E o.dst v)
     |_=>.fail
    |false=>zga go H (fD N E o.dst zff)) ops
def wQ:Nat->aG
 |0=>.e
 |d+1=>.n (some zff) (wQ d) (wQ d)
def tk(N:Nat):aG:=wQ (Nat.log2 N+1)
def zd8:Nat->List AV->aG->aG
 |_,[],E=>E
 |i,v::vs,E=>zd8 (i+1) vs (T.set E i (some v))
def zfI(E:aG)(H:Hp):ResultVar->Option AV
 | .tmp t=>some (E.at t)
 | .cell a t=>zfC P H t (E.at a)
def zfD(E:aG)(H:Hp):List ResultVar->Option (List AV)
 |[]=>some []
 |r::rs=>match zfI P E H r,zfD E H rs with
  |some v,some vs=>some (v::vs)
  |_,_=>none
def zdY:List AV->AV
 |[v]=>v
 |vs=>.tup vs
def uN(rs:List ResultVar)(E:aG)(H:Hp):Res:=
 match zfD P E H rs with
 |some vs=>.val (zdY vs) H
 |none=>.fail
def nE(ih:Task->Res)(f:FuncId)(args:List AV)(H:Hp):Res:=
 match P.funcs[f]? with
 |some fn=>match fn.body with
  |some c=>match ih (.code f (max fn.ntmps args.length) c (zd8 0 args (tk (max fn.ntmps args.length))) H)with
   | .done .normal E H=>uN P fn.results.toList E H
   | .done .ret E H=>uN P fn.results.toList E H
   |_=>.fail
  |none=>.fail
 |none=>.fail
def nF(ih:Task->Res)(f N:Nat)(b:Code):Res->Res
 | .done .normal E H=>ih (.code f N b E H)
 |r=>r
def zgo(id:Nat):Res->Res
 | .done (.exit id') E H=>match Nat.beq id' id with
   |true=>.done .normal E H
   |false=>.done (.exit id') E H
 |r=>r
def tl(ih:Task->Res)(f N:Nat)(x:Operand)(a b:Code)(E:aG)(H:Hp):Res:=
 match zd0 E x with
 |some (.bool true)=>ih (.code f N a E H)
 |some (.bool false)=>ih (.code f N b E H)
 |_=>.fail
def gY(z:Nat):Nat->List AV->List (List AV)
 |0,_=>[]
 |n+1,l=>l.take z::gY z n (l.drop z)
def jY(g:AV->Hp->Option (AV×Hp)):List AV->Hp->Option (List AV×Hp)
 |[],H=>some ([],H)
 |c::cs,H=>match g c H with
  |some (d,H)=>match jY g cs H with
   |some (ds,H)=>some (d::ds,H)
   |none=>none
  |none=>none
def eY:Nat->AV->Hp->Option (AV×Hp)
 |0,_,_=>none
 |n+1,v,H=>match v with
  | .sl r off len z=>match H.get r with
    |some (.cells cs imm tip)=>match Nat.ble (off+len*z) cs.length&&Nat.ble imm cs.length with
     |true=>match jY (eY n) ((cs.drop off).take (len*z)) (H.set r (.cells cs (max imm (off+len*z)) tip))with
      |some (l,H)=>some (.lst (gY z len l),H)
      |none=>none
     |false=>none
    |_=>none
  | .agg cs=>match jY (eY n) cs H with
    |some (ds,H)=>some (.agg ds,H)
    |none=>none
  | .ptr _ _=>none
  | .map _=>none
  |v=>some (v,H)
def wR(ih:Task->Res)(f:FuncId)(args:List AV)(H:Hp):Option (List AV×Hp)->Res
 |some (asx,H')=>match cfg.call f asx with
  |some r=>.val r H'
  |none=>nE P ih f args H
 |none=>nE P ih f args H
def uO:Bool->Res->Res
 |true,.val v H=>zfM (eY 100 v H)
 |_,r=>r
def nG(ih:Task->Res)(f:FuncId)(args:List AV)(H:Hp):Res:=match cfg.ice f with
 |true=>wR P cfg ih f args H (jY (eY 100) args H)
 |false=>nE P ih f args H
def step(ih:Task->Res):Task->Res
 | .call f args H=>match cfg.call f args with
   |some r=>.val r H
   |none=>uO (cfg.froz f) (nG P cfg ih f args H)
 | .code f N c E H=>match c with
   | .skip=>.done .normal E H
   | .region id ops draw=>match draw with
     |false=>js P cfg ih f N ops.toList ops.toList E H
     |true=>zf8 P cfg ih f N E H (cfg.plan f id) ops.toList
   | .seq a b=>nF ih f N b (ih (.code f N a E H))
   | .cond x a b=>tl ih f N x a b E H
   | .block id a=>zgo id (ih (.code f N a E H))
   | .loop a=>nF ih f N (.loop a) (ih (.code f N a E H))
   | .exit id=>.done (.exit id) E H
   | .ret=>.done .ret E H
   |_=>.fail
def ze8(n:Nat):Task->Res:=Nat.rec (motive:=fun _=>Task->Res) (fun _=>.fail) (fun _ ih=>step P cfg ih) n
end
def zeo:Hp:={next:=0,t:=.e}
def iceL(g:AV->Option AV):List AV->Option (List AV)
 |[]=>some []
 |c::cs=>match g c,iceL g cs with
  |some d,some ds=>some (d::ds)
  |_,_=>none
def rR(g:AV->Option AV):List (List AV)->Option (List (List AV))
 |[]=>some []
 |c::cs=>match iceL g c,rR g cs with
  |some d,some ds=>some (d::ds)
  |_,_=>none
def iceV(H:Hp):Nat->AV->Option AV
 |0,_=>none
 |n+1,v=>match v with
  | .sl r off len z=>match H.get r with
    |some (.cells cs _ _)=>match iceL (iceV H n) ((cs.drop off).take (len*z))with
     |some l=>if l.length=len*z then some (.lst (gY z len l))else none
     |none=>none
    |_=>none
  | .lst xs=>match rR (iceV H n) xs with
    |some ys=>some (.lst ys)
    |none=>none
  | .agg cs=>match iceL (iceV H n) cs with
    |some ds=>some (.agg ds)
    |none=>none
  | .tup cs=>match iceL (iceV H n) cs with
    |some ds=>some (.tup ds)
    |none=>none
  | .int k a=>some (.int k a)
  | .sx k e=>some (.sx k e)
  | .bool b=>some (.bool b)
  | .str s=>some (.str s)
  | .nilP=>some .nilP
  | .nilM=>some .nilM
  | .nilF=>some .nilF
  | .nilS=>some .nilS
  |_=>none
def wS(P:Program)(cfg:Cfg)(n m:Nat)(f:FuncId)(args:List AV):Option AV:=
 match ze8 P cfg n (.call f args zeo)with
 | .val v H=>iceV H m v
 |_=>none
def qC(m:Nat)(args:List AV):Bool:=
 match iceL (iceV zeo m) args with
 |some asx=>j7 asx args
 |none=>false
def Cf(P:Program)(cfg:Cfg)(n m:Nat)(f:FuncId)(args:List AV)(r:AV):Bool:=
 match wS P cfg n m f args with
 |some q=>AV.beq q r
 |none=>false
def tm:List (FuncId×List AV×AV)->FuncId->List AV->Option AV
 |[],_,_=>none
 |p::l,f,args=>match Nat.beq p.1 f with
  |true=>match j7 p.2.1 args with
   |true=>some p.2.2
   |false=>tm l f args
  |false=>tm l f args
end
end Go.Ab
