/- Parts: AbDefs. -/
import GoSem.Step
set_option linter.unusedSimpArgs false
set_option linter.unusedVariables false
set_option linter.unusedSectionVars false
set_option linter.defProp false
set_option maxHeartbeats 32000000
namespace Go.Ab
noncomputable section
open Go
inductive T (α:Type) where
 | e
 | n (v:Option α) (l r:T α)
def zdD {α:Type} (b:Bool) (x y:α):α:=Bool.rec y x b
def T.get {α:Type} (t:T α):Nat→Option α:=
 T.rec (motive:=fun _=>Nat→Option α) (fun _=>none)
  (fun v _ _ gl gr k=>zdD (Nat.beq k 0) v (zdD (Nat.beq (Nat.mod k 2) 1) (gl (Nat.div k 2)) (gr (Nat.sub (Nat.div k 2) 1)))) t
def zeP {α:Type} (v:Option α) (f:Nat):T α→Nat→T α:=
 Nat.rec (motive:=fun _=>T α→Nat→T α) (fun t _=>t)
  (fun _ ih t k=>T.casesOn t
    (zdD (Nat.beq k 0) (.n v .e .e) (zdD (Nat.beq (Nat.mod k 2) 1) (.n none (ih .e (Nat.div k 2)) .e) (.n none .e (ih .e (Nat.sub (Nat.div k 2) 1)))))
    (fun u l r=>zdD (Nat.beq k 0) (.n v l r) (zdD (Nat.beq (Nat.mod k 2) 1) (.n u (ih l (Nat.div k 2)) r) (.n u l (ih r (Nat.sub (Nat.div k 2) 1)))))) f
def T.set {α:Type} (t:T α) (k:Nat) (v:Option α):T α:=zeP v (k+1) t k
inductive Sx where
 | var (i:Nat)
 | lit (n:Int)
 | bin (op:BinOp) (k:IntKind) (a b:Sx)
 | conv (k:IntKind) (a:Sx)
inductive AV where
 | int (k:IntKind) (n:Int)
 | sx (k:IntKind) (e:Sx)
 | bool (b:Bool)
 | str (s:List UInt8)
 | nilP|nilM|nilF|nilS
 | ptr (r:Nat) (off:Nat)
 | iptr (cs:List AV)
 | sl (r off len z:Nat)
 | lst (xs:List (List AV))
 | map (r:Nat)
 | clo (f:Nat) (cap:List AV)
 | agg (cs:List AV)
 | tup (vs:List AV)
inductive HB where
 | cells (cs:List AV) (imm:Nat) (tip:Bool)
 | map (es:List (AV×AV))
structure Hp where
 next:Nat
 t:T HB
def Hp.get (h:Hp) (r:Nat):Option HB:=h.t.get r
def Hp.set (h:Hp) (r:Nat) (b:HB):Hp:={ next:=h.next,t:=h.t.set r (some b) }
def Hp.kill (h:Hp) (r:Nat):Hp:={ next:=h.next,t:=h.t.set r none }
def Hp.alloc (h:Hp) (b:HB):Hp:={ next:=h.next+1,t:=h.t.set h.next (some b) }
inductive Plan where
 | text
 | perm (ord:List Nat)
 | split (p q:Nat) (a b:Plan)
structure Cfg where
 keep:FuncId→Bool
 dec:BinOp→Sx→Sx→Option Bool:=fun _ _ _=>none
 call:FuncId→List AV→Option AV:=fun _ _=>none
 ice:FuncId→Bool:=fun _=>false
 plan:FuncId→Nat→Plan:=fun _ _=>.text
 froz:FuncId→Bool:=fun _=>false
abbrev Env:=T AV
def yp:AV:=.tup []
def Env.at (E:Env) (t:Nat):AV:=(T.get E t).getD yp
def vToS:Value→Option AV
 | .int k n=>some (.int k n)
 | .bool b=>some (.bool b)
 | .string s=>some (.str s.data.toList)
 | .pointer none=>some .nilP
 | .slice none 0 0=>some .nilS
 | .map none=>some .nilM
 | .nilFunc=>some .nilF
 | _=>none
def vToA:Value→Option AV
 | .agg cs=>(cs.toList.mapM vToS).map .agg
 | v=>vToS v
def zn (E:Env):Operand→Option AV
 | .tmp t=>some (E.at t)
 | .const v=>vToA v
 | .global _=>none
 | .func f=>some (.clo f [])
def yO (E:Env):List Operand→Option (List AV)
 | []=>some []
 | x::xs=>match zn E x,yO E xs with
   | some v,some vs=>some (v::vs)
   | _,_=>none
def AV.cells:AV→List AV
 | .agg cs=>cs
 | v=>[v]
def AV.one:AV→Bool
 | .agg _|.tup _=>false
 | _=>true
section
variable (P:Program)
def zG (t:TypeId):Option Nat:=(P.info? t).map (·.size)
def z8 (t:TypeId):Option Nat:=(P.info? t).map (·.bytes)
def zff (t:TypeId):Option AV:=
 match P.info? t with
 | some { zero:=some z,.. }=>vToA z
 | _=>none
def yl (t:TypeId):Option (List AV):=
 match zff P t with
 | some v=>some v.cells
 | none=>none
def zy (t:TypeId) (cs:List AV) (off:Nat):Option AV:=
 match P.underlying t with
 | some (.struct _)|some (.array _ _)=>
   match zG P t with
   | some s=>let l:=(cs.drop off).take s;if l.length=s then some (.agg l)else none
   | none=>none
 | some _=>cs[off]?
 | none=>none
def zaZ (H:Hp) (t:TypeId):AV→Option AV
 | .ptr r off=>match H.get r with
   | some (.cells cs _ _)=>zy P t cs off
   | _=>none
 | .iptr cs=>zy P t cs 0
 | _=>none
def splice (cs:List AV) (off:Nat) (new:List AV):List AV:=cs.take off++new++cs.drop (off+new.length)
def zbr (H:Hp) (t:TypeId) (a v:AV):Option Hp:=
 match a with
 | .ptr r off=>match H.get r,zG P t with
   | some (.cells cs imm tip),some s=>
     if v.cells.length=s∧imm≤off∧off+s≤cs.length∧v.cells.all AV.one then some (H.set r (.cells (splice cs off v.cells) imm tip))else none
   | _,_=>none
 | _=>none
def zg (t:TypeId) (a:AV) (i:Nat):Option AV:=
 match P.underlying t with
 | some (.struct fields)=>match fields[i]? with
   | some f=>match zG P f.type with
     | some (_+1)=>match a with
       | .ptr r off=>some (.ptr r (off+f.offset))
       | .iptr cs=>some (.iptr (cs.drop f.offset))
       | _=>none
     | _=>none
   | none=>none
 | _=>none
def zN (t:TypeId) (x:AV) (i:Nat):Option AV:=
 match P.underlying t,x with
 | some (.struct fields),.agg cs=>match fields[i]? with
   | some f=>zy P f.type cs f.offset
   | none=>none
 | _,_=>none
def natOf (n:Int):Option Nat:=match n with|.ofNat k=>some k | _=>none
def zq (t:TypeId) (x i:AV):Option AV:=
 match i with
 | .int _ (.ofNat k)=>match P.underlying t with
   | some (.slice e)=>match zG P e with
     | some s=>match x with
       | .sl r off len _=>if k < len then some (.ptr r (off+k * s))else none
       | .lst xs=>match xs[k]? with
         | some row=>if row.length=s then some (.iptr row)else none
         | none=>none
       | _=>none
     | none=>none
   | some (.array n e)=>match zG P e with
     | some s=>match x with
       | .ptr r off=>if k < n then some (.ptr r (off+k * s))else none
       | _=>none
     | none=>none
   | _=>none
 | _=>none
def zbX (t:TypeId) (x i:AV):Option AV:=
 match i with
 | .int _ (.ofNat k)=>match P.underlying t,x with
   | some .string,.str s=>match s[k]? with
     | some b=>some (.int .u8 b.toNat)
     | none=>none
   | some (.array n e),.agg cs=>if k < n then (match zG P e with|some s=>zy P e cs (k * s)|none=>none)else none
   | _,_=>none
 | _=>none
def jl (d:Nat):Option AV→Option Nat
 | none=>some d
 | some (.int _ (.ofNat k))=>some k
 | some _=>none
def zaj (t:TypeId) (x:AV) (lo hi:Option AV):Option AV:=
 match P.underlying t,x with
 | some .string,.str s=>
   match jl 0 lo,jl s.length hi with
   | some l,some h=>if l≤h∧h≤s.length then some (.str ((s.drop l).take (h - l)))else none
   | _,_=>none
 | some (.slice e),x=>match zG P e with
   | some z=>match x with
     | .sl r off len z'=>match jl 0 lo,jl len hi with
       | some l,some h=>if l≤h∧h≤len∧z'=z then (if l=h then some (.lst [])else some (.sl r (off+l * z) (h - l) z))else none
       | _,_=>none
     | .lst xs=>match jl 0 lo,jl xs.length hi with
       | some l,some h=>if l≤h∧h≤xs.length then (match (xs.drop l).take (h - l)with
         | []=>some (.lst [])
         | row::rows=>if row.length=z then some (.lst (row::rows))else none)else none
       | _,_=>none
     | .nilS=>match jl 0 lo,jl 0 hi with
       | some 0,some 0=>some .nilS
       | _,_=>none
     | _=>none
   | none=>none
 | _,_=>none
def zaP (H:Hp) (t:TypeId) (x:AV) (lo hi:Option AV):Option AV:=
 match x with
 | .ptr r off=>match P.underlying t,H.get r with
   | some (.array n e),some (.cells cs _ _)=>match zG P e,jl 0 lo,jl n hi with
     | some z,some l,some h=>if l≤h∧h≤n∧off+n * z≤cs.length then (if l=h then some (.lst [])else some (.sl r (off+l * z) (h - l) z))else none
     | _,_,_=>none
   | _,_=>none
 | x=>zaj P t x lo hi
def zeC (place:Nat→Option (Nat×Nat)) (cells:List AV):List (Nat×AV)→Option (List AV)
 | []=>some cells
 | (i,v)::rest=>match place i with
   | none=>none
   | some (off,size)=>if v.cells.length≠size∨off+v.cells.length > cells.length then none else zeC place (splice cells off v.cells) rest
def jS (E:Env):List (Nat×Operand)→Option (List (Nat×AV))
 | []=>some []
 | (i,x)::rest=>match zn E x,jS E rest with
   | some v,some vs=>some ((i,v)::vs)
   | _,_=>none
def znq (fields:List Field):Option (List (Nat×Nat)):=fields.mapM fun f=>(P.info? f.type).map fun i=>(f.offset,i.size)
def yj (t:TypeId) (parts:List (Nat×AV)):Option AV:=
 match yl P t,P.underlying t with
 | some z,some (.struct fields)=>match znq P fields.toList with
   | some places=>match zeC (fun i=>places[i]?) z parts with
     | some cs=>some (.agg cs)
     | none=>none
   | none=>none
 | some z,some (.array _ e)=>match zG P e with
   | some s=>match zeC (fun i=>some (i * s,s)) z parts with
     | some cs=>some (.agg cs)
     | none=>none
   | none=>none
 | _,_=>none
def rep (z:List AV):Nat→List AV
 | 0=>[]
 | n+1=>z++rep z n
def zI (H:Hp) (t:TypeId) (len:Nat) (parts:List (Nat×AV)):Option (AV×Hp):=
 match P.underlying t with
 | some (.slice e)=>match zG P e,yl P e with
   | some s,some z=>if len * s≤16777216∧z.length=s then (match zeC (fun i=>some (i * s,s)) (rep z len) parts with
     | some cs=>some (.sl H.next 0 len s,H.alloc (.cells cs 0 true))
     | none=>none)else none
   | _,_=>none
 | _=>none
def zW:Nat:=70368744177664   -- 2 ^ 46
def yk (H:Hp) (s:Nat):AV→Option (Nat×List AV)
 | .sl r off len _=>match H.get r with
   | some (.cells cs _ _)=>let l:=(cs.drop off).take (len * s);if l.length=len * s then some (len,l)else none
   | _=>none
 | .lst xs=>if xs.all (fun row=>row.length == s)then some (xs.length,xs.flatten)else none
 | .nilS=>some (0,[])
 | .str b=>if s=1 then some (b.length,b.map fun x=>.int .u8 x.toNat)else none
 | _=>none
def yY (keep:Bool) (H:Hp) (s b:Nat) (sv:AV) (n:Nat) (new:List AV):Option (AV×Hp):=
 match sv with
 | .nilS=>if n * b≤zW∧n≤zW then some (.sl H.next 0 n s,H.alloc (.cells new 0 true))else none
 | .sl r off len z=>match H.get r with
   | some (.cells cs imm true)=>
     if (len+n) * b≤zW∧len+n≤zW∧off+len * s=cs.length∧z=s∧imm≤cs.length then
      (if keep then some (.sl H.next 0 (len+n) s,(H.set r (.cells cs cs.length false)).alloc (.cells (cs.drop off++new) (len * s) true))
       else some (.sl H.next 0 (len+n) s,(H.kill r).alloc (.cells (cs.drop off++new) (imm - off) true)))
     else none
   | _=>none
 | _=>none
def zae (keep:Bool) (H:Hp) (s:Nat):AV→Hp
 | .sl r off len _=>match H.get r with
   | some (.cells cs imm true)=>match !keep&&Nat.blt (off+len * s) cs.length&&Nat.ble imm (off+len * s)with
     | true=>H.set r (.cells (cs.take (off+len * s)) imm true)
     | false=>H
   | _=>H
 | _=>H
def jh (t:TypeId):Bool:=
 match P.underlying t with
 | some (.slice _)|some .string=>true
 | _=>false
def zX (keep:Bool) (H:Hp) (t u:TypeId) (sv x:AV):Option (AV×Hp):=
 match P.underlying t with
 | some (.slice e)=>match zG P e,z8 P e,yl P e with
   | some s,some b,some z=>match jh P u,yk H s x with
     | true,some (0,_)=>match sv with
       | .sl ..|.lst _|.nilS=>some (sv,H)
       | _=>none
     | true,some (n,new)=>if new.all AV.one∧z.length=s then yY keep (zae keep H s sv) s b sv n new else none
     | _,_=>none
   | _,_,_=>none
 | _=>none
def zg1 (kind:TypeDesc) (x y:AV):Option Bool:=
 match kind with
 | .int _=>match x,y with
   | .int k a,.int k' b=>if k=k' then some (a == b)else none
   | _,_=>none
 | .string=>match x,y with
   | .str a,.str b=>some (a == b)
   | _,_=>none
 | .bool=>match x,y with
   | .bool a,.bool b=>some (a == b)
   | _,_=>none
 | _=>none
def zam (t:TypeId):Option TypeDesc:=
 match P.underlying t with
 | some (.int k)=>some (.int k)
 | some .string=>some .string
 | some .bool=>some .bool
 | _=>none
def jn (kind:TypeDesc) (k:AV):List (AV×AV)→Nat→Option (Option (Nat×AV))
 | [],_=>some none
 | (k',v)::es,i=>match zg1 kind k k' with
   | some true=>some (some (i,v))
   | some false=>jn kind k es (i+1)
   | none=>none
def zbY (H:Hp):AV→Option (List (AV×AV))
 | .nilM=>some []
 | .map r=>match H.get r with
   | some (.map es)=>some es
   | _=>none
 | _=>none
def okOr (ok:Bool) (v:AV) (there:Bool):AV:=match ok with
 | true=>.tup [v,.bool there]
 | false=>v
def ji (H:Hp) (t:TypeId) (m k:AV) (ok:Bool):Option AV:=
 match P.underlying t with
 | some (.map kt e)=>match zbY H m,zam P kt with
   | some es,some kind=>match jn kind k es 0 with
     | some (some (_,v))=>some (okOr ok v true)
     | some none=>match zff P e with
       | some v=>some (okOr ok v false)
       | none=>none
     | none=>none
   | _,_=>none
 | _=>none
def yZ (H:Hp) (t:TypeId) (m k v:AV):Option Hp:=
 match P.underlying t with
 | some (.map kt _)=>match m,zam P kt with
   | .map r,some kind=>match H.get r with
     | some (.map es)=>match jn kind k es 0 with
       | some (some (i,_))=>some (H.set r (.map (es.set i (k,v))))
       | some none=>some (H.set r (.map (es++[(k,v)])))
       | none=>none
     | _=>none
   | _,_=>none
 | _=>none
def zcn:List UInt8→List UInt8→Bool
 | _,[]=>false
 | [],_::_=>true
 | a::x,b::y=>a < b||(a == b&&zcn x y)
def yV (op:BinOp) (k:IntKind) (a b:Int):Option AV:=
 match op with
 | .add=>some (.int k (k.wrap (a+b)))
 | .sub=>some (.int k (k.wrap (a - b)))
 | .mul=>some (.int k (k.wrap (a * b)))
 | .quo=>if b=0 then none else some (.int k (k.wrap (a.tdiv b)))
 | .rem=>if b=0 then none else some (.int k (a.tmod b))
 | .and=>some (.int k (k.wrap (BitVec.ofInt k.bits a &&& BitVec.ofInt k.bits b).toNat))
 | .or=>some (.int k (k.wrap (BitVec.ofInt k.bits a ||| BitVec.ofInt k.bits b).toNat))
 | .xor=>some (.int k (k.wrap (BitVec.ofInt k.bits a ^^^ BitVec.ofInt k.bits b).toNat))
 | .andNot=>some (.int k (k.wrap (BitVec.ofInt k.bits a &&& ~~~ BitVec.ofInt k.bits b).toNat))
 | .eql=>some (.bool (a == b))
 | .neq=>some (.bool (a != b))
 | .lss=>some (.bool (a < b))
 | .leq=>some (.bool (a≤b))
 | .gtr=>some (.bool (a > b))
 | .geq=>some (.bool (a≥b))
 | _=>none
def zl8 (op:BinOp) (k:IntKind) (a b:Int):Int:=
 match yV op k a b with
 | some (.int _ n)=>n
 | _=>0
def Sx.eval (ρ:Nat→Int):Sx→Int
 | .var i=>ρ i
 | .lit n=>n
 | .bin op k a b=>zl8 op k (a.eval ρ) (b.eval ρ)
 | .conv k a=>k.wrap (a.eval ρ)
def znr:AV→Option (IntKind×Sx)
 | .int k n=>some (k,.lit n)
 | .sx k e=>some (k,e)
 | _=>none
def zjJ (D:BinOp→Sx→Sx→Option Bool) (op:BinOp) (k:IntKind) (a b:Sx):Option AV:=
 match op with
 | .add=>some (.sx k (.bin .add k a b))
 | .sub=>some (.sx k (.bin .sub k a b))
 | .mul=>some (.sx k (.bin .mul k a b))
 | .and=>some (.sx k (.bin .and k a b))
 | .or=>some (.sx k (.bin .or k a b))
 | .xor=>some (.sx k (.bin .xor k a b))
 | .andNot=>some (.sx k (.bin .andNot k a b))
 | .quo=>match D .eql b (.lit 0)with
   | some false=>some (.sx k (.bin .quo k a b))
   | _=>none
 | .rem=>match D .eql b (.lit 0)with
   | some false=>some (.sx k (.bin .rem k a b))
   | _=>none
 | .shl=>none
 | .shr=>none
 | op=>match D op a b with
   | some r=>some (.bool r)
   | none=>none
def zns (D:BinOp→Sx→Sx→Option Bool) (op:BinOp) (x y:AV):Option AV:=
 match znr x,znr y with
 | some (k,a),some (k',b)=>if k=k' then zjJ D op k a b else none
 | _,_=>none
def zhA (op:BinOp) (a b:List UInt8):Option AV:=
 match op with
 | .add=>if a.length+b.length≤zW then some (.str (a++b))else none
 | .eql=>some (.bool (a == b))
 | .neq=>some (.bool !(a == b))
 | .lss=>some (.bool (zcn a b))
 | .leq=>some (.bool (zcn a b||a == b))
 | .gtr=>some (.bool !(zcn a b||a == b))
 | .geq=>some (.bool !(zcn a b))
 | _=>none
def eqA (t:TypeId) (x y:AV):Option Bool:=
 match P.underlying t with
 | some .bool=>match x,y with
   | .bool a,.bool b=>some (a == b)
   | _,_=>none
 | some (.pointer _)=>match x,y with
   | .nilP,.nilP=>some true
   | .ptr _ _,.nilP|.nilP,.ptr _ _|.iptr _,.nilP|.nilP,.iptr _=>some false
   | _,_=>none
 | some (.map _ _)=>match x,y with
   | .nilM,.nilM=>some true
   | .map _,.nilM|.nilM,.map _=>some false
   | _,_=>none
 | some (.func _ _ _)=>match x,y with
   | .nilF,.nilF=>some true
   | .clo _ _,.nilF|.nilF,.clo _ _=>some false
   | _,_=>none
 | some (.slice _)=>match x,y with
   | .nilS,.nilS=>some true
   | .sl _ _ _ _,.nilS|.nilS,.sl _ _ _ _|.lst (_::_),.nilS|.nilS,.lst (_::_)=>some false
   | _,_=>none
 | _=>none
def zjK (t:TypeId) (x y:AV):Option Bool:=
 match x,y with
 | .int k a,.int k' b=>match P.underlying t with
   | some (.int _)=>if k=k' then some (a == b)else none
   | _=>none
 | .str a,.str b=>match P.underlying t with
   | some .string=>some (a == b)
   | _=>none
 | x,y=>eqA P t x y
def zbU (xs ys:List AV):List Field→Option Bool
 | []=>some true
 | f::fs=>match f.name == "_" with
   | true=>zbU xs ys fs
   | false=>match zy P f.type xs f.offset,zy P f.type ys f.offset with
     | some a,some b=>match zjK P f.type a b with
       | some true=>zbU xs ys fs
       | some false=>some false
       | none=>none
     | _,_=>none
def zjL (t:TypeId) (xs ys:List AV):Option Bool:=
 match P.underlying t with
 | some (.struct fields)=>match P.stoodInHeld t||P.eqGuardType P.depth t with
   | true=>none
   | false=>zbU P xs ys fields.toList
 | _=>none
def zeQ (t:TypeId) (x y:AV):Option Bool:=
 match x,y with
 | .agg xs,.agg ys=>zjL P t xs ys
 | x,y=>eqA P t x y
def zfX (op:BinOp) (k:IntKind) (a b:Int):Option AV:=
 match b with
 | .ofNat m=>match op with
   | .shl=>some (.int k (k.wrap (a * 2 ^ min m k.bits)))
   | .shr=>some (.int k (a.fdiv (2 ^ min m k.bits)))
   | _=>none
 | _=>none
def zbE (op:BinOp) (k k':IntKind) (a b:Int):Option AV:=
 match op with
 | .shl=>zfX .shl k a b
 | .shr=>zfX .shr k a b
 | op=>if k=k' then yV op k a b else none
def zjM (op:BinOp) (t:TypeId) (x y:AV):Option AV:=
 match op with
 | .eql=>match zeQ P t x y with
   | some b=>some (.bool b)
   | none=>none
 | .neq=>match zeQ P t x y with
   | some b=>some (.bool !b)
   | none=>none
 | _=>none
def jJ (D:BinOp→Sx→Sx→Option Bool) (op:BinOp) (t:TypeId) (x y:AV):Option AV:=
 match x,y with
 | .int k a,.int k' b=>zbE op k k' a b
 | .str a,.str b=>zhA op a b
 | .sx k a,y=>zns D op (.sx k a) y
 | .int k a,.sx k' b=>zns D op (.int k a) (.sx k' b)
 | x,y=>zjM P op t x y
def unA (op:UnOp) (x:AV):Option AV:=
 match op,x with
 | .neg,.sx k e=>some (.sx k (.bin .sub k (.lit 0) e))
 | .xor,.sx k e=>some (.sx k (.bin .xor k (.lit (if k.signed then -1 else k.max)) e))
 | .neg,.int k n=>yV .sub k 0 n
 | .xor,.int k n=>yV .xor k (if k.signed then -1 else k.max) n
 | .not,.bool b=>some (.bool !b)
 | _,_=>none
def zbZ:List AV→Option (List UInt8)
 | []=>some []
 | .int .u8 n::cs=>match zbZ cs with
   | some bs=>some (UInt8.ofNat n.toNat::bs)
   | none=>none
 | _=>none
def jo (H:Hp) (src dst:TypeId) (x:AV):Option AV:=
 match P.underlying src,P.underlying dst with
 | some (.slice e),some .string=>match P.underlying e with
   | some (.int .u8)=>match yk H 1 x with
     | some (_,cs)=>match zbZ cs with
       | some bs=>match x with
         | .sl _ _ _ _|.nilS=>some (.str bs)
         | _=>none
       | none=>none
     | none=>none
   | _=>none
 | some _,some (.int k)=>match x with
   | .int _ n=>some (.int k (k.wrap n))
   | .sx _ e=>some (.sx k (.conv k e))
   | _=>none
 | some .string,some .string=>match x with
   | .str s=>some (.str s)
   | _=>none
 | _,_=>none
def jB (H:Hp) (t:TypeId) (l c:AV):Option (AV×Hp):=
 match P.underlying t,l,c with
 | some (.slice e),.int _ (.ofNat l),.int _ (.ofNat c)=>match zG P e,z8 P e,yl P e with
   | some s,some b,some z=>if l≤c∧c * b≤zW∧c≤zW∧z.length=s then some (.sl H.next 0 l s,H.alloc (.cells (rep z l) 0 true))else none
   | _,_,_=>none
 | _,_,_=>none
def extract (x:AV) (i:Nat):Option AV:=
 match x with
 | .tup vs=>vs[i]?
 | _=>none
def mm (mx:Bool):AV→AV→Option AV
 | .int k x,.int _ y=>some (.int k (if (if mx then decide (y > x)else decide (y < x))then y else x))
 | _,_=>none
def mms (mx:Bool) (x:AV):List AV→Option AV
 | []=>some x
 | y::ys=>match mm mx x y with
   | some z=>mms mx z ys
   | none=>none
def ye (H:Hp) (t:TypeId) (x:AV):Option AV:=
 match P.underlying t with
 | some .string=>match x with
   | .str s=>some (.int .i64 s.length)
   | _=>none
 | some (.slice _)=>match x with
   | .sl _ _ n _=>some (.int .i64 n)
   | .lst xs=>some (.int .i64 xs.length)
   | .nilS=>some (.int .i64 0)
   | _=>none
 | some (.array n _)=>some (.int .i64 n)
 | some (.map _ _)=>match zbY H x with
   | some es=>some (.int .i64 es.length)
   | none=>none
 | _=>none
def zaE (keep:Bool) (H:Hp) (b:Builtin) (ts:List TypeId) (args:List AV):Option (AV×Hp):=
 match b with
 | .append=>match ts,args with
   | [t,u],[s,x]=>zX P keep H t u s x
   | _,_=>none
 | .len=>match ts,args with
   | [t],[x]=>match ye P H t x with
     | some v=>some (v,H)
     | none=>none
   | _,_=>none
 | .max=>match args with
   | x::xs=>match mms true x xs with
     | some v=>some (v,H)
     | none=>none
   | []=>none
 | .min=>match args with
   | x::xs=>match mms false x xs with
     | some v=>some (v,H)
     | none=>none
   | []=>none
 | _=>none
def ret (H:Hp):Option AV→Option (AV×Hp)
 | some v=>some (v,H)
 | none=>none
def zjN (E:Env) (H:Hp) (c a b:Operand):Option (AV×Hp):=
 match zn E c with
 | some (.bool true)=>ret H (zn E a)
 | some (.bool false)=>ret H (zn E b)
 | _=>none
def zfg (H:Hp) (t:TypeId):Option (AV×Hp):=
 match yl P t with
 | some z=>some (.ptr H.next 0,H.alloc (.cells z 0 true))
 | none=>none
def zky (E:Env) (H:Hp) (x:Operand):Option (AV×Hp):=
 match zn E x with
 | some v=>some (.ptr H.next 0,H.alloc (.cells v.cells 0 true))
 | none=>none
def zha (E:Env) (H:Hp) (t:TypeId) (parts:Array (Nat×Operand)):Option (AV×Hp):=
 match jS E parts.toList with
 | some ps=>ret H (yj P t ps)
 | none=>none
def zbc (E:Env) (H:Hp) (t:TypeId) (len:Nat) (parts:Array (Nat×Operand)):Option (AV×Hp):=
 match jS E parts.toList with
 | some ps=>zI P H t len ps
 | none=>none
def zhB (E:Env) (H:Hp) (t:TypeId) (a:Operand):Option (AV×Hp):=
 match zn E a with
 | some v=>ret H (zaZ P H t v)
 | none=>none
def zhb (E:Env) (H:Hp) (t:TypeId) (a x:Operand):Option (AV×Hp):=
 match zn E a,zn E x with
 | some a,some x=>match zbr P H t a x with
   | some H=>some (yp,H)
   | none=>none
 | _,_=>none
def zc5 (E:Env) (H:Hp) (x:Operand):Option (AV×Hp):=
 match zn E x with
 | some (.ptr r o)=>some (.ptr r o,H)
 | some (.iptr cs)=>some (.iptr cs,H)
 | _=>none
def znt (D:BinOp→Sx→Sx→Option Bool) (E:Env) (H:Hp) (op:BinOp) (t:TypeId) (x y:Operand):Option (AV×Hp):=
 match zn E x,zn E y with
 | some x,some y=>ret H (jJ P D op t x y)
 | _,_=>none
def opUn (E:Env) (H:Hp) (op:UnOp) (x:Operand):Option (AV×Hp):=
 match zn E x with
 | some x=>ret H (unA op x)
 | none=>none
def zcL (E:Env) (H:Hp) (s d:TypeId) (x:Operand):Option (AV×Hp):=
 match zn E x with
 | some x=>ret H (jo P H s d x)
 | none=>none
def zc6 (E:Env) (H:Hp) (fn:Fn) (first captured:Array Operand):Option (AV×Hp):=
 match fn,first.toList,yO E captured.toList with
 | .func f,[],some vs=>some (.clo f vs,H)
 | _,_,_=>none
def zcM (H:Hp) (r:Option Operand):Option (AV×Hp):=
 match r with
 | none=>some (.map H.next,H.alloc (.map []))
 | some _=>none
def zbF (E:Env) (H:Hp) (t:TypeId) (l c:Operand):Option (AV×Hp):=
 match zn E l,zn E c with
 | some l,some c=>jB P H t l c
 | _,_=>none
def jK (E:Env):Option Operand→Option (Option AV)
 | none=>some none
 | some x=>match zn E x with
   | some v=>some (some v)
   | none=>none
def zfh (E:Env) (H:Hp) (t:TypeId) (x:Operand) (lo hi mx:Option Operand):Option (AV×Hp):=
 match mx,zn E x,jK E lo,jK E hi with
 | none,some x,some l,some h=>ret H (zaP P H t x l h)
 | _,_,_,_=>none
def zco (E:Env) (H:Hp) (t:TypeId) (x:Operand) (f:Nat):Option (AV×Hp):=
 match zn E x with
 | some x=>ret H (zg P t x f)
 | none=>none
def zhc (E:Env) (H:Hp) (t:TypeId) (x:Operand) (f:Nat):Option (AV×Hp):=
 match zn E x with
 | some x=>ret H (zN P t x f)
 | none=>none
def zcp (E:Env) (H:Hp) (t:TypeId) (x i:Operand):Option (AV×Hp):=
 match zn E x,zn E i with
 | some x,some i=>ret H (zq P t x i)
 | _,_=>none
def zhd (E:Env) (H:Hp) (t:TypeId) (x i:Operand):Option (AV×Hp):=
 match zn E x,zn E i with
 | some x,some i=>ret H (zbX P t x i)
 | _,_=>none
def zdF (E:Env) (H:Hp) (t:TypeId) (m k:Operand) (ok:Bool):Option (AV×Hp):=
 match zn E m,zn E k with
 | some m,some k=>ret H (ji P H t m k ok)
 | _,_=>none
def zcq (E:Env) (H:Hp) (t:TypeId) (m k v:Operand):Option (AV×Hp):=
 match zn E m,zn E k,zn E v with
 | some m,some k,some v=>match yZ P H t m k v with
   | some H=>some (yp,H)
   | none=>none
 | _,_,_=>none
def zed (E:Env) (H:Hp) (x:Operand) (i:Nat):Option (AV×Hp):=
 match zn E x with
 | some x=>ret H (extract x i)
 | none=>none
def opA (D:BinOp→Sx→Sx→Option Bool) (E:Env) (H:Hp) (op:Op):Option (AV×Hp):=
 match op with
 | .move x=>ret H (zn E x)
 | .assign x=>ret H (zn E x)
 | .pick c a b=>zjN E H c a b
 | .alloc t=>zfg P H t
 | .box _ x=>zky E H x
 | .build t parts=>zha P E H t parts
 | .buildSlice t len parts=>zbc P E H t len parts
 | .load t a=>zhB P E H t a
 | .store t a x=>zhb P E H t a x
 | .nilCheck x=>zc5 E H x
 | .binOp op t x y _=>znt P D E H op t x y
 | .unOp op _ x=>opUn E H op x
 | .convert s d x=>zcL P E H s d x
 | .makeFunc fn first captured=>zc6 E H fn first captured
 | .makeMap _ r=>zcM H r
 | .makeSlice t l c=>zbF P E H t l c
 | .slice t x lo hi mx=>zfh P E H t x lo hi mx
 | .fieldAddr t x f=>zco P E H t x f
 | .field t x f=>zhc P E H t x f
 | .indexAddr t x i=>zcp P E H t x i
 | .index t x i=>zhd P E H t x i
 | .lookup t m k ok=>zdF P E H t m k ok
 | .mapUpdate t m k v=>zcq P E H t m k v
 | .extract x i=>zed E H x i
 | _=>none
inductive Task where
 | code (f:FuncId) (N:Nat) (c:Code) (E:Env) (H:Hp)
 | call (f:FuncId) (args:List AV) (H:Hp)
inductive AX where
 | normal|exit (id:Nat)|ret
inductive Res where
 | done (x:AX) (E:Env) (H:Hp)
 | val (v:AV) (H:Hp)
 | fail
def zaB (N:Nat) (E:Env) (dst:Option Tmp) (v:AV):Option Env:=
 match dst with
 | some d=>match Nat.blt d N with
   | true=>some (T.set E d (some v))
   | false=>none
 | none=>some E
def zfi (ops:List Oper) (E:Env) (j:Nat):Option Bool:=
 match (ops[j]?).bind (·.dst)with
 | some d=>match E.at d with|.bool b=>some b | _=>none
 | none=>none
def jj (ops:List Oper) (E:Env) (o:Oper):Bool:=
 match o.guard with
 | none=>true
 | some (j,want)=>match zfi ops E j with
   | some b=>b == want
   | none=>false
variable (cfg:Cfg)
def zgx (ih:Task→Res) (f:FuncId) (E:Env) (H:Hp) (c:Call):Res:=
 match c.callee with
 | .value g=>match zn E g,yO E c.args.toList with
   | some (.clo k cap),some vs=>ih (.call k (vs++cap) H)
   | _,_=>.fail
 | .builtin b=>match yO E c.args.toList with
   | some vs=>match zaE P (cfg.keep f) H b c.argTypes.toList vs with
     | some (v,H)=>.val v H
     | none=>.fail
   | none=>.fail
 | _=>.fail
def jZ:Option (AV×Hp)→Res
 | some (v,H)=>.val v H
 | none=>.fail
def yI (ih:Task→Res) (f:FuncId) (E:Env) (H:Hp) (op:Op):Res:=
 match op with
 | .call c=>zgx P cfg ih f E H c
 | op=>jZ (opA P cfg.dec E H op)
def Sx.beq:Sx→Sx→Bool
 | .var i,.var j=>Nat.beq i j
 | .lit a,.lit b=>a == b
 | .bin o k a b,.bin o' k' a' b'=>decide (o=o')&&decide (k=k')&&Sx.beq a a'&&Sx.beq b b'
 | .conv k a,.conv k' b=>decide (k=k')&&Sx.beq a b
 | _,_=>false
mutual
def AV.beq:AV→AV→Bool
 | .int k a,.int k' b=>decide (k=k')&&(a == b)
 | .sx k a,.sx k' b=>decide (k=k')&&Sx.beq a b
 | .bool a,.bool b=>a == b
 | .str a,.str b=>a == b
 | .nilP,.nilP|.nilM,.nilM|.nilF,.nilF|.nilS,.nilS=>true
 | .ptr r o,.ptr r' o'=>Nat.beq r r'&&Nat.beq o o'
 | .iptr a,.iptr b=>jW a b
 | .sl r o l z,.sl r' o' l' z'=>Nat.beq r r'&&Nat.beq o o'&&Nat.beq l l'&&Nat.beq z z'
 | .lst a,.lst b=>zb0 a b
 | .map r,.map r'=>Nat.beq r r'
 | .clo f a,.clo f' b=>Nat.beq f f'&&jW a b
 | .agg a,.agg b=>jW a b
 | .tup a,.tup b=>jW a b
 | _,_=>false
def jW:List AV→List AV→Bool
 | [],[]=>true
 | a::x,b::y=>AV.beq a b&&jW x y
 | _,_=>false
def zb0:List (List AV)→List (List AV)→Bool
 | [],[]=>true
 | a::x,b::y=>jW a b&&zb0 x y
 | _,_=>false
end
inductive Kind where
 | calm   -- looks at no memory
 | read
 | make
 | act
def y9:Op→Kind
 | .load ..|.lookup ..|.convert ..|.slice ..=>.read
 | .alloc _|.box ..|.buildSlice ..|.makeMap ..|.makeSlice ..=>.make
 | .store ..|.mapUpdate ..=>.act
 | .call c=>match c.callee with
   | .builtin .len|.builtin .max|.builtin .min=>.read
   | _=>.act
 | _=>.calm
structure Rec where
 o:Oper
 did:Bool
 E:Env
 H:Hp
 val:AV
 H':Hp
inductive ResD where
 | done (E:Env) (H:Hp) (rs:List Rec)
 | fail
def zdA (r:Rec):ResD→ResD
 | .done E H rs=>.done E H (r::rs)
 | .fail=>.fail
def jO (go:Env→Hp→ResD) (H:Hp):Option Env→ResD
 | some E=>go E H
 | none=>.fail
def zcN (ih:Task→Res) (f N:Nat) (all:List Oper):List Oper→Env→Hp→ResD
 | [],E,H=>.done E H []
 | o::rest,E,H=>match jj all E o with
   | true=>match yI P cfg ih f E H o.op with
     | .val v H'=>zdA ⟨o,true,E,H,v,H'⟩ (jO (zcN ih f N all rest) H' (zaB N E o.dst v))
     | _=>.fail
   | false=>zdA ⟨o,false,E,H,yp,H⟩ (jO (zcN ih f N all rest) H (zaB N E o.dst yp))
def preds (o:Oper):List Nat:=(o.after.toList.filter (Region.binds .any)).map (·.on)
def zjb:List Nat→List Nat→List Nat
 | acc,[]=>acc
 | acc,x::xs=>match acc.contains x with
   | true=>zjb acc xs
   | false=>zjb (x::acc) xs
def nub (l:List Nat):List Nat:=zjb [] l
def zbT:List Oper→List (List Nat)→List (List Nat)
 | [],acc=>acc
 | o::rest,acc=>zbT rest (acc++[nub (preds o++(preds o).flatMap fun i=>acc.getD i [])])
def znu (o:Oper):List Nat:=o.dst.toList++o.op.operands.toList.filterMap fun|.tmp t=>some t | _=>none
def zcr (all:List Oper) (o:Oper):List Nat:=znu o++(match o.guard with|some (j,_)=>((all[j]?).bind (·.dst)).toList|none=>[])
def zcs (o:Oper):Bool:=match y9 o.op with|.act=>true | _=>false
def zdG (o:Oper):Bool:=match y9 o.op with|.make=>true | _=>false
def clash (all:List Oper) (p q:Oper):Bool:=
 (zcs p&&(zcs q||zdG q)) ||
 (p.dst.toList.any fun d=>(zcr all q).contains d)||(q.dst.toList.any fun d=>(zcr all p).contains d)
def zeD (all:List Oper):Bool:=
 let A:=zbT all []
 (List.range all.length).all fun j=>match all[j]? with
   | none=>true
   | some q=>(preds q).all (·< j)&&(match q.guard with|some (g,_)=>(A.getD j []).contains g|none=>true) &&
     (List.range j).all fun i=>match all[i]? with
       | none=>true
       | some p=>!clash all p q||(A.getD j []).contains i
def za0 (ops:List Oper):List Nat:=(List.range ops.length).filter fun i=>match ops[i]? with
 | some o=>zcs o
 | none=>false
def zL (rs:List Rec) (H':Hp) (e:Nat):Hp:=match rs[e]? with
 | some r=>r.H
 | none=>H'
def HB.beq:HB→HB→Bool
 | .cells a i t,.cells b j u=>jW a b&&Nat.beq i j&&(t == u)
 | .map a,.map b=>jW (a.map (·.1)) (b.map (·.1))&&jW (a.map (·.2)) (b.map (·.2))
 | _,_=>false
def zc7 (r:Rec) (H:Hp):Bool:=
 match y9 r.o.op with
 | .read=>match yI P cfg (fun _=>.fail) 0 r.E H r.o.op with
   | .val v _=>AV.beq v r.val
   | _=>false
 | .make=>match H.get r.H.next,r.H'.get r.H.next with
   | some b,some b'=>HB.beq b b'
   | _,_=>false
 | _=>true
def zjO (A:List (List Nat)) (acts:List Nat) (i m:Nat):Bool:=
 !(acts.any (fun e=>(A.getD i []).contains e&&Nat.ble m e)||acts.any (fun e=>(A.getD e []).contains i&&Nat.blt e m))
def zdB (ops:List Oper):List (Nat×Nat):=
 (List.range ops.length).flatMap fun i=>match ops[i]? with
   | some o=>match y9 o.op with
     | .read|.make=>((za0 ops++[ops.length]).filter (zjO (zbT ops []) (za0 ops) i)).map fun m=>(i,m)
     | _=>[]
   | none=>[]
def zeR (need:List (Nat×Nat)) (rs:List Rec) (H':Hp):Bool:=
 rs.all (fun r=>Nat.ble r.H.next r.H'.next)&&need.all fun p=>match rs[p.1]? with
  | some r=>!r.did||zc7 P cfg r (zL rs H' p.2)
  | none=>true
def zan (ih:Task→Res) (f N:Nat) (ops:List Oper) (E:Env) (H:Hp):Res:=
 match zeD ops with
 | true=>match zcN P cfg ih f N ops ops E H with
   | .done E' H' rs=>match zeR P cfg (zdB ops) rs H' with
     | true=>.done .normal E' H'
     | false=>.fail
   | .fail=>.fail
 | false=>.fail
def zay:List Nat→Nat→Nat
 | [],_=>0
 | x::xs,i=>match Nat.beq x i with
   | true=>0
   | false=>zay xs i+1
def zgy (ord:List Nat) (o:Oper):Oper:=
 { o with after:=((o.after.toList.filter (Region.binds .any)).map fun e=>{ e with on:=zay ord e.on }).toArray,guard:=match o.guard with|some (j,b)=>some (zay ord j,b)|none=>none }
def zao (ord:List Nat) (l:List Oper):List Oper:=ord.filterMap fun i=>match l[i]? with
 | some o=>some (zgy ord o)
 | none=>none
def zkz (ord:List Nat) (l:List Oper):Bool:=
 Nat.beq ord.length l.length &&
 (List.range l.length).all (fun k=>(match ord[k]? with|some i=>Nat.blt i l.length&&Nat.beq (zay ord i) k|none=>false)&&Nat.blt (zay ord k) l.length&&(match ord[zay ord k]? with|some i=>Nat.beq i k|none=>false)) &&
 l.all (fun o=>(preds o).all (fun p=>Nat.blt p l.length)&&(match o.guard with|some (j,_)=>Nat.blt j l.length|none=>true))
def zcO (q p:Nat) (l:List Oper):List Oper:=match l[q]? with
 | some o=>l.set q { o with after:=o.after.push { on:=p,ground:=.data } }
 | none=>l
def T.beq {α:Type} (eq:α→α→Bool):T α→T α→Bool
 | .e,.e=>true
 | .n v l r,.n v' l' r'=>(match v,v' with|some a,some b=>eq a b|none,none=>true | _,_=>false)&&T.beq eq l l'&&T.beq eq r r'
 | _,_=>false
def zjP (ops:List Oper) (E1 E2:Env) (H1 H2:Hp):Bool:=
 ops.all (fun o=>match o.dst with|some d=>AV.beq (E1.at d) (E2.at d)|none=>true)&&Nat.beq H1.next H2.next&&T.beq HB.beq H1.t H2.t
def zhC (ops:List Oper):Res→Res→Res
 | .done .normal E1 H1,.done .normal E2 H2=>match zjP ops E1 E2 H1 H2 with
   | true=>.done .normal E1 H1
   | false=>.fail
 | _,_=>.fail
def jt (ih:Task→Res) (f N:Nat) (E:Env) (H:Hp):Plan→List Oper→Res
 | .text,ops=>zan P cfg ih f N ops E H
 | .perm ord,ops=>match zkz ord ops with
   | true=>zan P cfg ih f N (zao ord ops) E H
   | false=>.fail
 | .split p q a b,ops=>match Nat.beq p q with
   | true=>.fail
   | false=>zhC ops (jt ih f N E H a (zcO q p ops)) (jt ih f N E H b (zcO p q ops))
def yW (go:Env→Hp→Res) (H:Hp):Option Env→Res
 | some E=>go E H
 | none=>.fail
def j9 (ih:Task→Res) (f N:Nat) (all:List Oper) (ops:List Oper):Env→Hp→Res:=
 List.rec (motive:=fun _=>Env→Hp→Res) (fun E H=>.done .normal E H)
  (fun o _ go E H=>match jj all E o with
    | true=>match yI P cfg ih f E H o.op with
      | .val v H=>yW go H (zaB N E o.dst v)
      | _=>.fail
    | false=>yW go H (zaB N E o.dst yp)) ops
def zkA:Nat→Env
 | 0=>.e
 | d+1=>.n (some yp) (zkA d) (zkA d)
def zhD (N:Nat):Env:=zkA (Nat.log2 N+1)
def zO:Nat→List AV→Env→Env
 | _,[],E=>E
 | i,v::vs,E=>zO (i+1) vs (T.set E i (some v))
def yb (E:Env) (H:Hp):ResultVar→Option AV
 | .tmp t=>some (E.at t)
 | .cell a t=>zaZ P H t (E.at a)
def zQ (E:Env) (H:Hp):List ResultVar→Option (List AV)
 | []=>some []
 | r::rs=>match yb P E H r,zQ E H rs with
   | some v,some vs=>some (v::vs)
   | _,_=>none
def zp:List AV→AV
 | [v]=>v
 | vs=>.tup vs
def retA (rs:List ResultVar) (E:Env) (H:Hp):Res:=
 match zQ P E H rs with
 | some vs=>.val (zp vs) H
 | none=>.fail
def zaf (ih:Task→Res) (f:FuncId) (args:List AV) (H:Hp):Res:=
 match P.funcs[f]? with
 | some fn=>match fn.body with
   | some c=>match ih (.code f (max fn.ntmps args.length) c (zO 0 args (zhD (max fn.ntmps args.length))) H)with
     | .done .normal E H=>retA P fn.results.toList E H
     | .done .ret E H=>retA P fn.results.toList E H
     | _=>.fail
   | none=>.fail
 | none=>.fail
def zaQ (ih:Task→Res) (f N:Nat) (b:Code):Res→Res
 | .done .normal E H=>ih (.code f N b E H)
 | r=>r
def jy (id:Nat):Res→Res
 | .done (.exit id') E H=>match Nat.beq id' id with
   | true=>.done .normal E H
   | false=>.done (.exit id') E H
 | r=>r
def zb1 (ih:Task→Res) (f N:Nat) (x:Operand) (a b:Code) (E:Env) (H:Hp):Res:=
 match zn E x with
 | some (.bool true)=>ih (.code f N a E H)
 | some (.bool false)=>ih (.code f N b E H)
 | _=>.fail
def za1 (z:Nat):Nat→List AV→List (List AV)
 | 0,_=>[]
 | n+1,l=>l.take z::za1 z n (l.drop z)
def zb2 (g:AV→Hp→Option (AV×Hp)):List AV→Hp→Option (List AV×Hp)
 | [],H=>some ([],H)
 | c::cs,H=>match g c H with
   | some (d,H)=>match zb2 g cs H with
     | some (ds,H)=>some (d::ds,H)
     | none=>none
   | none=>none
def zc8:Nat→AV→Hp→Option (AV×Hp)
 | 0,_,_=>none
 | n+1,v,H=>match v with
   | .sl r off len z=>match H.get r with
     | some (.cells cs imm tip)=>match Nat.ble (off+len * z) cs.length&&Nat.ble imm cs.length with
       | true=>match zb2 (zc8 n) ((cs.drop off).take (len * z)) (H.set r (.cells cs (max imm (off+len * z)) tip))with
         | some (l,H)=>some (.lst (za1 z len l),H)
         | none=>none
       | false=>none
     | _=>none
   | .agg cs=>match zb2 (zc8 n) cs H with
     | some (ds,H)=>some (.agg ds,H)
     | none=>none
   | .ptr _ _=>none
   | .map _=>none
   | v=>some (v,H)
def zdH (ih:Task→Res) (f:FuncId) (args:List AV) (H:Hp):Option (List AV×Hp)→Res
 | some (asx,H')=>match cfg.call f asx with
   | some r=>.val r H'
   | none=>zaf P ih f args H
 | none=>zaf P ih f args H
def zfY:Bool→Res→Res
 | true,.val v H=>jZ (zc8 100 v H)
 | _,r=>r
def zaR (ih:Task→Res) (f:FuncId) (args:List AV) (H:Hp):Res:=match cfg.ice f with
 | true=>zdH P cfg ih f args H (zb2 (zc8 100) args H)
 | false=>zaf P ih f args H
def step (ih:Task→Res):Task→Res
 | .call f args H=>match cfg.call f args with
   | some r=>.val r H
   | none=>zfY (cfg.froz f) (zaR P cfg ih f args H)
 | .code f N c E H=>match c with
   | .skip=>.done .normal E H
   | .region id ops draw=>match draw with
     | false=>j9 P cfg ih f N ops.toList ops.toList E H
     | true=>jt P cfg ih f N E H (cfg.plan f id) ops.toList
   | .seq a b=>zaQ ih f N b (ih (.code f N a E H))
   | .cond x a b=>zb1 ih f N x a b E H
   | .block id a=>jy id (ih (.code f N a E H))
   | .loop a=>zaQ ih f N (.loop a) (ih (.code f N a E H))
   | .exit id=>.done (.exit id) E H
   | .ret=>.done .ret E H
   | _=>.fail
def ev (n:Nat):Task→Res:=Nat.rec (motive:=fun _=>Task→Res) (fun _=>.fail) (fun _ ih=>step P cfg ih) n
end
def H0:Hp:={ next:=0,t:=.e }
def iceL (g:AV→Option AV):List AV→Option (List AV)
 | []=>some []
 | c::cs=>match g c,iceL g cs with
   | some d,some ds=>some (d::ds)
   | _,_=>none
def zgz (g:AV→Option AV):List (List AV)→Option (List (List AV))
 | []=>some []
 | c::cs=>match iceL g c,zgz g cs with
   | some d,some ds=>some (d::ds)
   | _,_=>none
def iceV (H:Hp):Nat→AV→Option AV
 | 0,_=>none
 | n+1,v=>match v with
   | .sl r off len z=>match H.get r with
     | some (.cells cs _ _)=>match iceL (iceV H n) ((cs.drop off).take (len * z))with
       | some l=>if l.length=len * z then some (.lst (za1 z len l))else none
       | none=>none
     | _=>none
   | .lst xs=>match zgz (iceV H n) xs with
     | some ys=>some (.lst ys)
     | none=>none
   | .agg cs=>match iceL (iceV H n) cs with
     | some ds=>some (.agg ds)
     | none=>none
   | .tup cs=>match iceL (iceV H n) cs with
     | some ds=>some (.tup ds)
     | none=>none
   | .int k a=>some (.int k a)
   | .sx k e=>some (.sx k e)
   | .bool b=>some (.bool b)
   | .str s=>some (.str s)
   | .nilP=>some .nilP
   | .nilM=>some .nilM
   | .nilF=>some .nilF
   | .nilS=>some .nilS
   | _=>none
def zkB (P:Program) (cfg:Cfg) (n m:Nat) (f:FuncId) (args:List AV):Option AV:=
 match ev P cfg n (.call f args H0)with
 | .val v H=>iceV H m v
 | _=>none
def zbd (m:Nat) (args:List AV):Bool:=
 match iceL (iceV H0 m) args with
 | some asx=>jW asx args
 | none=>false
def zpH (P:Program) (cfg:Cfg) (n m:Nat) (f:FuncId) (args:List AV) (r:AV):Bool:=
 match zkB P cfg n m f args with
 | some q=>AV.beq q r
 | none=>false
def zhE:List (FuncId×List AV×AV)→FuncId→List AV→Option AV
 | [],_,_=>none
 | p::l,f,args=>match Nat.beq p.1 f with
   | true=>match jW p.2.1 args with
     | true=>some p.2.2
     | false=>zhE l f args
   | false=>zhE l f args
end
end Go.Ab
