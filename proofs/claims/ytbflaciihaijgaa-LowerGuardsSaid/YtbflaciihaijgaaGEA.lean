/- Lemmas for the last file. -/
import GoSem.Step
set_option linter.all false
set_option maxHeartbeats 32000000
namespace Go.Ab
abbrev qI:=List (Nat×Nat)
abbrev qG:=Array Oper
abbrev qD:=Option Nat
abbrev qA:=Option Bool
abbrev qu:=List Nat
abbrev qo:=List Oper
abbrev qn:=List UInt8
noncomputable section
open Go
inductive T (α:Type) where
 |e
 |n (v:Option α) (l r:T α)
def iV{o:Type}(b:Bool)(x y:o):o:=Bool.rec y x b
def T.get{o:Type}(t:T o):Nat->Option o:=
 T.rec (motive:=fun _=>Nat->Option o) (fun _=>none)
  (fun v _ _ V W k=>iV (Nat.beq k 0) v (iV (Nat.beq (Nat.mod k 2) 1) (V (Nat.div k 2)) (W (Nat.sub (Nat.div k 2) 1)))) t
def rx{o:Type}(v:Option o)(f:Nat):T o->Nat->T o:=
 Nat.rec (motive:=fun _=>T o->Nat->T o) (fun t _=>t)
  (fun _ ih t k=>T.casesOn t
    (iV (Nat.beq k 0) (.n v .e .e) (iV (Nat.beq (Nat.mod k 2) 1) (.n none (ih .e (Nat.div k 2)) .e) (.n none .e (ih .e (Nat.sub (Nat.div k 2) 1)))))
    (fun u l r=>iV (Nat.beq k 0) (.n v l r) (iV (Nat.beq (Nat.mod k 2) 1) (.n u (ih l (Nat.div k 2)) r) (.n u l (ih r (Nat.sub (Nat.div k 2) 1)))))) f
def T.set{o:Type}(t:T o)(k:Nat)(v:Option o):T o:=rx v (k+1) t k
inductive Sx where
 |var (i:Nat)
 |lit (n:Int)
 |bT (op:BinOp) (k:IntKind) (a b:Sx)
 |dk (k:IntKind) (a:Sx)
inductive AV where
 |int (k:IntKind) (n:Int)
 |sx (k:IntKind) (e:Sx)
 |bool (b:Bool)
 |ag (s:qn)
 |bl|a6|bz|aa
 |ptr (r:Nat) (off:Nat)
 |a2 (cs:List AV)
 |sl (r off len z:Nat)
 |aq (xs:List (List AV))
 |map (r:Nat)
 |a9 (f:Nat) (cap:List AV)
 |agg (cs:List AV)
 |aO (vs:List AV)
abbrev qJ:=List (AV×AV)
abbrev qE:=List (Nat×AV)
abbrev qr:=Option AV
abbrev ql:=List AV
inductive HB where
 |cells (cs:ql) (imm:Nat) (tip:Bool)
 |map (es:qJ)
structure Hp where
 next:Nat
 t:T HB
def Hp.get(h:Hp)(r:Nat):Option HB:=h.t.get r
def Hp.set(h:Hp)(r:Nat)(b:HB):Hp:={next:=h.next,t:=h.t.set r (some b) }
def Hp.aU(h:Hp)(r:Nat):Hp:={next:=h.next,t:=h.t.set r none}
def Hp.alloc(h:Hp)(b:HB):Hp:={next:=h.next+1,t:=h.t.set h.next (some b) }
inductive zai where
 |text
 |b2 (ord:qu)
 |split (p q:Nat) (a b:zai)
structure Cfg where
 keep:FuncId->Bool
 b9:BinOp->Sx->Sx->qA:=fun _ _ _=>none
 call:FuncId->ql->qr:=fun _ _=>none
 aF:FuncId->Bool:=fun _=>false
 bM:FuncId->Nat->zai:=fun _ _=>.text
 ak:FuncId->Bool:=fun _=>false
abbrev ax:=T AV
def cT:AV:=.aO []
def ax.at(E:ax)(t:Nat):AV:=(T.get E t).getD cT
def uC:Value->qr
 | .int k n=>some (.int k n)
 | .bool b=>some (.bool b)
 | .string s=>some (.ag s.data.toList)
 | .pointer none=>some .bl
 | .slice none 0 0=>some .aa
 | .map none=>some .a6
 | .nilFunc=>some .bz
 |_=>none
def s8:Value->qr
 | .agg cs=>(cs.toList.mapM uC).map .agg
 |v=>uC v
def aH(E:ax):Operand->qr
 | .tmp t=>some (E.at t)
 | .const v=>s8 v
 | .global _=>none
 | .func f=>some (.a9 f [])
def fA(E:ax):List Operand->Option ql
 |[]=>some []
 |x::xs=>match aH E x,fA E xs with
  |some v,some vs=>some (v::vs)
  |_,_=>none
def AV.cells:AV->ql
 | .agg cs=>cs
 |v=>[v]
def AV.one:AV->Bool
 | .agg _|.aO _=>false
 |_=>true
section
variable (P:Program)
def br(t:TypeId):qD:=(P.info? t).map (·.size)
def cw(t:TypeId):qD:=(P.info? t).map (·.bytes)
def n1(t:TypeId):qr:=
 match P.info? t with
 |some {zero:=some z,.. }=>s8 z
 |_=>none
def cj(t:TypeId):Option ql:=
 match n1 P t with
 |some v=>some v.cells
 |none=>none
def cn(t:TypeId)(cs:ql)(off:Nat):qr:=
 match P.underlying t with
 |some (.struct _)|some (.array _ _)=>
  match br P t with
  |some s=>let l:=(cs.drop off).take s;if l.length=s then some (.agg l)else none
  |none=>none
 |some _=>cs[off]?
 |none=>none
def eR(H:Hp)(t:TypeId):AV->qr
 | .ptr r J=>match H.get r with
   |some (.cells cs _ _)=>cn P t cs J
   |_=>none
 | .a2 cs=>cn P t cs 0
 |_=>none
def splice(cs:ql)(off:Nat)(J:ql):ql:=cs.take off++J++cs.drop (off+J.length)
def ky(H:Hp)(t:TypeId)(a v:AV):Option Hp:=
 match a with
 | .ptr r J=>match H.get r,br P t with
   |some (.cells cs m o),some s=>
    if v.cells.length=s/\m<=J/\J+s<=cs.length/\v.cells.all AV.one then some (H.set r (.cells (splice cs J v.cells) m o))else none
   |_,_=>none
 |_=>none
def o0(t:TypeId)(a:AV)(i:Nat):qr:=
 match P.underlying t with
 |some (.struct M)=>match M[i]? with
  |some f=>match br P f.type with
   |some (_+1)=>match a with
    | .ptr r J=>some (.ptr r (J+f.offset))
    | .a2 cs=>some (.a2 (cs.drop f.offset))
    |_=>none
   |_=>none
  |none=>none
 |_=>none
def ry(t:TypeId)(x:AV)(i:Nat):qr:=
 match P.underlying t,x with
 |some (.struct M),.agg cs=>match M[i]? with
  |some f=>cn P f.type cs f.offset
  |none=>none
 |_,_=>none
def Wp(n:Int):qD:=match n with|.ofNat k=>some k |_=>none
def dZ(t:TypeId)(x i:AV):qr:=
 match i with
 | .int _ (.ofNat k)=>match P.underlying t with
   |some (.slice e)=>match br P e with
    |some s=>match x with
     | .sl r J W _=>if k<W then some (.ptr r (J+k*s))else none
     | .aq Y=>match Y[k]? with
       |some I=>if I.length=s then some (.a2 I)else none
       |none=>none
     |_=>none
    |none=>none
   |some (.array n e)=>match br P e with
    |some s=>match x with
     | .ptr r J=>if k<n then some (.ptr r (J+k*s))else none
     |_=>none
    |none=>none
   |_=>none
 |_=>none
def mr(t:TypeId)(x i:AV):qr:=
 match i with
 | .int _ (.ofNat k)=>match P.underlying t,x with
   |some .string,.ag s=>match s[k]? with
    |some b=>some (.int .u8 b.toNat)
    |none=>none
   |some (.array n e),.agg cs=>if k<n then (match br P e with|some s=>cn P e cs (k*s)|none=>none)else none
   |_,_=>none
 |_=>none
def eS(d:Nat):qr->qD
 |none=>some d
 |some (.int _ (.ofNat k))=>some k
 |some _=>none
def g8(t:TypeId)(x:AV)(lo J:qr):qr:=
 match P.underlying t,x with
 |some .string,.ag s=>
  match eS 0 lo,eS s.length J with
  |some l,some h=>if l<=h/\h<=s.length then some (.ag ((s.drop l).take (h-l)))else none
  |_,_=>none
 |some (.slice e),x=>match br P e with
  |some z=>match x with
   | .sl r Z W V=>match eS 0 lo,eS W J with
     |some l,some h=>if l<=h/\h<=W/\V=z then (if l=h then some (.aq [])else some (.sl r (Z+l*z) (h-l) z))else none
     |_,_=>none
   | .aq Y=>match eS 0 lo,eS Y.length J with
     |some l,some h=>if l<=h/\h<=Y.length then (match (Y.drop l).take (h-l)with
      |[]=>some (.aq [])
      |row::rows=>if row.length=z then some (.aq (row::rows))else none)else none
     |_,_=>none
   | .aa=>match eS 0 lo,eS 0 J with
     |some 0,some 0=>some .aa
     |_,_=>none
   |_=>none
  |none=>none
 |_,_=>none
def lc(H:Hp)(t:TypeId)(x:AV)(lo Z:qr):qr:=
 match x with
 | .ptr r J=>match P.underlying t,H.get r with
   |some (.array n e),some (.cells cs _ _)=>match br P e,eS 0 lo,eS n Z with
    |some z,some l,some h=>if l<=h/\h<=n/\J+n*z<=cs.length then (if l=h then some (.aq [])else some (.sl r (J+l*z) (h-l) z))else none
    |_,_,_=>none
   |_,_=>none
 |x=>g8 P t x lo Z
def mV(J:Nat->Option (Nat×Nat))(cells:ql):qE->Option ql
 |[]=>some cells
 |(i,v)::rest=>match J i with
  |none=>none
  |some (Z,o)=>if v.cells.length≠o\/Z+v.cells.length > cells.length then none else mV J (splice cells Z v.cells) rest
def iW(E:ax):List (Nat×Operand)->Option qE
 |[]=>some []
 |(i,x)::rest=>match aH E x,iW E rest with
  |some v,some vs=>some ((i,v)::vs)
  |_,_=>none
def C9(M:List Field):Option qI:=M.mapM fun f=>(P.info? f.type).map fun i=>(f.offset,i.size)
def dF(t:TypeId)(U:qE):qr:=
 match cj P t,P.underlying t with
 |some z,some (.struct M)=>match C9 P M.toList with
  |some Z=>match mV (fun i=>Z[i]?) z U with
   |some cs=>some (.agg cs)
   |none=>none
  |none=>none
 |some z,some (.array _ e)=>match br P e with
  |some s=>match mV (fun i=>some (i*s,s)) z U with
   |some cs=>some (.agg cs)
   |none=>none
  |none=>none
 |_,_=>none
def jf(z:ql):Nat->ql
 |0=>[]
 |n+1=>z++jf z n
def ec(H:Hp)(t:TypeId)(len:Nat)(U:qE):Option (AV×Hp):=
 match P.underlying t with
 |some (.slice e)=>match br P e,cj P e with
  |some s,some z=>if len*s<=16777216/\z.length=s then (match mV (fun i=>some (i*s,s)) (jf z len) U with
   |some cs=>some (.sl H.next 0 len s,H.alloc (.cells cs 0 true))
   |none=>none)else none
  |_,_=>none
 |_=>none
def cX:Nat:=70368744177664   -- 2^46
def eF(H:Hp)(s:Nat):AV->Option (Nat×ql)
 | .sl r J W _=>match H.get r with
   |some (.cells cs _ _)=>let l:=(cs.drop J).take (W*s);if l.length=W*s then some (W,l)else none
   |_=>none
 | .aq Y=>if Y.all (fun I=>I.length == s)then some (Y.length,Y.flatten)else none
 | .aa=>some (0,[])
 | .ag b=>if s=1 then some (b.length,b.map fun x=>.int .u8 x.toNat)else none
 |_=>none
def lh(keep:Bool)(H:Hp)(s b:Nat)(Y:AV)(n:Nat)(Z:ql):Option (AV×Hp):=
 match Y with
 | .aa=>if n*b<=cX/\n<=cX then some (.sl H.next 0 n s,H.alloc (.cells Z 0 true))else none
 | .sl r J W z=>match H.get r with
   |some (.cells cs m true)=>
    if (W+n)*b<=cX/\W+n<=cX/\J+W*s=cs.length/\z=s/\m<=cs.length then
     (if keep then some (.sl H.next 0 (W+n) s,(H.set r (.cells cs cs.length false)).alloc (.cells (cs.drop J++Z) (W*s) true))
      else some (.sl H.next 0 (W+n) s,(H.aU r).alloc (.cells (cs.drop J++Z) (m-J) true)))
    else none
   |_=>none
 |_=>none
def fN(keep:Bool)(H:Hp)(s:Nat):AV->Hp
 | .sl r J W _=>match H.get r with
   |some (.cells cs m true)=>match !keep&&Nat.blt (J+W*s) cs.length&&Nat.ble m (J+W*s)with
    |true=>H.set r (.cells (cs.take (J+W*s)) m true)
    |false=>H
   |_=>H
 |_=>H
def hB(t:TypeId):Bool:=
 match P.underlying t with
 |some (.slice _)|some .string=>true
 |_=>false
def Da(keep:Bool)(H:Hp)(s b:Nat)(z:ql)(u:TypeId)(Z x:AV):Option (AV×Hp):=
 match P.underlying u,x with
 |some (.int _),.int _ (.ofNat m)=>
  if m*b<=cX/\m<=cX/\z.length=s/\z.all AV.one=true then
   (match m with
   |0=>(match Z with
    | .sl ..|.aq _|.aa=>some (Z,H)
    |_=>none)
   |m+1=>lh keep (fN keep H s Z) s b Z (m+1) (jf z (m+1)))
  else none
 |_,_=>none
def cY(keep:Bool)(H:Hp)(t u:TypeId)(Z x:AV):Option (AV×Hp):=
 match P.underlying t with
 |some (.slice e)=>match br P e,cw P e,cj P e with
  |some s,some b,some z=>match hB P u,eF H s x with
   |true,some (0,_)=>match Z with
    | .sl ..|.aq _|.aa=>some (Z,H)
    |_=>none
   |true,some (n,J)=>if J.all AV.one/\z.length=s then lh keep (fN keep H s Z) s b Z n J else none
   |_,_=>Da P keep H s b z u Z x
  |_,_,_=>none
 |_=>none
def li(C:TypeDesc)(x y:AV):qA:=
 match C with
 | .int _=>match x,y with
   | .int k a,.int k' b=>if k=k' then some (a == b)else none
   |_,_=>none
 | .string=>match x,y with
   | .ag a,.ag b=>some (a == b)
   |_,_=>none
 | .bool=>match x,y with
   | .bool a,.bool b=>some (a == b)
   |_,_=>none
 |_=>none
def jS(t:TypeId):Option TypeDesc:=
 match P.underlying t with
 |some (.int k)=>some (.int k)
 |some .string=>some .string
 |some .bool=>some .bool
 |_=>none
def dG(C:TypeDesc)(k:AV):qJ->Nat->Option (Option (Nat×AV))
 |[],_=>some none
 |(k',v)::es,i=>match li C k k' with
  |some true=>some (some (i,v))
  |some false=>dG C k es (i+1)
  |none=>none
def rz(H:Hp):AV->Option qJ
 | .a6=>some []
 | .map r=>match H.get r with
   |some (.map z)=>some z
   |_=>none
 |_=>none
def uD(ok:Bool)(v:AV)(Y:Bool):AV:=match ok with
 |true=>.aO [v,.bool Y]
 |false=>v
def gG(H:Hp)(t:TypeId)(m k:AV)(ok:Bool):qr:=
 match P.underlying t with
 |some (.map Z e)=>match rz H m,jS P Z with
  |some z,some C=>match dG C k z 0 with
   |some (some (_,v))=>some (uD ok v true)
   |some none=>match n1 P e with
    |some v=>some (uD ok v false)
    |none=>none
   |none=>none
  |_,_=>none
 |_=>none
def kz(H:Hp)(t:TypeId)(m k v:AV):Option Hp:=
 match P.underlying t with
 |some (.map Z _)=>match m,jS P Z with
  | .map r,some C=>match H.get r with
    |some (.map z)=>match dG C k z 0 with
     |some (some (i,_))=>some (H.set r (.map (z.set i (k,v))))
     |some none=>some (H.set r (.map (z++[(k,v)])))
     |none=>none
    |_=>none
  |_,_=>none
 |_=>none
def o7:qn->qn->Bool
 |_,[]=>false
 |[],_::_=>true
 |a::x,b::y=>a<b||(a == b&&o7 x y)
def hO(op:BinOp)(k:IntKind)(a b:Int):qr:=
 match op with
 | .add=>some (.int k (k.wrap (a+b)))
 | .sub=>some (.int k (k.wrap (a-b)))
 | .mul=>some (.int k (k.wrap (a*b)))
 | .quo=>if b=0 then none else some (.int k (k.wrap (a.tdiv b)))
 | .rem=>if b=0 then none else some (.int k (a.tmod b))
 | .and=>some (.int k (k.wrap (BitVec.ofInt k.bits a &&& BitVec.ofInt k.bits b).toNat))
 | .or=>some (.int k (k.wrap (BitVec.ofInt k.bits a |||BitVec.ofInt k.bits b).toNat))
 | .xor=>some (.int k (k.wrap (BitVec.ofInt k.bits a^^^ BitVec.ofInt k.bits b).toNat))
 | .andNot=>some (.int k (k.wrap (BitVec.ofInt k.bits a &&& ~~~ BitVec.ofInt k.bits b).toNat))
 | .eql=>some (.bool (a == b))
 | .neq=>some (.bool (a != b))
 | .lss=>some (.bool (a<b))
 | .leq=>some (.bool (a<=b))
 | .gtr=>some (.bool (a > b))
 | .geq=>some (.bool (a>=b))
 |_=>none
def zR(op:BinOp)(k:IntKind)(a b:Int):Int:=
 match hO op k a b with
 |some (.int _ n)=>n
 |_=>0
def Sx.eval(ρ:Nat->Int):Sx->Int
 | .var i=>ρ i
 | .lit n=>n
 | .bT m k a b=>zR m k (a.eval ρ) (b.eval ρ)
 | .dk k a=>k.wrap (a.eval ρ)
def wC:AV->Option (IntKind×Sx)
 | .int k n=>some (k,.lit n)
 | .sx k e=>some (k,e)
 |_=>none
def zS(D:BinOp->Sx->Sx->qA)(op:BinOp)(k:IntKind)(a b:Sx):qr:=
 match op with
 | .add=>some (.sx k (.bT .add k a b))
 | .sub=>some (.sx k (.bT .sub k a b))
 | .mul=>some (.sx k (.bT .mul k a b))
 | .and=>some (.sx k (.bT .and k a b))
 | .or=>some (.sx k (.bT .or k a b))
 | .xor=>some (.sx k (.bT .xor k a b))
 | .andNot=>some (.sx k (.bT .andNot k a b))
 | .quo=>match D .eql b (.lit 0)with
   |some false=>some (.sx k (.bT .quo k a b))
   |_=>none
 | .rem=>match D .eql b (.lit 0)with
   |some false=>some (.sx k (.bT .rem k a b))
   |_=>none
 | .shl=>none
 | .shr=>none
 |op=>match D op a b with
  |some r=>some (.bool r)
  |none=>none
def wD(D:BinOp->Sx->Sx->qA)(op:BinOp)(x y:AV):qr:=
 match wC x,wC y with
 |some (k,a),some (k',b)=>if k=k' then zS D op k a b else none
 |_,_=>none
def uE(op:BinOp)(a b:qn):qr:=
 match op with
 | .add=>if a.length+b.length<=cX then some (.ag (a++b))else none
 | .eql=>some (.bool (a == b))
 | .neq=>some (.bool !(a == b))
 | .lss=>some (.bool (o7 a b))
 | .leq=>some (.bool (o7 a b||a == b))
 | .gtr=>some (.bool !(o7 a b||a == b))
 | .geq=>some (.bool !(o7 a b))
 |_=>none
def wE(t:TypeId)(x y:AV):qA:=
 match P.underlying t with
 |some .bool=>match x,y with
  | .bool a,.bool b=>some (a == b)
  |_,_=>none
 |some (.pointer _)=>match x,y with
  | .bl,.bl=>some true
  | .ptr _ _,.bl|.bl,.ptr _ _|.a2 _,.bl|.bl,.a2 _=>some false
  |_,_=>none
 |some (.map _ _)=>match x,y with
  | .a6,.a6=>some true
  | .map _,.a6|.a6,.map _=>some false
  |_,_=>none
 |some (.func _ _ _)=>match x,y with
  | .bz,.bz=>some true
  | .a9 _ _,.bz|.bz,.a9 _ _=>some false
  |_,_=>none
 |some (.slice _)=>match x,y with
  | .aa,.aa=>some true
  | .sl _ _ _ _,.aa|.aa,.sl _ _ _ _|.aq (_::_),.aa|.aa,.aq (_::_)=>some false
  |_,_=>none
 |_=>none
def zT(t:TypeId)(x y:AV):qA:=
 match x,y with
 | .int k a,.int k' b=>match P.underlying t with
   |some (.int _)=>if k=k' then some (a == b)else none
   |_=>none
 | .ag a,.ag b=>match P.underlying t with
   |some .string=>some (a == b)
   |_=>none
 |x,y=>wE P t x y
def s9(xs L:ql):List Field->qA
 |[]=>some true
 |f::fs=>match f.name == "_" with
  |true=>s9 xs L fs
  |false=>match cn P f.type xs f.offset,cn P f.type L f.offset with
   |some a,some b=>match zT P f.type a b with
    |some true=>s9 xs L fs
    |some false=>some false
    |none=>none
   |_,_=>none
def wF(t:TypeId)(xs L:ql):qA:=
 match P.underlying t with
 |some (.struct M)=>match P.stoodInHeld t||P.eqGuardType P.depth t with
  |true=>none
  |false=>s9 P xs L M.toList
 |_=>none
def rA(t:TypeId)(x y:AV):qA:=
 match x,y with
 | .agg Y,.agg L=>wF P t Y L
 |x,y=>wE P t x y
def ta(op:BinOp)(k:IntKind)(a b:Int):qr:=
 match b with
 | .ofNat m=>match op with
   | .shl=>some (.int k (k.wrap (a*2^ min m k.bits)))
   | .shr=>some (.int k (a.fdiv (2^ min m k.bits)))
   |_=>none
 |_=>none
def pe(op:BinOp)(k M:IntKind)(a b:Int):qr:=
 match op with
 | .shl=>ta .shl k a b
 | .shr=>ta .shr k a b
 |op=>if k=M then hO op k a b else none
def zU(op:BinOp)(t:TypeId)(x y:AV):qr:=
 match op with
 | .eql=>match rA P t x y with
   |some b=>some (.bool b)
   |none=>none
 | .neq=>match rA P t x y with
   |some b=>some (.bool !b)
   |none=>none
 |_=>none
def dw(D:BinOp->Sx->Sx->qA)(op:BinOp)(t:TypeId)(x y:AV):qr:=
 match x,y with
 | .int k a,.int k' b=>pe op k k' a b
 | .ag a,.ag b=>uE op a b
 | .sx k a,y=>wD D op (.sx k a) y
 | .int k a,.sx k' b=>wD D op (.int k a) (.sx k' b)
 |x,y=>zU P op t x y
def ph(op:UnOp)(x:AV):qr:=
 match op,x with
 | .neg,.sx k e=>some (.sx k (.bT .sub k (.lit 0) e))
 | .xor,.sx k e=>some (.sx k (.bT .xor k (.lit (if k.signed then -1 else k.max)) e))
 | .neg,.int k n=>hO .sub k 0 n
 | .xor,.int k n=>hO .xor k (if k.signed then -1 else k.max) n
 | .not,.bool b=>some (.bool !b)
 |_,_=>none
def rB:ql->Option qn
 |[]=>some []
 | .int .u8 n::cs=>match rB cs with
   |some bs=>some (UInt8.ofNat n.toNat::bs)
   |none=>none
 |_=>none
def fB(H:Hp)(C V:TypeId)(x:AV):qr:=
 match P.underlying C,P.underlying V with
 |some (.slice e),some .string=>match P.underlying e with
  |some (.int .u8)=>match eF H 1 x with
   |some (_,cs)=>match rB cs with
    |some bs=>match x with
     | .sl _ _ _ _|.aa=>some (.ag bs)
     |_=>none
    |none=>none
   |none=>none
  |_=>none
 |some _,some (.int k)=>match x with
  | .int _ n=>some (.int k (k.wrap n))
  | .sx _ e=>some (.sx k (.dk k e))
  |_=>none
 |some .string,some .string=>match x with
  | .ag s=>some (.ag s)
  |_=>none
 |_,_=>none
def mw(H:Hp)(t:TypeId)(l c:AV):Option (AV×Hp):=
 match P.underlying t,l,c with
 |some (.slice e),.int _ (.ofNat l),.int _ (.ofNat c)=>match br P e,cw P e,cj P e with
  |some s,some b,some z=>if l<=c/\c*b<=cX/\c<=cX/\z.length=s then some (.sl H.next 0 l s,H.alloc (.cells (jf z l) 0 true))else none
  |_,_,_=>none
 |_,_,_=>none
def extract(x:AV)(i:Nat):qr:=
 match x with
 | .aO vs=>vs[i]?
 |_=>none
def mm(I:Bool):AV->AV->qr
 | .int k x,.int _ y=>some (.int k (if (if I then decide (y > x)else decide (y<x))then y else x))
 |_,_=>none
def pi(I:Bool)(x:AV):ql->qr
 |[]=>some x
 |y::ys=>match mm I x y with
  |some z=>pi I z ys
  |none=>none
def gh(H:Hp)(t:TypeId)(x:AV):qr:=
 match P.underlying t with
 |some .string=>match x with
  | .ag s=>some (.int .i64 s.length)
  |_=>none
 |some (.slice _)=>match x with
  | .sl _ _ n _=>some (.int .i64 n)
  | .aq Y=>some (.int .i64 Y.length)
  | .aa=>some (.int .i64 0)
  |_=>none
 |some (.array n _)=>some (.int .i64 n)
 |some (.map _ _)=>match rz H x with
  |some z=>some (.int .i64 z.length)
  |none=>none
 |_=>none
def mW(keep:Bool)(H:Hp)(b:Builtin)(ts:List TypeId)(C:ql):Option (AV×Hp):=
 match b with
 | .append=>match ts,C with
   |[t,u],[s,x]=>cY P keep H t u s x
   |_,_=>none
 | .len=>match ts,C with
   |[t],[x]=>match gh P H t x with
    |some v=>some (v,H)
    |none=>none
   |_,_=>none
 | .max=>match C with
   |x::xs=>match pi true x xs with
    |some v=>some (v,H)
    |none=>none
   |[]=>none
 | .min=>match C with
   |x::xs=>match pi false x xs with
    |some v=>some (v,H)
    |none=>none
   |[]=>none
 |_=>none
def ret(H:Hp):qr->Option (AV×Hp)
 |some v=>some (v,H)
 |none=>none
def wG(E:ax)(H:Hp)(c a b:Operand):Option (AV×Hp):=
 match aH E c with
 |some (.bool true)=>ret H (aH E a)
 |some (.bool false)=>ret H (aH E b)
 |_=>none
def uF(H:Hp)(t:TypeId):Option (AV×Hp):=
 match cj P t with
 |some z=>some (.ptr H.next 0,H.alloc (.cells z 0 true))
 |none=>none
def uG(E:ax)(H:Hp)(x:Operand):Option (AV×Hp):=
 match aH E x with
 |some v=>some (.ptr H.next 0,H.alloc (.cells v.cells 0 true))
 |none=>none
def wH(E:ax)(H:Hp)(t:TypeId)(U:Array (Nat×Operand)):Option (AV×Hp):=
 match iW E U.toList with
 |some o=>ret H (dF P t o)
 |none=>none
def uH(E:ax)(H:Hp)(t:TypeId)(len:Nat)(U:Array (Nat×Operand)):Option (AV×Hp):=
 match iW E U.toList with
 |some o=>ec P H t len o
 |none=>none
def uI(E:ax)(H:Hp)(t:TypeId)(a:Operand):Option (AV×Hp):=
 match aH E a with
 |some v=>ret H (eR P H t v)
 |none=>none
def wI(E:ax)(H:Hp)(t:TypeId)(a x:Operand):Option (AV×Hp):=
 match aH E a,aH E x with
 |some a,some x=>match ky P H t a x with
  |some H=>some (cT,H)
  |none=>none
 |_,_=>none
def wJ(E:ax)(H:Hp)(x:Operand):Option (AV×Hp):=
 match aH E x with
 |some (.ptr r o)=>some (.ptr r o,H)
 |some (.a2 cs)=>some (.a2 cs,H)
 |_=>none
def wK(D:BinOp->Sx->Sx->qA)(E:ax)(H:Hp)(op:BinOp)(t:TypeId)(x y:Operand):Option (AV×Hp):=
 match aH E x,aH E y with
 |some x,some y=>ret H (dw P D op t x y)
 |_,_=>none
def wL(E:ax)(H:Hp)(op:UnOp)(x:Operand):Option (AV×Hp):=
 match aH E x with
 |some x=>ret H (ph op x)
 |none=>none
def uJ(E:ax)(H:Hp)(s d:TypeId)(x:Operand):Option (AV×Hp):=
 match aH E x with
 |some x=>ret H (fB P H s d x)
 |none=>none
def wM(E:ax)(H:Hp)(M:Fn)(first I:Array Operand):Option (AV×Hp):=
 match M,first.toList,fA E I.toList with
 | .func f,[],some vs=>some (.a9 f vs,H)
 |_,_,_=>none
def uK(H:Hp)(r:Option Operand):Option (AV×Hp):=
 match r with
 |none=>some (.map H.next,H.alloc (.map []))
 |some _=>none
def uL(E:ax)(H:Hp)(t:TypeId)(l c:Operand):Option (AV×Hp):=
 match aH E l,aH E c with
 |some l,some c=>mw P H t l c
 |_,_=>none
def iA(E:ax):Option Operand->Option qr
 |none=>some none
 |some x=>match aH E x with
  |some v=>some (some v)
  |none=>none
def uM(E:ax)(H:Hp)(t:TypeId)(x:Operand)(lo J I:Option Operand):Option (AV×Hp):=
 match I,aH E x,iA E lo,iA E J with
 |none,some x,some l,some h=>ret H (lc P H t x l h)
 |_,_,_,_=>none
def wN(E:ax)(H:Hp)(t:TypeId)(x:Operand)(f:Nat):Option (AV×Hp):=
 match aH E x with
 |some x=>ret H (o0 P t x f)
 |none=>none
def wO(E:ax)(H:Hp)(t:TypeId)(x:Operand)(f:Nat):Option (AV×Hp):=
 match aH E x with
 |some x=>ret H (ry P t x f)
 |none=>none
def wP(E:ax)(H:Hp)(t:TypeId)(x i:Operand):Option (AV×Hp):=
 match aH E x,aH E i with
 |some x,some i=>ret H (dZ P t x i)
 |_,_=>none
def wQ(E:ax)(H:Hp)(t:TypeId)(x i:Operand):Option (AV×Hp):=
 match aH E x,aH E i with
 |some x,some i=>ret H (mr P t x i)
 |_,_=>none
def uN(E:ax)(H:Hp)(t:TypeId)(m k:Operand)(ok:Bool):Option (AV×Hp):=
 match aH E m,aH E k with
 |some m,some k=>ret H (gG P H t m k ok)
 |_,_=>none
def wR(E:ax)(H:Hp)(t:TypeId)(m k v:Operand):Option (AV×Hp):=
 match aH E m,aH E k,aH E v with
 |some m,some k,some v=>match kz P H t m k v with
  |some H=>some (cT,H)
  |none=>none
 |_,_,_=>none
def wS(E:ax)(H:Hp)(x:Operand)(i:Nat):Option (AV×Hp):=
 match aH E x with
 |some x=>ret H (extract x i)
 |none=>none
def cA(D:BinOp->Sx->Sx->qA)(E:ax)(H:Hp)(op:Op):Option (AV×Hp):=
 match op with
 | .move x=>ret H (aH E x)
 | .assign x=>ret H (aH E x)
 | .pick c a b=>wG E H c a b
 | .alloc t=>uF P H t
 | .box _ x=>uG E H x
 | .build t U=>wH P E H t U
 | .buildSlice t W U=>uH P E H t W U
 | .load t a=>uI P E H t a
 | .store t a x=>wI P E H t a x
 | .nilCheck x=>wJ E H x
 | .binOp op t x y _=>wK P D E H op t x y
 | .unOp op _ x=>wL E H op x
 | .convert s d x=>uJ P E H s d x
 | .makeFunc M first I=>wM E H M first I
 | .makeMap _ r=>uK H r
 | .makeSlice t l c=>uL P E H t l c
 | .slice t x lo J Z=>uM P E H t x lo J Z
 | .fieldAddr t x f=>wN P E H t x f
 | .field t x f=>wO P E H t x f
 | .indexAddr t x i=>wP P E H t x i
 | .index t x i=>wQ P E H t x i
 | .lookup t m k ok=>uN P E H t m k ok
 | .mapUpdate t m k v=>wR P E H t m k v
 | .extract x i=>wS E H x i
 |_=>none
inductive zac where
 |aw (f:FuncId) (N:Nat) (c:Code) (E:ax) (H:Hp)
 |call (f:FuncId) (args:ql) (H:Hp)
inductive AX where
 |normal|exit (id:Nat)|ret
inductive Res where
 |done (x:AX) (E:ax) (H:Hp)
 |val (v:AV) (H:Hp)
 |aM
def dH(N:Nat)(E:ax)(V:Option Tmp)(v:AV):Option ax:=
 match V with
 |some d=>match Nat.blt d N with
  |true=>some (T.set E d (some v))
  |false=>none
 |none=>some E
def wT(ops:qo)(E:ax)(j:Nat):qA:=
 match (ops[j]?).bind (·.dst)with
 |some d=>match E.at d with|.bool b=>some b |_=>none
 |none=>none
def gH(ops:qo)(E:ax)(o:Oper):Bool:=
 match o.guard with
 |none=>true
 |some (j,L)=>match wT ops E j with
  |some b=>b == L
  |none=>false
variable (cfg:Cfg)
def pj(ih:zac->Res)(f:FuncId)(E:ax)(H:Hp)(c:Call):Res:=
 match c.callee with
 | .value g=>match aH E g,fA E c.args.toList with
   |some (.a9 k O),some vs=>ih (.call k (vs++O) H)
   |_,_=>.aM
 | .builtin b=>match fA E c.args.toList with
   |some vs=>match mW P (cfg.keep f) H b c.argTypes.toList vs with
    |some (v,H)=>.val v H
    |none=>.aM
   |none=>.aM
 |_=>.aM
def eA:Option (AV×Hp)->Res
 |some (v,H)=>.val v H
 |none=>.aM
def cZ(ih:zac->Res)(f:FuncId)(E:ax)(H:Hp)(op:Op):Res:=
 match op with
 | .call c=>pj P cfg ih f E H c
 |op=>eA (cA P cfg.b9 E H op)
def Sx.beq:Sx->Sx->Bool
 | .var i,.var j=>Nat.beq i j
 | .lit a,.lit b=>a == b
 | .bT o k a b,.bT J k' W b'=>decide (o=J)&&decide (k=k')&&Sx.beq a W&&Sx.beq b b'
 | .dk k a,.dk k' b=>decide (k=k')&&Sx.beq a b
 |_,_=>false
mutual
def AV.beq:AV->AV->Bool
 | .int k a,.int k' b=>decide (k=k')&&(a == b)
 | .sx k a,.sx k' b=>decide (k=k')&&Sx.beq a b
 | .bool a,.bool b=>a == b
 | .ag a,.ag b=>a == b
 | .bl,.bl|.a6,.a6|.bz,.bz|.aa,.aa=>true
 | .ptr r o,.ptr Z J=>Nat.beq r Z&&Nat.beq o J
 | .a2 a,.a2 b=>jg a b
 | .sl r o l z,.sl Z J O Y=>Nat.beq r Z&&Nat.beq o J&&Nat.beq l O&&Nat.beq z Y
 | .aq a,.aq b=>rC a b
 | .map r,.map Z=>Nat.beq r Z
 | .a9 f a,.a9 W b=>Nat.beq f W&&jg a b
 | .agg a,.agg b=>jg a b
 | .aO a,.aO b=>jg a b
 |_,_=>false
def jg:ql->ql->Bool
 |[],[]=>true
 |a::x,b::y=>AV.beq a b&&jg x y
 |_,_=>false
def rC:List ql->List ql->Bool
 |[],[]=>true
 |a::x,b::y=>jg a b&&rC x y
 |_,_=>false
end
inductive Kind where
 |calm   -- looks at no memory
 |read
 |make
 |cO
def eB:Op->Kind
 | .load ..|.lookup ..|.convert ..|.slice ..=>.read
 | .alloc _|.box ..|.buildSlice ..|.makeMap ..|.makeSlice ..=>.make
 | .store ..|.mapUpdate ..=>.cO
 | .call c=>match c.callee with
   | .builtin .len|.builtin .max|.builtin .min=>.read
   |_=>.cO
 |_=>.calm
structure Rec where
 o:Oper
 did:Bool
 E:ax
 H:Hp
 val:AV
 H':Hp
inductive zao where
 |done (E:ax) (H:Hp) (rs:List Rec)
 |aM
def lj(r:Rec):zao->zao
 | .done E H rs=>.done E H (r::rs)
 | .aM=>.aM
def ll(z:ax->Hp->zao)(H:Hp):Option ax->zao
 |some E=>z E H
 |none=>.aM
def gI(ih:zac->Res)(f N:Nat)(I:qo):qo->ax->Hp->zao
 |[],E,H=>.done E H []
 |o::rest,E,H=>match gH I E o with
  |true=>match cZ P cfg ih f E H o.op with
   | .val v H'=>lj ⟨o,true,E,H,v,H'⟩ (ll (gI ih f N I rest) H' (dH N E o.dst v))
   |_=>.aM
  |false=>lj ⟨o,false,E,H,cT,H⟩ (ll (gI ih f N I rest) H (dH N E o.dst cT))
def preds(o:Oper):qu:=(o.after.toList.filter (Region.binds .any)).map (·.on)
def tc:qu->qu->qu
 |acc,[]=>acc
 |acc,x::xs=>match acc.contains x with
  |true=>tc acc xs
  |false=>tc (x::acc) xs
def uO(l:qu):qu:=tc [] l
def fh:qo->List qu->List qu
 |[],acc=>acc
 |o::rest,acc=>fh rest (acc++[uO (preds o++(preds o).flatMap fun i=>acc.getD i [])])
def Db(o:Oper):qu:=o.dst.toList++o.op.operands.toList.filterMap fun|.tmp t=>some t |_=>none
def pm(I:qo)(o:Oper):qu:=Db o++(match o.guard with|some (j,_)=>((I[j]?).bind (·.dst)).toList|none=>[])
def jT(o:Oper):Bool:=match eB o.op with|.cO=>true |_=>false
def pn(o:Oper):Bool:=match eB o.op with|.make=>true |_=>false
def clash(I:qo)(p q:Oper):Bool:=
 (jT p&&(jT q||pn q)) ||
 (p.dst.toList.any fun d=>(pm I q).contains d)||(q.dst.toList.any fun d=>(pm I p).contains d)
def mX(I:qo):Bool:=
 let A:=fh I []
 (List.range I.length).all fun j=>match I[j]? with
   |none=>true
   |some q=>(preds q).all (·< j)&&(match q.guard with|some (g,_)=>(A.getD j []).contains g|none=>true) &&
    (List.range j).all fun i=>match I[i]? with
      |none=>true
      |some p=>!clash I p q||(A.getD j []).contains i
def gJ(ops:qo):qu:=(List.range ops.length).filter fun i=>match ops[i]? with
 |some o=>jT o
 |none=>false
def bY(rs:List Rec)(H':Hp)(e:Nat):Hp:=match rs[e]? with
 |some r=>r.H
 |none=>H'
def HB.beq:HB->HB->Bool
 | .cells a i t,.cells b j u=>jg a b&&Nat.beq i j&&(t == u)
 | .map a,.map b=>jg (a.map (·.1)) (b.map (·.1))&&jg (a.map (·.2)) (b.map (·.2))
 |_,_=>false
def zcm(r:Rec)(H:Hp):Bool:=
 match eB r.o.op with
 | .read=>match cZ P cfg (fun _=>.aM) 0 r.E H r.o.op with
   | .val v _=>AV.beq v r.val
   |_=>false
 | .make=>match H.get r.H.next,r.H'.get r.H.next with
   |some b,some b'=>HB.beq b b'
   |_,_=>false
 |_=>true
def wU(A:List qu)(Z:qu)(i m:Nat):Bool:=
 !(Z.any (fun e=>(A.getD i []).contains e&&Nat.ble m e)||Z.any (fun e=>(A.getD e []).contains i&&Nat.blt e m))
def lx(ops:qo):qI:=
 (List.range ops.length).flatMap fun i=>match ops[i]? with
   |some o=>match eB o.op with
    | .read|.make=>((gJ ops++[ops.length]).filter (wU (fh ops []) (gJ ops) i)).map fun m=>(i,m)
    |_=>[]
   |none=>[]
def rD(U:qI)(rs:List Rec)(H':Hp):Bool:=
 rs.all (fun r=>Nat.ble r.H.next r.H'.next)&&U.all fun p=>match rs[p.1]? with
  |some r=>!r.did||zcm P cfg r (bY rs H' p.2)
  |none=>true
def jU(ih:zac->Res)(f N:Nat)(ops:qo)(E:ax)(H:Hp):Res:=
 match mX ops with
 |true=>match gI P cfg ih f N ops ops E H with
  | .done E' H' rs=>match rD P cfg (lx ops) rs H' with
    |true=>.done .normal E' H'
    |false=>.aM
  | .aM=>.aM
 |false=>.aM
def fO:qu->Nat->Nat
 |[],_=>0
 |x::xs,i=>match Nat.beq x i with
  |true=>0
  |false=>fO xs i+1
def po(M:qu)(o:Oper):Oper:=
 {o with after:=((o.after.toList.filter (Region.binds .any)).map fun e=>{e with on:=fO M e.on}).toArray,guard:=match o.guard with|some (j,b)=>some (fO M j,b)|none=>none}
def fj(M:qu)(l:qo):qo:=M.filterMap fun i=>match l[i]? with
 |some o=>some (po M o)
 |none=>none
def uP(M:qu)(l:qo):Bool:=
 Nat.beq M.length l.length &&
 (List.range l.length).all (fun k=>(match M[k]? with|some i=>Nat.blt i l.length&&Nat.beq (fO M i) k|none=>false)&&Nat.blt (fO M k) l.length&&(match M[fO M k]? with|some i=>Nat.beq i k|none=>false)) &&
 l.all (fun o=>(preds o).all (fun p=>Nat.blt p l.length)&&(match o.guard with|some (j,_)=>Nat.blt j l.length|none=>true))
def gK(q p:Nat)(l:qo):qo:=match l[q]? with
 |some o=>l.set q {o with after:=o.after.push {on:=p,ground:=.data} }
 |none=>l
def T.beq{o:Type}(J:o->o->Bool):T o->T o->Bool
 | .e,.e=>true
 | .n v l r,.n I O Z=>(match v,I with|some a,some b=>J a b|none,none=>true |_,_=>false)&&T.beq J l O&&T.beq J r Z
 |_,_=>false
def zV(ops:qo)(C m:ax)(Y H2:Hp):Bool:=
 ops.all (fun o=>match o.dst with|some d=>AV.beq (C.at d) (m.at d)|none=>true)&&Nat.beq Y.next H2.next&&T.beq HB.beq Y.t H2.t
def rE(ops:qo):Res->Res->Res
 | .done .normal E1 H1,.done .normal m U=>match zV ops E1 m H1 U with
   |true=>.done .normal E1 H1
   |false=>.aM
 |_,_=>.aM
def hT(ih:zac->Res)(f N:Nat)(E:ax)(H:Hp):zai->qo->Res
 | .text,ops=>jU P cfg ih f N ops E H
 | .b2 ord,ops=>match uP ord ops with
   |true=>jU P cfg ih f N (fj ord ops) E H
   |false=>.aM
 | .split p q a b,ops=>match Nat.beq p q with
   |true=>.aM
   |false=>rE ops (hT ih f N E H a (gK q p ops)) (hT ih f N E H b (gK p q ops))
def iB(z:ax->Hp->Res)(H:Hp):Option ax->Res
 |some E=>z E H
 |none=>.aM
def hU(ih:zac->Res)(f N:Nat)(I:qo)(ops:qo):ax->Hp->Res:=
 List.rec (motive:=fun _=>ax->Hp->Res) (fun E H=>.done .normal E H)
  (fun o _ z E H=>match gH I E o with
    |true=>match cZ P cfg ih f E H o.op with
     | .val v H=>iB z H (dH N E o.dst v)
     |_=>.aM
    |false=>iB z H (dH N E o.dst cT)) ops
def uQ:Nat->ax
 |0=>.e
 |d+1=>.n (some cT) (uQ d) (uQ d)
def rF(N:Nat):ax:=uQ (Nat.log2 N+1)
def bt:Nat->ql->ax->ax
 |_,[],E=>E
 |i,v::vs,E=>bt (i+1) vs (T.set E i (some v))
def da(E:ax)(H:Hp):ResultVar->qr
 | .tmp t=>some (E.at t)
 | .cell a t=>eR P H t (E.at a)
def cU(E:ax)(H:Hp):List ResultVar->Option ql
 |[]=>some []
 |r::rs=>match da P E H r,cU E H rs with
  |some v,some vs=>some (v::vs)
  |_,_=>none
def aN:ql->AV
 |[v]=>v
 |vs=>.aO vs
def td(rs:List ResultVar)(E:ax)(H:Hp):Res:=
 match cU P E H rs with
 |some vs=>.val (aN vs) H
 |none=>.aM
def ly(ih:zac->Res)(f:FuncId)(C:ql)(H:Hp):Res:=
 match P.funcs[f]? with
 |some M=>match M.body with
  |some c=>match ih (.aw f (max M.ntmps C.length) c (bt 0 C (rF (max M.ntmps C.length))) H)with
   | .done .normal E H=>td P M.results.toList E H
   | .done .ret E H=>td P M.results.toList E H
   |_=>.aM
  |none=>.aM
 |none=>.aM
def lA(ih:zac->Res)(f N:Nat)(b:Code):Res->Res
 | .done .normal E H=>ih (.aw f N b E H)
 |r=>r
def kA(id:Nat):Res->Res
 | .done (.exit O) E H=>match Nat.beq O id with
   |true=>.done .normal E H
   |false=>.done (.exit O) E H
 |r=>r
def rG(ih:zac->Res)(f N:Nat)(x:Operand)(a b:Code)(E:ax)(H:Hp):Res:=
 match aH E x with
 |some (.bool true)=>ih (.aw f N a E H)
 |some (.bool false)=>ih (.aw f N b E H)
 |_=>.aM
def gL(z:Nat):Nat->ql->List ql
 |0,_=>[]
 |n+1,l=>l.take z::gL z n (l.drop z)
def jA(g:AV->Hp->Option (AV×Hp)):ql->Hp->Option (ql×Hp)
 |[],H=>some ([],H)
 |c::cs,H=>match g c H with
  |some (d,H)=>match jA g cs H with
   |some (J,H)=>some (d::J,H)
   |none=>none
  |none=>none
def hY:Nat->AV->Hp->Option (AV×Hp)
 |0,_,_=>none
 |n+1,v,H=>match v with
  | .sl r J W z=>match H.get r with
    |some (.cells cs m o)=>match Nat.ble (J+W*z) cs.length&&Nat.ble m cs.length with
     |true=>match jA (hY n) ((cs.drop J).take (W*z)) (H.set r (.cells cs (max m (J+W*z)) o))with
      |some (l,H)=>some (.aq (gL z W l),H)
      |none=>none
     |false=>none
    |_=>none
  | .agg cs=>match jA (hY n) cs H with
    |some (Z,H)=>some (.agg Z,H)
    |none=>none
  | .ptr _ _=>none
  | .map _=>none
  |v=>some (v,H)
def zW:AV->Bool
 | .int _ _=>true
 | .bool _=>true
 | .ag _=>true
 |_=>false
def wV(r:AV)(H H':Hp):Hp:=match zW r with
 |true=>H
 |false=>H'
def uR(ih:zac->Res)(f:FuncId)(C:ql)(H:Hp):Option (ql×Hp)->Res
 |some (U,H')=>match cfg.call f U with
  |some r=>.val r (wV r H H')
  |none=>ly P ih f C H
 |none=>ly P ih f C H
def te:Bool->Res->Res
 |true,.val v H=>eA (hY 100 v H)
 |_,r=>r
def lB(ih:zac->Res)(f:FuncId)(C:ql)(H:Hp):Res:=match cfg.aF f with
 |true=>uR P cfg ih f C H (jA (hY 100) C H)
 |false=>ly P ih f C H
def step(ih:zac->Res):zac->Res
 | .call f C H=>match cfg.call f C with
   |some r=>.val r H
   |none=>te (cfg.ak f) (lB P cfg ih f C H)
 | .aw f N c E H=>match c with
   | .skip=>.done .normal E H
   | .region id ops draw=>match draw with
     |false=>hU P cfg ih f N ops.toList ops.toList E H
     |true=>hT P cfg ih f N E H (cfg.bM f id) ops.toList
   | .seq a b=>lA ih f N b (ih (.aw f N a E H))
   | .cond x a b=>rG ih f N x a b E H
   | .block id a=>kA id (ih (.aw f N a E H))
   | .loop a=>lA ih f N (.loop a) (ih (.aw f N a E H))
   | .exit id=>.done (.exit id) E H
   | .ret=>.done .ret E H
   |_=>.aM
def cI(n:Nat):zac->Res:=Nat.rec (motive:=fun _=>zac->Res) (fun _=>.aM) (fun _ ih=>step P cfg ih) n
end
def bE:Hp:={next:=0,t:=.e}
def iceL(g:AV->qr):ql->Option ql
 |[]=>some []
 |c::cs=>match g c,iceL g cs with
  |some d,some J=>some (d::J)
  |_,_=>none
def pp(g:AV->qr):List ql->Option (List ql)
 |[]=>some []
 |c::cs=>match iceL g c,pp g cs with
  |some d,some J=>some (d::J)
  |_,_=>none
def iceV(H:Hp):Nat->AV->qr
 |0,_=>none
 |n+1,v=>match v with
  | .sl r J W z=>match H.get r with
    |some (.cells cs _ _)=>match iceL (iceV H n) ((cs.drop J).take (W*z))with
     |some l=>if l.length=W*z then some (.aq (gL z W l))else none
     |none=>none
    |_=>none
  | .aq Y=>match pp (iceV H n) Y with
    |some L=>some (.aq L)
    |none=>none
  | .agg cs=>match iceL (iceV H n) cs with
    |some Z=>some (.agg Z)
    |none=>none
  | .aO cs=>match iceL (iceV H n) cs with
    |some Z=>some (.aO Z)
    |none=>none
  | .int k a=>some (.int k a)
  | .sx k e=>some (.sx k e)
  | .bool b=>some (.bool b)
  | .ag s=>some (.ag s)
  | .bl=>some .bl
  | .a6=>some .a6
  | .bz=>some .bz
  | .aa=>some .aa
  |_=>none
def wW(P:Program)(cfg:Cfg)(n m:Nat)(f:FuncId)(C:ql):qr:=
 match cI P cfg n (.call f C bE)with
 | .val v H=>iceV H m v
 |_=>none
def pq(m:Nat)(C:ql):Bool:=
 match iceL (iceV bE m) C with
 |some U=>jg U C
 |none=>false
def zX(P:Program)(cfg:Cfg)(n m:Nat)(f:FuncId)(C:ql)(r:AV):Bool:=
 match wW P cfg n m f C with
 |some q=>AV.beq q r
 |none=>false
def rH:List (FuncId×ql×AV)->FuncId->ql->qr
 |[],_,_=>none
 |p::l,f,args=>match Nat.beq p.1 f with
  |true=>match jg p.2.1 args with
   |true=>some p.2.2
   |false=>rH l f args
  |false=>rH l f args
end
end Go.Ab
