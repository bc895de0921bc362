/- Lemmas for the last file. -/
import GoSem.Step
set_option linter.all false
set_option maxHeartbeats 32000000
namespace Go.Ab
variable{A:Type}
abbrev qE:=Array Oper
abbrev qD:=List (Nat×Nat)
abbrev qC:=Option Nat
abbrev qy:=Option Bool
abbrev qx:=List Nat
abbrev qs:=List Oper
abbrev qr:=List UInt8
noncomputable section
open Go
inductive T (α:Type) where
 |e
 |n (v:Option α) (l r:T α)
def ja(b:Bool)(x y:A):A:=Bool.rec y x b
def T.get(t:T A):Nat->Option A:=
 T.rec (motive:=fun _=>Nat->Option A) (fun _=>none)
  (fun v _ _ K j k=>ja (Nat.beq k 0) v (ja (Nat.beq (Nat.mod k 2) 1) (K (Nat.div k 2)) (j (Nat.sub (Nat.div k 2) 1)))) t
def jb(v:Option A)(f:Nat):T A->Nat->T A:=
 Nat.rec (motive:=fun _=>T A->Nat->T A) (fun t _=>t)
  (fun _ ih t k=>T.casesOn t
    (ja (Nat.beq k 0) (.n v .e .e) (ja (Nat.beq (Nat.mod k 2) 1) (.n none (ih .e (Nat.div k 2)) .e) (.n none .e (ih .e (Nat.sub (Nat.div k 2) 1)))))
    (fun u l r=>ja (Nat.beq k 0) (.n v l r) (ja (Nat.beq (Nat.mod k 2) 1) (.n u (ih l (Nat.div k 2)) r) (.n u l (ih r (Nat.sub (Nat.div k 2) 1)))))) f
def T.set(t:T A)(k:Nat)(v:Option A):T A:=jb v (k+1) t k
inductive Sx where
 |var (i:Nat)
 |lit (n:Int)
 |cq (op:BinOp) (k:IntKind) (a b:Sx)
 |eI (k:IntKind) (a:Sx)
inductive AV where
 |int (k:IntKind) (n:Int)
 |sx (k:IntKind) (e:Sx)
 |bool (b:Bool)
 |ae (s:qr)
 |bK|a5|bP|ab
 |ptr (r:Nat) (off:Nat)
 |a2 (cs:List AV)
 |sl (r off len z:Nat)
 |ai (xs:List (List AV))
 |map (r:Nat)
 |bl (f:Nat) (cap:List AV)
 |agg (cs:List AV)
 |aW (vs:List AV)
abbrev qF:=List (AV×AV)
abbrev qB:=List (Nat×AV)
abbrev qv:=Option AV
abbrev qm:=List AV
inductive HB where
 |cells (cs:qm) (imm:Nat) (tip:Bool)
 |map (es:qF)
structure Hp where
 next:Nat
 t:T HB
def Hp.get(h:Hp)(r:Nat):Option HB:=h.t.get r
def Hp.set(h:Hp)(r:Nat)(b:HB):Hp:={next:=h.next,t:=h.t.set r (some b) }
def Hp.az(h:Hp)(r:Nat):Hp:={next:=h.next,t:=h.t.set r none}
def Hp.alloc(h:Hp)(b:HB):Hp:={next:=h.next+1,t:=h.t.set h.next (some b) }
inductive zdk where
 |text
 |bm (ord:qx)
 |split (p q:Nat) (a b:zdk)
structure Cfg where
 aj:FuncId->Bool
 cj:BinOp->Sx->Sx->qy:=fun _ _ _=>none
 call:FuncId->qm->qv:=fun _ _=>none
 ao:FuncId->Bool:=fun _=>false
 bI:FuncId->Nat->zdk:=fun _ _=>.text
 am:FuncId->Bool:=fun _=>false
abbrev aD:=T AV
def ea:AV:=.aW []
def aD.at(E:aD)(t:Nat):AV:=(T.get E t).getD ea
def xK:Value->qv
 | .int k n=>some (.int k n)
 | .bool b=>some (.bool b)
 | .string s=>some (.ae s.data.toList)
 | .pointer none=>some .bK
 | .slice none 0 0=>some .ab
 | .map none=>some .a5
 | .nilFunc=>some .bP
 |_=>none
def vN:Value->qv
 | .agg cs=>(cs.toList.mapM xK).map .agg
 |v=>xK v
def aV(E:aD):Operand->qv
 | .tmp t=>some (E.at t)
 | .const v=>vN v
 | .global _=>none
 | .func f=>some (.bl f [])
def io(E:aD):List Operand->Option qm
 |[]=>some []
 |x::xs=>match aV E x,io E xs with
  |some v,some vs=>some (v::vs)
  |_,_=>none
def AV.cells:AV->qm
 | .agg cs=>cs
 |v=>[v]
def AV.one:AV->Bool
 | .agg _|.aW _=>false
 |_=>true
section
variable (P:Program)
def bD(t:TypeId):qC:=(P.info? t).map (·.size)
def cL(t:TypeId):qC:=(P.info? t).map (·.bytes)
def lU(t:TypeId):qv:=
 match P.info? t with
 |some {zero:=some z,.. }=>vN z
 |_=>none
def cn(t:TypeId):Option qm:=
 match lU P t with
 |some v=>some v.cells
 |none=>none
def cM(t:TypeId)(cs:qm)(off:Nat):qv:=
 match P.underlying t with
 |some (.struct _)|some (.array _ _)=>
  match bD P t with
  |some s=>let l:=(cs.drop off).take s;if l.length=s then some (.agg l)else none
  |none=>none
 |some _=>cs[off]?
 |none=>none
def jL(H:Hp)(t:TypeId):AV->qv
 | .ptr r F=>match H.get r with
   |some (.cells cs _ _)=>cM P t cs F
   |_=>none
 | .a2 cs=>cM P t cs 0
 |_=>none
def splice(cs:qm)(off:Nat)(z:qm):qm:=cs.take off++z++cs.drop (off+z.length)
def mD(H:Hp)(t:TypeId)(a v:AV):Option Hp:=
 match a with
 | .ptr r F=>match H.get r,bD P t with
   |some (.cells cs S I),some s=>
    if v.cells.length=s/\S<=F/\F+s<=cs.length/\v.cells.all AV.one then some (H.set r (.cells (splice cs F v.cells) S I))else none
   |_,_=>none
 |_=>none
def sO(t:TypeId)(a:AV)(i:Nat):qv:=
 match P.underlying t with
 |some (.struct J)=>match J[i]? with
  |some f=>match bD P f.type with
   |some (_+1)=>match a with
    | .ptr r F=>some (.ptr r (F+f.offset))
    | .a2 cs=>some (.a2 (cs.drop f.offset))
    |_=>none
   |_=>none
  |none=>none
 |_=>none
def uo(t:TypeId)(x:AV)(i:Nat):qv:=
 match P.underlying t,x with
 |some (.struct J),.agg cs=>match J[i]? with
  |some f=>cM P f.type cs f.offset
  |none=>none
 |_,_=>none
def zc5(n:Int):qC:=match n with|.ofNat k=>some k |_=>none
def eS(t:TypeId)(x i:AV):qv:=
 match i with
 | .int _ (.ofNat k)=>match P.underlying t with
   |some (.slice e)=>match bD P e with
    |some s=>match x with
     | .sl r F j _=>if k<j then some (.ptr r (F+k*s))else none
     | .ai V=>match V[k]? with
       |some z=>if z.length=s then some (.a2 z)else none
       |none=>none
     |_=>none
    |none=>none
   |some (.array n e)=>match bD P e with
    |some s=>match x with
     | .ptr r F=>if k<n then some (.ptr r (F+k*s))else none
     |_=>none
    |none=>none
   |_=>none
 |_=>none
def oK(t:TypeId)(x i:AV):qv:=
 match i with
 | .int _ (.ofNat k)=>match P.underlying t,x with
   |some .string,.ae s=>match s[k]? with
    |some b=>some (.int .u8 b.toNat)
    |none=>none
   |some (.array n e),.agg cs=>if k<n then (match bD P e with|some s=>cM P e cs (k*s)|none=>none)else none
   |_,_=>none
 |_=>none
def gS(d:Nat):qv->qC
 |none=>some d
 |some (.int _ (.ofNat k))=>some k
 |some _=>none
def jx(t:TypeId)(x:AV)(lo F:qv):qv:=
 match P.underlying t,x with
 |some .string,.ae s=>
  match gS 0 lo,gS s.length F with
  |some l,some h=>if l<=h/\h<=s.length then some (.ae ((s.drop l).take (h-l)))else none
  |_,_=>none
 |some (.slice e),x=>match bD P e with
  |some z=>match x with
   | .sl r Z j Y=>match gS 0 lo,gS j F with
     |some l,some h=>if l<=h/\h<=j/\Y=z then (if l=h then some (.ai [])else some (.sl r (Z+l*z) (h-l) z))else none
     |_,_=>none
   | .ai V=>match gS 0 lo,gS V.length F with
     |some l,some h=>if l<=h/\h<=V.length then (match (V.drop l).take (h-l)with
      |[]=>some (.ai [])
      |row::rows=>if row.length=z then some (.ai (row::rows))else none)else none
     |_,_=>none
   | .ab=>match gS 0 lo,gS 0 F with
     |some 0,some 0=>some .ab
     |_,_=>none
   |_=>none
  |none=>none
 |_,_=>none
def nC(H:Hp)(t:TypeId)(x:AV)(lo Z:qv):qv:=
 match x with
 | .ptr r F=>match P.underlying t,H.get r with
   |some (.array n e),some (.cells cs _ _)=>match bD P e,gS 0 lo,gS n Z with
    |some z,some l,some h=>if l<=h/\h<=n/\F+n*z<=cs.length then (if l=h then some (.ai [])else some (.sl r (F+l*z) (h-l) z))else none
    |_,_,_=>none
   |_,_=>none
 |x=>jx P t x lo Z
def pE(S:Nat->Option (Nat×Nat))(cells:qm):qB->Option qm
 |[]=>some cells
 |(i,v)::rest=>match S i with
  |none=>none
  |some (F,O)=>if v.cells.length≠O\/F+v.cells.length > cells.length then none else pE S (splice cells F v.cells) rest
def ki(E:aD):List (Nat×Operand)->Option qB
 |[]=>some []
 |(i,x)::rest=>match aV E x,ki E rest with
  |some v,some vs=>some ((i,v)::vs)
  |_,_=>none
def G6(J:List Field):Option qD:=J.mapM fun f=>(P.info? f.type).map fun i=>(f.offset,i.size)
def cQ(t:TypeId)(m:qB):qv:=
 match cn P t,P.underlying t with
 |some z,some (.struct J)=>match G6 P J.toList with
  |some S=>match pE (fun i=>S[i]?) z m with
   |some cs=>some (.agg cs)
   |none=>none
  |none=>none
 |some z,some (.array _ e)=>match bD P e with
  |some s=>match pE (fun i=>some (i*s,s)) z m with
   |some cs=>some (.agg cs)
   |none=>none
  |none=>none
 |_,_=>none
def jy(z:qm):Nat->qm
 |0=>[]
 |n+1=>z++jy z n
def dc(H:Hp)(t:TypeId)(len:Nat)(m:qB):Option (AV×Hp):=
 match P.underlying t with
 |some (.slice e)=>match bD P e,cn P e with
  |some s,some z=>if len*s<=16777216/\z.length=s then (match pE (fun i=>some (i*s,s)) (jy z len) m with
   |some cs=>some (.sl H.next 0 len s,H.alloc (.cells cs 0 true))
   |none=>none)else none
  |_,_=>none
 |_=>none
def dd:Nat:=70368744177664   -- 2^46
def fc(H:Hp)(s:Nat):AV->Option (Nat×qm)
 | .sl r F j _=>match H.get r with
   |some (.cells cs _ _)=>let l:=(cs.drop F).take (j*s);if l.length=j*s then some (j,l)else none
   |_=>none
 | .ai V=>if V.all (fun z=>z.length == s)then some (V.length,V.flatten)else none
 | .ab=>some (0,[])
 | .ae b=>if s=1 then some (b.length,b.map fun x=>.int .u8 x.toNat)else none
 |_=>none
def kL(keep:Bool)(H:Hp)(s b:Nat)(J:AV)(n:Nat)(Z:qm):Option (AV×Hp):=
 match J with
 | .ab=>if n*b<=dd/\n<=dd then some (.sl H.next 0 n s,H.alloc (.cells Z 0 true))else none
 | .sl r F j z=>match H.get r with
   |some (.cells cs S true)=>
    if (j+n)*b<=dd/\j+n<=dd/\F+j*s=cs.length/\z=s/\S<=cs.length then
     (if keep then some (.sl H.next 0 (j+n) s,(H.set r (.cells cs cs.length false)).alloc (.cells (cs.drop F++Z) (j*s) true))
      else some (.sl H.next 0 (j+n) s,(H.az r).alloc (.cells (cs.drop F++Z) (S-F) true)))
    else none
   |_=>none
 |_=>none
def fV(keep:Bool)(H:Hp)(s:Nat):AV->Hp
 | .sl r F j _=>match H.get r with
   |some (.cells cs S true)=>match !keep&&Nat.blt (F+j*s) cs.length&&Nat.ble S (F+j*s)with
    |true=>H.set r (.cells (cs.take (F+j*s)) S true)
    |false=>H
   |_=>H
 |_=>H
def ip(t:TypeId):Bool:=
 match P.underlying t with
 |some (.slice _)|some .string=>true
 |_=>false
def vO(keep:Bool)(H:Hp)(s b:Nat)(z:qm)(u:TypeId)(J x:AV):Option (AV×Hp):=
 match P.underlying u,x with
 |some (.int _),.int _ (.ofNat m)=>
  if m*b<=dd/\m<=dd/\z.length=s/\z.all AV.one=true then
   (match m with
   |0=>(match J with
    | .sl ..|.ai _|.ab=>some (J,H)
    |_=>none)
   |m+1=>kL keep (fV keep H s J) s b J (m+1) (jy z (m+1)))
  else none
 |_,_=>none
def dh(keep:Bool)(H:Hp)(t u:TypeId)(J x:AV):Option (AV×Hp):=
 match P.underlying t with
 |some (.slice e)=>match bD P e,cL P e,cn P e with
  |some s,some b,some z=>match ip P u,fc H s x with
   |true,some (0,_)=>match J with
    | .sl ..|.ai _|.ab=>some (J,H)
    |_=>none
   |true,some (n,Z)=>if Z.all AV.one/\z.length=s then kL keep (fV keep H s J) s b J n Z else none
   |_,_=>vO P keep H s b z u J x
  |_,_,_=>none
 |_=>none
def ly(J:TypeDesc)(x y:AV):qy:=
 match J with
 | .int _=>match x,y with
   | .int k a,.int k' b=>if k=k' then some (a == b)else none
   |_,_=>none
 | .string=>match x,y with
   | .ae a,.ae b=>some (a == b)
   |_,_=>none
 | .bool=>match x,y with
   | .bool a,.bool b=>some (a == b)
   |_,_=>none
 |_=>none
def lz(t:TypeId):Option TypeDesc:=
 match P.underlying t with
 |some (.int k)=>some (.int k)
 |some .string=>some .string
 |some .bool=>some .bool
 |_=>none
def ef(J:TypeDesc)(k:AV):qF->Nat->Option (Option (Nat×AV))
 |[],_=>some none
 |(k',v)::es,i=>match ly J k k' with
  |some true=>some (some (i,v))
  |some false=>ef J k es (i+1)
  |none=>none
def sP(H:Hp):AV->Option qF
 | .a5=>some []
 | .map r=>match H.get r with
   |some (.map U)=>some U
   |_=>none
 |_=>none
def xL(ok:Bool)(v:AV)(M:Bool):AV:=match ok with
 |true=>.aW [v,.bool M]
 |false=>v
def gT(H:Hp)(t:TypeId)(m k:AV)(ok:Bool):qv:=
 match P.underlying t with
 |some (.map A e)=>match sP H m,lz P A with
  |some U,some J=>match ef J k U 0 with
   |some (some (_,v))=>some (xL ok v true)
   |some none=>match lU P e with
    |some v=>some (xL ok v false)
    |none=>none
   |none=>none
  |_,_=>none
 |_=>none
def nD(H:Hp)(t:TypeId)(m k v:AV):Option Hp:=
 match P.underlying t with
 |some (.map A _)=>match m,lz P A with
  | .map r,some J=>match H.get r with
    |some (.map U)=>match ef J k U 0 with
     |some (some (i,_))=>some (H.set r (.map (U.set i (k,v))))
     |some none=>some (H.set r (.map (U++[(k,v)])))
     |none=>none
    |_=>none
  |_,_=>none
 |_=>none
def sQ:qr->qr->Bool
 |_,[]=>false
 |[],_::_=>true
 |a::x,b::y=>a<b||(a == b&&sQ x y)
def jz(op:BinOp)(k:IntKind)(a b:Int):qv:=
 match op with
 | .add=>some (.int k (k.wrap (a+b)))
 | .sub=>some (.int k (k.wrap (a-b)))
 | .mul=>some (.int k (k.wrap (a*b)))
 | .quo=>if b=0 then none else some (.int k (k.wrap (a.tdiv b)))
 | .rem=>if b=0 then none else some (.int k (a.tmod b))
 | .and=>some (.int k (k.wrap (BitVec.ofInt k.bits a &&& BitVec.ofInt k.bits b).toNat))
 | .or=>some (.int k (k.wrap (BitVec.ofInt k.bits a |||BitVec.ofInt k.bits b).toNat))
 | .xor=>some (.int k (k.wrap (BitVec.ofInt k.bits a^^^ BitVec.ofInt k.bits b).toNat))
 | .andNot=>some (.int k (k.wrap (BitVec.ofInt k.bits a &&& ~~~ BitVec.ofInt k.bits b).toNat))
 | .eql=>some (.bool (a == b))
 | .neq=>some (.bool (a != b))
 | .lss=>some (.bool (a<b))
 | .leq=>some (.bool (a<=b))
 | .gtr=>some (.bool (a > b))
 | .geq=>some (.bool (a>=b))
 |_=>none
def Dk(op:BinOp)(k:IntKind)(a b:Int):Int:=
 match jz op k a b with
 |some (.int _ n)=>n
 |_=>0
def Sx.eval(ρ:Nat->Int):Sx->Int
 | .var i=>ρ i
 | .lit n=>n
 | .cq o k a b=>Dk o k (a.eval ρ) (b.eval ρ)
 | .eI k a=>k.wrap (a.eval ρ)
def zV:AV->Option (IntKind×Sx)
 | .int k n=>some (k,.lit n)
 | .sx k e=>some (k,e)
 |_=>none
def Dl(D:BinOp->Sx->Sx->qy)(op:BinOp)(k:IntKind)(a b:Sx):qv:=
 match op with
 | .add=>some (.sx k (.cq .add k a b))
 | .sub=>some (.sx k (.cq .sub k a b))
 | .mul=>some (.sx k (.cq .mul k a b))
 | .and=>some (.sx k (.cq .and k a b))
 | .or=>some (.sx k (.cq .or k a b))
 | .xor=>some (.sx k (.cq .xor k a b))
 | .andNot=>some (.sx k (.cq .andNot k a b))
 | .quo=>match D .eql b (.lit 0)with
   |some false=>some (.sx k (.cq .quo k a b))
   |_=>none
 | .rem=>match D .eql b (.lit 0)with
   |some false=>some (.sx k (.cq .rem k a b))
   |_=>none
 | .shl=>none
 | .shr=>none
 |op=>match D op a b with
  |some r=>some (.bool r)
  |none=>none
def zW(D:BinOp->Sx->Sx->qy)(op:BinOp)(x y:AV):qv:=
 match zV x,zV y with
 |some (k,a),some (k',b)=>if k=k' then Dl D op k a b else none
 |_,_=>none
def vP(op:BinOp)(a b:qr):qv:=
 match op with
 | .add=>if a.length+b.length<=dd then some (.ae (a++b))else none
 | .eql=>some (.bool (a == b))
 | .neq=>some (.bool !(a == b))
 | .lss=>some (.bool (sQ a b))
 | .leq=>some (.bool (sQ a b||a == b))
 | .gtr=>some (.bool !(sQ a b||a == b))
 | .geq=>some (.bool !(sQ a b))
 |_=>none
def zX(t:TypeId)(x y:AV):qy:=
 match P.underlying t with
 |some .bool=>match x,y with
  | .bool a,.bool b=>some (a == b)
  |_,_=>none
 |some (.pointer _)=>match x,y with
  | .bK,.bK=>some true
  | .ptr _ _,.bK|.bK,.ptr _ _|.a2 _,.bK|.bK,.a2 _=>some false
  |_,_=>none
 |some (.map _ _)=>match x,y with
  | .a5,.a5=>some true
  | .map _,.a5|.a5,.map _=>some false
  |_,_=>none
 |some (.func _ _ _)=>match x,y with
  | .bP,.bP=>some true
  | .bl _ _,.bP|.bP,.bl _ _=>some false
  |_,_=>none
 |some (.slice _)=>match x,y with
  | .ab,.ab=>some true
  | .sl _ _ _ _,.ab|.ab,.sl _ _ _ _|.ai (_::_),.ab|.ab,.ai (_::_)=>some false
  |_,_=>none
 |_=>none
def Dm(t:TypeId)(x y:AV):qy:=
 match x,y with
 | .int k a,.int k' b=>match P.underlying t with
   |some (.int _)=>if k=k' then some (a == b)else none
   |_=>none
 | .ae a,.ae b=>match P.underlying t with
   |some .string=>some (a == b)
   |_=>none
 |x,y=>zX P t x y
def vQ(xs K:qm):List Field->qy
 |[]=>some true
 |f::fs=>match f.name == "_" with
  |true=>vQ xs K fs
  |false=>match cM P f.type xs f.offset,cM P f.type K f.offset with
   |some a,some b=>match Dm P f.type a b with
    |some true=>vQ xs K fs
    |some false=>some false
    |none=>none
   |_,_=>none
def zY(t:TypeId)(xs K:qm):qy:=
 match P.underlying t with
 |some (.struct J)=>match P.stoodInHeld t||P.eqGuardType P.depth t with
  |true=>none
  |false=>vQ P xs K J.toList
 |_=>none
def uq(t:TypeId)(x y:AV):qy:=
 match x,y with
 | .agg V,.agg K=>zY P t V K
 |x,y=>zX P t x y
def sR(op:BinOp)(k:IntKind)(a b:Int):qv:=
 match b with
 | .ofNat m=>match op with
   | .shl=>some (.int k (k.wrap (a*2^ min m k.bits)))
   | .shr=>some (.int k (a.fdiv (2^ min m k.bits)))
   |_=>none
 |_=>none
def rI(op:BinOp)(k M:IntKind)(a b:Int):qv:=
 match op with
 | .shl=>sR .shl k a b
 | .shr=>sR .shr k a b
 |op=>if k=M then jz op k a b else none
def Dn(op:BinOp)(t:TypeId)(x y:AV):qv:=
 match op with
 | .eql=>match uq P t x y with
   |some b=>some (.bool b)
   |none=>none
 | .neq=>match uq P t x y with
   |some b=>some (.bool !b)
   |none=>none
 |_=>none
def dP(D:BinOp->Sx->Sx->qy)(op:BinOp)(t:TypeId)(x y:AV):qv:=
 match x,y with
 | .int k a,.int k' b=>rI op k k' a b
 | .ae a,.ae b=>vP op a b
 | .sx k a,y=>zW D op (.sx k a) y
 | .int k a,.sx k' b=>zW D op (.int k a) (.sx k' b)
 |x,y=>Dn P op t x y
def rJ(op:UnOp)(x:AV):qv:=
 match op,x with
 | .neg,.sx k e=>some (.sx k (.cq .sub k (.lit 0) e))
 | .xor,.sx k e=>some (.sx k (.cq .xor k (.lit (if k.signed then -1 else k.max)) e))
 | .neg,.int k n=>jz .sub k 0 n
 | .xor,.int k n=>jz .xor k (if k.signed then -1 else k.max) n
 | .not,.bool b=>some (.bool !b)
 |_,_=>none
def xM:qm->Option qr
 |[]=>some []
 | .int .u8 n::cs=>match xM cs with
   |some bs=>some (UInt8.ofNat n.toNat::bs)
   |none=>none
 |_=>none
def lV(H:Hp)(U z:TypeId)(x:AV):qv:=
 match P.underlying U,P.underlying z with
 |some (.slice e),some .string=>match P.underlying e with
  |some (.int .u8)=>match fc H 1 x with
   |some (_,cs)=>match xM cs with
    |some bs=>match x with
     | .sl _ _ _ _|.ab=>some (.ae bs)
     |_=>none
    |none=>none
   |none=>none
  |_=>none
 |some _,some (.int k)=>match x with
  | .int _ n=>some (.int k (k.wrap n))
  | .sx _ e=>some (.sx k (.eI k e))
  |_=>none
 |some .string,some .string=>match x with
  | .ae s=>some (.ae s)
  |_=>none
 |_,_=>none
def pF(H:Hp)(t:TypeId)(l c:AV):Option (AV×Hp):=
 match P.underlying t,l,c with
 |some (.slice e),.int _ (.ofNat l),.int _ (.ofNat c)=>match bD P e,cL P e,cn P e with
  |some s,some b,some z=>if l<=c/\c*b<=dd/\c<=dd/\z.length=s then some (.sl H.next 0 l s,H.alloc (.cells (jy z l) 0 true))else none
  |_,_,_=>none
 |_,_,_=>none
def extract(x:AV)(i:Nat):qv:=
 match x with
 | .aW vs=>vs[i]?
 |_=>none
def mm(K:Bool):AV->AV->qv
 | .int k x,.int _ y=>some (.int k (if (if K then decide (y > x)else decide (y<x))then y else x))
 |_,_=>none
def sS(K:Bool)(x:AV):qm->qv
 |[]=>some x
 |y::ys=>match mm K x y with
  |some z=>sS K z ys
  |none=>none
def gj(H:Hp)(t:TypeId)(x:AV):qv:=
 match P.underlying t with
 |some .string=>match x with
  | .ae s=>some (.int .i64 s.length)
  |_=>none
 |some (.slice _)=>match x with
  | .sl _ _ n _=>some (.int .i64 n)
  | .ai V=>some (.int .i64 V.length)
  | .ab=>some (.int .i64 0)
  |_=>none
 |some (.array n _)=>some (.int .i64 n)
 |some (.map _ _)=>match sP H x with
  |some U=>some (.int .i64 U.length)
  |none=>none
 |_=>none
def pG(keep:Bool)(H:Hp)(b:Builtin)(O:List TypeId)(j:qm):Option (AV×Hp):=
 match b with
 | .append=>match O,j with
   |[t,u],[s,x]=>dh P keep H t u s x
   |_,_=>none
 | .len=>match O,j with
   |[t],[x]=>match gj P H t x with
    |some v=>some (v,H)
    |none=>none
   |_,_=>none
 | .max=>match j with
   |x::xs=>match sS true x xs with
    |some v=>some (v,H)
    |none=>none
   |[]=>none
 | .min=>match j with
   |x::xs=>match sS false x xs with
    |some v=>some (v,H)
    |none=>none
   |[]=>none
 |_=>none
def ret(H:Hp):qv->Option (AV×Hp)
 |some v=>some (v,H)
 |none=>none
def zZ(E:aD)(H:Hp)(c a b:Operand):Option (AV×Hp):=
 match aV E c with
 |some (.bool true)=>ret H (aV E a)
 |some (.bool false)=>ret H (aV E b)
 |_=>none
def xN(H:Hp)(t:TypeId):Option (AV×Hp):=
 match cn P t with
 |some z=>some (.ptr H.next 0,H.alloc (.cells z 0 true))
 |none=>none
def xO(E:aD)(H:Hp)(x:Operand):Option (AV×Hp):=
 match aV E x with
 |some v=>some (.ptr H.next 0,H.alloc (.cells v.cells 0 true))
 |none=>none
def z5(E:aD)(H:Hp)(t:TypeId)(m:Array (Nat×Operand)):Option (AV×Hp):=
 match ki E m.toList with
 |some J=>ret H (cQ P t J)
 |none=>none
def xP(E:aD)(H:Hp)(t:TypeId)(len:Nat)(m:Array (Nat×Operand)):Option (AV×Hp):=
 match ki E m.toList with
 |some J=>dc P H t len J
 |none=>none
def xQ(E:aD)(H:Hp)(t:TypeId)(a:Operand):Option (AV×Hp):=
 match aV E a with
 |some v=>ret H (jL P H t v)
 |none=>none
def z6(E:aD)(H:Hp)(t:TypeId)(a x:Operand):Option (AV×Hp):=
 match aV E a,aV E x with
 |some a,some x=>match mD P H t a x with
  |some H=>some (ea,H)
  |none=>none
 |_,_=>none
def z7(E:aD)(H:Hp)(x:Operand):Option (AV×Hp):=
 match aV E x with
 |some (.ptr r o)=>some (.ptr r o,H)
 |some (.a2 cs)=>some (.a2 cs,H)
 |_=>none
def z8(D:BinOp->Sx->Sx->qy)(E:aD)(H:Hp)(op:BinOp)(t:TypeId)(x y:Operand):Option (AV×Hp):=
 match aV E x,aV E y with
 |some x,some y=>ret H (dP P D op t x y)
 |_,_=>none
def z9(E:aD)(H:Hp)(op:UnOp)(x:Operand):Option (AV×Hp):=
 match aV E x with
 |some x=>ret H (rJ op x)
 |none=>none
def xR(E:aD)(H:Hp)(s d:TypeId)(x:Operand):Option (AV×Hp):=
 match aV E x with
 |some x=>ret H (lV P H s d x)
 |none=>none
def Ac(E:aD)(H:Hp)(fn:Fn)(first V:Array Operand):Option (AV×Hp):=
 match fn,first.toList,io E V.toList with
 | .func f,[],some vs=>some (.bl f vs,H)
 |_,_,_=>none
def xS(H:Hp)(r:Option Operand):Option (AV×Hp):=
 match r with
 |none=>some (.map H.next,H.alloc (.map []))
 |some _=>none
def xT(E:aD)(H:Hp)(t:TypeId)(l c:Operand):Option (AV×Hp):=
 match aV E l,aV E c with
 |some l,some c=>pF P H t l c
 |_,_=>none
def jM(E:aD):Option Operand->Option qv
 |none=>some none
 |some x=>match aV E x with
  |some v=>some (some v)
  |none=>none
def xU(E:aD)(H:Hp)(t:TypeId)(x:Operand)(lo F K:Option Operand):Option (AV×Hp):=
 match K,aV E x,jM E lo,jM E F with
 |none,some x,some l,some h=>ret H (nC P H t x l h)
 |_,_,_,_=>none
def Ad(E:aD)(H:Hp)(t:TypeId)(x:Operand)(f:Nat):Option (AV×Hp):=
 match aV E x with
 |some x=>ret H (sO P t x f)
 |none=>none
def Ae(E:aD)(H:Hp)(t:TypeId)(x:Operand)(f:Nat):Option (AV×Hp):=
 match aV E x with
 |some x=>ret H (uo P t x f)
 |none=>none
def Af(E:aD)(H:Hp)(t:TypeId)(x i:Operand):Option (AV×Hp):=
 match aV E x,aV E i with
 |some x,some i=>ret H (eS P t x i)
 |_,_=>none
def Ag(E:aD)(H:Hp)(t:TypeId)(x i:Operand):Option (AV×Hp):=
 match aV E x,aV E i with
 |some x,some i=>ret H (oK P t x i)
 |_,_=>none
def xV(E:aD)(H:Hp)(t:TypeId)(m k:Operand)(ok:Bool):Option (AV×Hp):=
 match aV E m,aV E k with
 |some m,some k=>ret H (gT P H t m k ok)
 |_,_=>none
def Ah(E:aD)(H:Hp)(t:TypeId)(m k v:Operand):Option (AV×Hp):=
 match aV E m,aV E k,aV E v with
 |some m,some k,some v=>match nD P H t m k v with
  |some H=>some (ea,H)
  |none=>none
 |_,_,_=>none
def Ai(E:aD)(H:Hp)(x:Operand)(i:Nat):Option (AV×Hp):=
 match aV E x with
 |some x=>ret H (extract x i)
 |none=>none
def dv(D:BinOp->Sx->Sx->qy)(E:aD)(H:Hp)(op:Op):Option (AV×Hp):=
 match op with
 | .move x=>ret H (aV E x)
 | .assign x=>ret H (aV E x)
 | .pick c a b=>zZ E H c a b
 | .alloc t=>xN P H t
 | .box _ x=>xO E H x
 | .build t Z=>z5 P E H t Z
 | .buildSlice t j Z=>xP P E H t j Z
 | .load t a=>xQ P E H t a
 | .store t a x=>z6 P E H t a x
 | .nilCheck x=>z7 E H x
 | .binOp op t x y _=>z8 P D E H op t x y
 | .unOp op _ x=>z9 E H op x
 | .convert s d x=>xR P E H s d x
 | .makeFunc Y first V=>Ac E H Y first V
 | .makeMap _ r=>xS H r
 | .makeSlice t l c=>xT P E H t l c
 | .slice t x lo F K=>xU P E H t x lo F K
 | .fieldAddr t x f=>Ad P E H t x f
 | .field t x f=>Ae P E H t x f
 | .indexAddr t x i=>Af P E H t x i
 | .index t x i=>Ag P E H t x i
 | .lookup t m k ok=>xV P E H t m k ok
 | .mapUpdate t m k v=>Ah P E H t m k v
 | .extract x i=>Ai E H x i
 |_=>none
inductive zdc where
 |aw (f:FuncId) (N:Nat) (c:Code) (E:aD) (H:Hp)
 |call (f:FuncId) (args:qm) (H:Hp)
inductive AX where
 |normal|exit (id:Nat)|ret
inductive Res where
 |done (x:AX) (E:aD) (H:Hp)
 |val (v:AV) (H:Hp)
 |ay
def fo(N:Nat)(E:aD)(z:Option Tmp)(v:AV):Option aD:=
 match z with
 |some d=>match Nat.blt d N with
  |true=>some (T.set E d (some v))
  |false=>none
 |none=>some E
def Aj(ops:qs)(E:aD)(j:Nat):qy:=
 match (ops[j]?).bind (·.dst)with
 |some d=>match E.at d with|.bool b=>some b |_=>none
 |none=>none
def jc(ops:qs)(E:aD)(o:Oper):Bool:=
 match o.guard with
 |none=>true
 |some (j,U)=>match Aj ops E j with
  |some b=>b == U
  |none=>false
variable (cfg:Cfg)
def sT(ih:zdc->Res)(f:FuncId)(E:aD)(H:Hp)(c:Call):Res:=
 match c.callee with
 | .value g=>match aV E g,io E c.args.toList with
   |some (.bl k S),some vs=>ih (.call k (vs++S) H)
   |_,_=>.ay
 | .builtin b=>match io E c.args.toList with
   |some vs=>match pG P (cfg.aj f) H b c.argTypes.toList vs with
    |some (v,H)=>.val v H
    |none=>.ay
   |none=>.ay
 |_=>.ay
def gI:Option (AV×Hp)->Res
 |some (v,H)=>.val v H
 |none=>.ay
def ej(ih:zdc->Res)(f:FuncId)(E:aD)(H:Hp)(op:Op):Res:=
 match op with
 | .call c=>sT P cfg ih f E H c
 |op=>gI (dv P cfg.cj E H op)
def Sx.beq:Sx->Sx->Bool
 | .var i,.var j=>Nat.beq i j
 | .lit a,.lit b=>a == b
 | .cq o k a b,.cq M k' z b'=>decide (o=M)&&decide (k=k')&&Sx.beq a z&&Sx.beq b b'
 | .eI k a,.eI k' b=>decide (k=k')&&Sx.beq a b
 |_,_=>false
mutual
def AV.beq:AV->AV->Bool
 | .int k a,.int k' b=>decide (k=k')&&(a == b)
 | .sx k a,.sx k' b=>decide (k=k')&&Sx.beq a b
 | .bool a,.bool b=>a == b
 | .ae a,.ae b=>a == b
 | .bK,.bK|.a5,.a5|.bP,.bP|.ab,.ab=>true
 | .ptr r o,.ptr I M=>Nat.beq r I&&Nat.beq o M
 | .a2 a,.a2 b=>kM a b
 | .sl r o l z,.sl I M Z Y=>Nat.beq r I&&Nat.beq o M&&Nat.beq l Z&&Nat.beq z Y
 | .ai a,.ai b=>ur a b
 | .map r,.map I=>Nat.beq r I
 | .bl f a,.bl V b=>Nat.beq f V&&kM a b
 | .agg a,.agg b=>kM a b
 | .aW a,.aW b=>kM a b
 |_,_=>false
def kM:qm->qm->Bool
 |[],[]=>true
 |a::x,b::y=>AV.beq a b&&kM x y
 |_,_=>false
def ur:List qm->List qm->Bool
 |[],[]=>true
 |a::x,b::y=>kM a b&&ur x y
 |_,_=>false
end
inductive Kind where
 |cR   -- looks at no memory
 |read
 |make
 |ei
def gJ:Op->Kind
 | .load ..|.lookup ..|.convert ..|.slice ..=>.read
 | .alloc _|.box ..|.buildSlice ..|.makeMap ..|.makeSlice ..=>.make
 | .store ..|.mapUpdate ..=>.ei
 | .call c=>match c.callee with
   | .builtin .len|.builtin .max|.builtin .min=>.read
   |_=>.ei
 |_=>.cR
structure Rec where
 o:Oper
 did:Bool
 E:aD
 H:Hp
 val:AV
 H':Hp
inductive zdt where
 |done (E:aD) (H:Hp) (rs:List Rec)
 |ay
def nE(r:Rec):zdt->zdt
 | .done E H rs=>.done E H (r::rs)
 | .ay=>.ay
def nF(M:aD->Hp->zdt)(H:Hp):Option aD->zdt
 |some E=>M E H
 |none=>.ay
def jd(ih:zdc->Res)(f N:Nat)(Z:qs):qs->aD->Hp->zdt
 |[],E,H=>.done E H []
 |o::rest,E,H=>match jc Z E o with
  |true=>match ej P cfg ih f E H o.op with
   | .val v H'=>nE ⟨o,true,E,H,v,H'⟩ (nF (jd ih f N Z rest) H' (fo N E o.dst v))
   |_=>.ay
  |false=>nE ⟨o,false,E,H,ea,H⟩ (nF (jd ih f N Z rest) H (fo N E o.dst ea))
def preds(o:Oper):qx:=(o.after.toList.filter (Region.binds .any)).map (·.on)
def vR:qx->qx->qx
 |acc,[]=>acc
 |acc,x::xs=>match acc.contains x with
  |true=>vR acc xs
  |false=>vR (x::acc) xs
def xW(l:qx):qx:=vR [] l
def hZ:qs->List qx->List qx
 |[],acc=>acc
 |o::rest,acc=>hZ rest (acc++[xW (preds o++(preds o).flatMap fun i=>acc.getD i [])])
def G7(o:Oper):qx:=o.dst.toList++o.op.operands.toList.filterMap fun|.tmp t=>some t |_=>none
def sU(Z:qs)(o:Oper):qx:=G7 o++(match o.guard with|some (j,_)=>((Z[j]?).bind (·.dst)).toList|none=>[])
def lW(o:Oper):Bool:=match gJ o.op with|.ei=>true |_=>false
def sV(o:Oper):Bool:=match gJ o.op with|.make=>true |_=>false
def clash(o:qs)(p q:Oper):Bool:=
 (lW p&&(lW q||sV q)) ||
 (p.dst.toList.any fun d=>(sU o q).contains d)||(q.dst.toList.any fun d=>(sU o p).contains d)
def lX(o:qs):Bool:=
 let A:=hZ o []
 (List.range o.length).all fun j=>match o[j]? with
   |none=>true
   |some q=>(preds q).all (·< j)&&(match q.guard with|some (g,_)=>(A.getD j []).contains g|none=>true) &&
    (List.range j).all fun i=>match o[i]? with
      |none=>true
      |some p=>!clash o p q||(A.getD j []).contains i
def je(ops:qs):qx:=(List.range ops.length).filter fun i=>match ops[i]? with
 |some o=>lW o
 |none=>false
def cB(rs:List Rec)(H':Hp)(e:Nat):Hp:=match rs[e]? with
 |some r=>r.H
 |none=>H'
def HB.beq:HB->HB->Bool
 | .cells a i t,.cells b j u=>kM a b&&Nat.beq i j&&(t == u)
 | .map a,.map b=>kM (a.map (·.1)) (b.map (·.1))&&kM (a.map (·.2)) (b.map (·.2))
 |_,_=>false
def zdR(r:Rec)(H:Hp):Bool:=
 match gJ r.o.op with
 | .read=>match ej P cfg (fun _=>.ay) 0 r.E H r.o.op with
   | .val v _=>AV.beq v r.val
   |_=>false
 | .make=>match H.get r.H.next,r.H'.get r.H.next with
   |some b,some b'=>HB.beq b b'
   |_,_=>false
 |_=>true
def Ak(A:List qx)(O:qx)(i m:Nat):Bool:=
 !(O.any (fun e=>(A.getD i []).contains e&&Nat.ble m e)||O.any (fun e=>(A.getD e []).contains i&&Nat.blt e m))
def kN(ops:qs):qD:=
 (List.range ops.length).flatMap fun i=>match ops[i]? with
   |some o=>match gJ o.op with
    | .read|.make=>((je ops++[ops.length]).filter (Ak (hZ ops []) (je ops) i)).map fun m=>(i,m)
    |_=>[]
   |none=>[]
def ut(need:qD)(rs:List Rec)(H':Hp):Bool:=
 rs.all (fun r=>Nat.ble r.H.next r.H'.next)&&need.all fun p=>match rs[p.1]? with
  |some r=>!r.did||zdR P cfg r (cB rs H' p.2)
  |none=>true
def jf(ih:zdc->Res)(f N:Nat)(ops:qs)(E:aD)(H:Hp):Res:=
 match lX ops with
 |true=>match jd P cfg ih f N ops ops E H with
  | .done E' H' rs=>match ut P cfg (kN ops) rs H' with
    |true=>.done .normal E' H'
    |false=>.ay
  | .ay=>.ay
 |false=>.ay
def iF:qx->Nat->Nat
 |[],_=>0
 |x::xs,i=>match Nat.beq x i with
  |true=>0
  |false=>iF xs i+1
def rK(ord:qx)(o:Oper):Oper:=
 {o with after:=((o.after.toList.filter (Region.binds .any)).map fun e=>{e with on:=iF ord e.on}).toArray,guard:=match o.guard with|some (j,b)=>some (iF ord j,b)|none=>none}
def eK(ord:qx)(l:qs):qs:=ord.filterMap fun i=>match l[i]? with
 |some o=>some (rK ord o)
 |none=>none
def uu(ord:qx)(l:qs):Bool:=
 Nat.beq ord.length l.length &&
 (List.range l.length).all (fun k=>(match ord[k]? with|some i=>Nat.blt i l.length&&Nat.beq (iF ord i) k|none=>false)&&Nat.blt (iF ord k) l.length&&(match ord[iF ord k]? with|some i=>Nat.beq i k|none=>false)) &&
 l.all (fun o=>(preds o).all (fun p=>Nat.blt p l.length)&&(match o.guard with|some (j,_)=>Nat.blt j l.length|none=>true))
def eC(q p:Nat)(l:qs):qs:=match l[q]? with
 |some o=>l.set q {o with after:=o.after.push {on:=p,ground:=.data} }
 |none=>l
def T.beq{A:Type}(Y:A->A->Bool):T A->T A->Bool
 | .e,.e=>true
 | .n v l r,.n J M I=>(match v,J with|some a,some b=>Y a b|none,none=>true |_,_=>false)&&T.beq Y l M&&T.beq Y r I
 |_,_=>false
def xX(ops:qs)(O Y:aD)(z Z:Hp):Bool:=
 ops.all (fun o=>match o.dst with|some d=>AV.beq (O.at d) (Y.at d)|none=>true)&&Nat.beq z.next Z.next&&T.beq HB.beq z.t Z.t
def sW(ops:qs):Res->Res->Res
 | .done .normal E1 H1,.done .normal Z Y=>match xX ops E1 Z H1 Y with
   |true=>.done .normal E1 H1
   |false=>.ay
 |_,_=>.ay
def jg(ih:zdc->Res)(f N:Nat)(E:aD)(H:Hp):zdk->qs->Res
 | .text,ops=>jf P cfg ih f N ops E H
 | .bm ord,ops=>match uu ord ops with
   |true=>jf P cfg ih f N (eK ord ops) E H
   |false=>.ay
 | .split p q a b,ops=>match Nat.beq p q with
   |true=>.ay
   |false=>sW ops (jg ih f N E H a (eC q p ops)) (jg ih f N E H b (eC p q ops))
def jN(M:aD->Hp->Res)(H:Hp):Option aD->Res
 |some E=>M E H
 |none=>.ay
def jA(ih:zdc->Res)(f N:Nat)(Z:qs)(ops:qs):aD->Hp->Res:=
 List.rec (motive:=fun _=>aD->Hp->Res) (fun E H=>.done .normal E H)
  (fun o _ M E H=>match jc Z E o with
    |true=>match ej P cfg ih f E H o.op with
     | .val v H=>jN M H (fo N E o.dst v)
     |_=>.ay
    |false=>jN M H (fo N E o.dst ea)) ops
def xY:Nat->aD
 |0=>.e
 |d+1=>.n (some ea) (xY d) (xY d)
def uw(N:Nat):aD:=xY (Nat.log2 N+1)
def a3:Nat->qm->aD->aD
 |_,[],E=>E
 |i,v::vs,E=>a3 (i+1) vs (T.set E i (some v))
def cc(E:aD)(H:Hp):ResultVar->qv
 | .tmp t=>some (E.at t)
 | .cell a t=>jL P H t (E.at a)
def bU(E:aD)(H:Hp):List ResultVar->Option qm
 |[]=>some []
 |r::rs=>match cc P E H r,bU E H rs with
  |some v,some vs=>some (v::vs)
  |_,_=>none
def aB:qm->AV
 |[v]=>v
 |vs=>.aW vs
def vS(rs:List ResultVar)(E:aD)(H:Hp):Res:=
 match bU P E H rs with
 |some vs=>.val (aB vs) H
 |none=>.ay
def nG(ih:zdc->Res)(f:FuncId)(j:qm)(H:Hp):Res:=
 match P.funcs[f]? with
 |some Y=>match Y.body with
  |some c=>match ih (.aw f (max Y.ntmps j.length) c (a3 0 j (uw (max Y.ntmps j.length))) H)with
   | .done .normal E H=>vS P Y.results.toList E H
   | .done .ret E H=>vS P Y.results.toList E H
   |_=>.ay
  |none=>.ay
 |none=>.ay
def nH(ih:zdc->Res)(f N:Nat)(b:Code):Res->Res
 | .done .normal E H=>ih (.aw f N b E H)
 |r=>r
def mE(id:Nat):Res->Res
 | .done (.exit Z) E H=>match Nat.beq Z id with
   |true=>.done .normal E H
   |false=>.done (.exit Z) E H
 |r=>r
def ux(ih:zdc->Res)(f N:Nat)(x:Operand)(a b:Code)(E:aD)(H:Hp):Res:=
 match aV E x with
 |some (.bool true)=>ih (.aw f N a E H)
 |some (.bool false)=>ih (.aw f N b E H)
 |_=>.ay
def gk(z:Nat):Nat->qm->List qm
 |0,_=>[]
 |n+1,l=>l.take z::gk z n (l.drop z)
def fW(g:AV->Hp->Option (AV×Hp)):qm->Hp->Option (qm×Hp)
 |[],H=>some ([],H)
 |c::cs,H=>match g c H with
  |some (d,H)=>match fW g cs H with
   |some (C,H)=>some (d::C,H)
   |none=>none
  |none=>none
def eP:Nat->AV->Hp->Option (AV×Hp)
 |0,_,_=>none
 |n+1,v,H=>match v with
  | .sl r F j z=>match H.get r with
    |some (.cells cs S I)=>match Nat.ble (F+j*z) cs.length&&Nat.ble S cs.length with
     |true=>match fW (eP n) ((cs.drop F).take (j*z)) (H.set r (.cells cs (max S (F+j*z)) I))with
      |some (l,H)=>some (.ai (gk z j l),H)
      |none=>none
     |false=>none
    |_=>none
  | .agg cs=>match fW (eP n) cs H with
    |some (C,H)=>some (.agg C,H)
    |none=>none
  | .ptr _ _=>none
  | .map _=>none
  |v=>some (v,H)
def xZ(ih:zdc->Res)(f:FuncId)(j:qm)(H:Hp):Option (qm×Hp)->Res
 |some (Z,H')=>match cfg.call f Z with
  |some r=>.val r H'
  |none=>nG P ih f j H
 |none=>nG P ih f j H
def vT:Bool->Res->Res
 |true,.val v H=>gI (eP 100 v H)
 |_,r=>r
def nI(ih:zdc->Res)(f:FuncId)(j:qm)(H:Hp):Res:=match cfg.ao f with
 |true=>xZ P cfg ih f j H (fW (eP 100) j H)
 |false=>nG P ih f j H
def step(ih:zdc->Res):zdc->Res
 | .call f j H=>match cfg.call f j with
   |some r=>.val r H
   |none=>vT (cfg.am f) (nI P cfg ih f j H)
 | .aw f N c E H=>match c with
   | .skip=>.done .normal E H
   | .region id ops draw=>match draw with
     |false=>jA P cfg ih f N ops.toList ops.toList E H
     |true=>jg P cfg ih f N E H (cfg.bI f id) ops.toList
   | .seq a b=>nH ih f N b (ih (.aw f N a E H))
   | .cond x a b=>ux ih f N x a b E H
   | .block id a=>mE id (ih (.aw f N a E H))
   | .loop a=>nH ih f N (.loop a) (ih (.aw f N a E H))
   | .exit id=>.done (.exit id) E H
   | .ret=>.done .ret E H
   |_=>.ay
def dw(n:Nat):zdc->Res:=Nat.rec (motive:=fun _=>zdc->Res) (fun _=>.ay) (fun _ ih=>step P cfg ih) n
end
def bV:Hp:={next:=0,t:=.e}
def iceL(g:AV->qv):qm->Option qm
 |[]=>some []
 |c::cs=>match g c,iceL g cs with
  |some d,some C=>some (d::C)
  |_,_=>none
def sX(g:AV->qv):List qm->Option (List qm)
 |[]=>some []
 |c::cs=>match iceL g c,sX g cs with
  |some d,some C=>some (d::C)
  |_,_=>none
def iceV(H:Hp):Nat->AV->qv
 |0,_=>none
 |n+1,v=>match v with
  | .sl r F j z=>match H.get r with
    |some (.cells cs _ _)=>match iceL (iceV H n) ((cs.drop F).take (j*z))with
     |some l=>if l.length=j*z then some (.ai (gk z j l))else none
     |none=>none
    |_=>none
  | .ai V=>match sX (iceV H n) V with
    |some K=>some (.ai K)
    |none=>none
  | .agg cs=>match iceL (iceV H n) cs with
    |some C=>some (.agg C)
    |none=>none
  | .aW cs=>match iceL (iceV H n) cs with
    |some C=>some (.aW C)
    |none=>none
  | .int k a=>some (.int k a)
  | .sx k e=>some (.sx k e)
  | .bool b=>some (.bool b)
  | .ae s=>some (.ae s)
  | .bK=>some .bK
  | .a5=>some .a5
  | .bP=>some .bP
  | .ab=>some .ab
  |_=>none
def Al(P:Program)(cfg:Cfg)(n m:Nat)(f:FuncId)(j:qm):qv:=
 match dw P cfg n (.call f j bV)with
 | .val v H=>iceV H m v
 |_=>none
def sY(m:Nat)(j:qm):Bool:=
 match iceL (iceV bV m) j with
 |some Z=>kM Z j
 |none=>false
def Do(P:Program)(cfg:Cfg)(n m:Nat)(f:FuncId)(j:qm)(r:AV):Bool:=
 match Al P cfg n m f j with
 |some q=>AV.beq q r
 |none=>false
def uy:List (FuncId×qm×AV)->FuncId->qm->qv
 |[],_,_=>none
 |p::l,f,args=>match Nat.beq p.1 f with
  |true=>match kM p.2.1 args with
   |true=>some p.2.2
   |false=>uy l f args
  |false=>uy l f args
end
end Go.Ab
