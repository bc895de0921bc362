/- Parts: AbDefs. -/
import GoSem.Step
set_option linter.unusedSimpArgs false
set_option linter.unusedVariables false
set_option linter.unusedSectionVars false
set_option linter.defProp false
set_option maxHeartbeats 32000000
namespace Go.Ab
noncomputable section
open Go
inductive T (α:Type) where
 |e
 |n (v:Option α) (l r:T α)
def il{M:Type}(b:Bool)(x y:M):M:=Bool.rec y x b
def T.get{M:Type}(t:T M):Nat->Option M:=
 T.rec (motive:=fun _=>Nat->Option M) (fun _=>none)
  (fun v _ _ V m k=>il (Nat.beq k 0) v (il (Nat.beq (Nat.mod k 2) 1) (V (Nat.div k 2)) (m (Nat.sub (Nat.div k 2) 1)))) t
def pR{M:Type}(v:Option M)(f:Nat):T M->Nat->T M:=
 Nat.rec (motive:=fun _=>T M->Nat->T M) (fun t _=>t)
  (fun _ ih t k=>T.casesOn t
    (il (Nat.beq k 0) (.n v .e .e) (il (Nat.beq (Nat.mod k 2) 1) (.n none (ih .e (Nat.div k 2)) .e) (.n none .e (ih .e (Nat.sub (Nat.div k 2) 1)))))
    (fun u l r=>il (Nat.beq k 0) (.n v l r) (il (Nat.beq (Nat.mod k 2) 1) (.n u (ih l (Nat.div k 2)) r) (.n u l (ih r (Nat.sub (Nat.div k 2) 1)))))) f
def T.set{M:Type}(t:T M)(k:Nat)(v:Option M):T M:=pR v (k+1) t k
inductive Sx where
 |var (i:Nat)
 |lit (n:Int)
 |bin (op:BinOp) (k:IntKind) (a b:Sx)
 |conv (k:IntKind) (a:Sx)
inductive AV where
 |int (k:IntKind) (n:Int)
 |sx (k:IntKind) (e:Sx)
 |bool (b:Bool)
 |str (s:List UInt8)
 |nilP|nilM|nilF|nilS
 |ptr (r:Nat) (off:Nat)
 |iptr (cs:List AV)
 |sl (r off len z:Nat)
 |lst (xs:List (List AV))
 |map (r:Nat)
 |clo (f:Nat) (cap:List AV)
 |agg (cs:List AV)
 |tup (vs:List AV)
inductive HB where
 |cells (cs:List AV) (imm:Nat) (tip:Bool)
 |map (es:List (AV×AV))
structure Hp where
 next:Nat
 t:T HB
def Hp.get(h:Hp)(r:Nat):Option HB:=h.t.get r
def Hp.set(h:Hp)(r:Nat)(b:HB):Hp:={next:=h.next,t:=h.t.set r (some b) }
def Hp.kill(h:Hp)(r:Nat):Hp:={next:=h.next,t:=h.t.set r none}
def Hp.alloc(h:Hp)(b:HB):Hp:={next:=h.next+1,t:=h.t.set h.next (some b) }
inductive Plan where
 |text
 |perm (ord:List Nat)
 |split (p q:Nat) (a b:Plan)
structure Cfg where
 keep:FuncId->Bool
 dec:BinOp->Sx->Sx->Option Bool:=fun _ _ _=>none
 call:FuncId->List AV->Option AV:=fun _ _=>none
 ice:FuncId->Bool:=fun _=>false
 plan:FuncId->Nat->Plan:=fun _ _=>.text
 froz:FuncId->Bool:=fun _=>false
abbrev aw:=T AV
def zd1:AV:=.tup []
def aw.at(E:aw)(t:Nat):AV:=(T.get E t).getD zd1
def tF:Value->Option AV
 | .int k n=>some (.int k n)
 | .bool b=>some (.bool b)
 | .string s=>some (.str s.data.toList)
 | .pointer none=>some .nilP
 | .slice none 0 0=>some .nilS
 | .map none=>some .nilM
 | .nilFunc=>some .nilF
 |_=>none
def rO:Value->Option AV
 | .agg W=>(W.toList.mapM tF).map .agg
 |v=>tF v
def zcV(E:aw):Operand->Option AV
 | .tmp t=>some (E.at t)
 | .const v=>rO v
 | .global _=>none
 | .func f=>some (.clo f [])
def zeM(E:aw):List Operand->Option (List AV)
 |[]=>some []
 |x::xs=>match zcV E x,zeM E xs with
  |some v,some vs=>some (v::vs)
  |_,_=>none
def AV.cells:AV->List AV
 | .agg W=>W
 |v=>[v]
def AV.one:AV->Bool
 | .agg _|.tup _=>false
 |_=>true
section
variable (P:Program)
def zc8(t:TypeId):Option Nat:=(P.info? t).map (·.size)
def zdz(t:TypeId):Option Nat:=(P.info? t).map (·.bytes)
def nD(t:TypeId):Option AV:=
 match P.info? t with
 |some {zero:=some z,.. }=>rO z
 |_=>none
def zdq(t:TypeId):Option (List AV):=
 match nD P t with
 |some v=>some v.cells
 |none=>none
def zc1(t:TypeId)(cs:List AV)(off:Nat):Option AV:=
 match P.underlying t with
 |some (.struct _)|some (.array _ _)=>
  match zc8 P t with
  |some s=>let l:=(cs.drop off).take s;if l.length=s then some (.agg l)else none
  |none=>none
 |some _=>cs[off]?
 |none=>none
def zep(H:Hp)(t:TypeId):AV->Option AV
 | .ptr r M=>match H.get r with
   |some (.cells W _ _)=>zc1 P t W M
   |_=>none
 | .iptr W=>zc1 P t W 0
 |_=>none
def splice(cs:List AV)(off:Nat)(L:List AV):List AV:=cs.take off++L++cs.drop (off+L.length)
def zeP(H:Hp)(t:TypeId)(a v:AV):Option Hp:=
 match a with
 | .ptr r M=>match H.get r,zc8 P t with
   |some (.cells W g O),some s=>
    if v.cells.length=s/\g<=M/\M+s<=W.length/\v.cells.all AV.one then some (H.set r (.cells (splice W M v.cells) g O))else none
   |_,_=>none
 |_=>none
def zcZ(t:TypeId)(a:AV)(i:Nat):Option AV:=
 match P.underlying t with
 |some (.struct W)=>match W[i]? with
  |some f=>match zc8 P f.type with
   |some (_+1)=>match a with
    | .ptr r M=>some (.ptr r (M+f.offset))
    | .iptr Z=>some (.iptr (Z.drop f.offset))
    |_=>none
   |_=>none
  |none=>none
 |_=>none
def zdf(t:TypeId)(x:AV)(i:Nat):Option AV:=
 match P.underlying t,x with
 |some (.struct W),.agg Z=>match W[i]? with
  |some f=>zc1 P f.type Z f.offset
  |none=>none
 |_,_=>none
def zcM(n:Int):Option Nat:=match n with|.ofNat k=>some k |_=>none
def zdn(t:TypeId)(x i:AV):Option AV:=
 match i with
 | .int _ (.ofNat k)=>match P.underlying t with
   |some (.slice e)=>match zc8 P e with
    |some s=>match x with
     | .sl r M W _=>if k<W then some (.ptr r (M+k*s))else none
     | .lst C=>match C[k]? with
       |some A=>if A.length=s then some (.iptr A)else none
       |none=>none
     |_=>none
    |none=>none
   |some (.array n e)=>match zc8 P e with
    |some s=>match x with
     | .ptr r M=>if k<n then some (.ptr r (M+k*s))else none
     |_=>none
    |none=>none
   |_=>none
 |_=>none
def lM(t:TypeId)(x i:AV):Option AV:=
 match i with
 | .int _ (.ofNat k)=>match P.underlying t,x with
   |some .string,.str s=>match s[k]? with
    |some b=>some (.int .u8 b.toNat)
    |none=>none
   |some (.array n e),.agg W=>if k<n then (match zc8 P e with|some s=>zc1 P e W (k*s)|none=>none)else none
   |_,_=>none
 |_=>none
def yL(d:Nat):Option AV->Option Nat
 |none=>some d
 |some (.int _ (.ofNat k))=>some k
 |some _=>none
def zeF(t:TypeId)(x:AV)(lo C:Option AV):Option AV:=
 match P.underlying t,x with
 |some .string,.str s=>
  match yL 0 lo,yL s.length C with
  |some l,some h=>if l<=h/\h<=s.length then some (.str ((s.drop l).take (h-l)))else none
  |_,_=>none
 |some (.slice e),x=>match zc8 P e with
  |some z=>match x with
   | .sl r M W L=>match yL 0 lo,yL W C with
     |some l,some h=>if l<=h/\h<=W/\L=z then (if l=h then some (.lst [])else some (.sl r (M+l*z) (h-l) z))else none
     |_,_=>none
   | .lst Z=>match yL 0 lo,yL Z.length C with
     |some l,some h=>if l<=h/\h<=Z.length then (match (Z.drop l).take (h-l)with
      |[]=>some (.lst [])
      |row::rows=>if row.length=z then some (.lst (row::rows))else none)else none
     |_,_=>none
   | .nilS=>match yL 0 lo,yL 0 C with
     |some 0,some 0=>some .nilS
     |_,_=>none
   |_=>none
  |none=>none
 |_,_=>none
def kY(H:Hp)(t:TypeId)(x:AV)(lo C:Option AV):Option AV:=
 match x with
 | .ptr r M=>match P.underlying t,H.get r with
   |some (.array n e),some (.cells W _ _)=>match zc8 P e,yL 0 lo,yL n C with
    |some z,some l,some h=>if l<=h/\h<=n/\M+n*z<=W.length then (if l=h then some (.lst [])else some (.sl r (M+l*z) (h-l) z))else none
    |_,_,_=>none
   |_,_=>none
 |x=>zeF P t x lo C
def mn(O:Nat->Option (Nat×Nat))(cells:List AV):List (Nat×AV)->Option (List AV)
 |[]=>some cells
 |(i,v)::rest=>match O i with
  |none=>none
  |some (M,z)=>if v.cells.length≠z\/M+v.cells.length > cells.length then none else mn O (splice cells M v.cells) rest
def zfa(E:aw):List (Nat×Operand)->Option (List (Nat×AV))
 |[]=>some []
 |(i,x)::rest=>match zcV E x,zfa E rest with
  |some v,some vs=>some ((i,v)::vs)
  |_,_=>none
def C9(W:List Field):Option (List (Nat×Nat)):=W.mapM fun f=>(P.info? f.type).map fun i=>(f.offset,i.size)
def zeb(t:TypeId)(Z:List (Nat×AV)):Option AV:=
 match zdq P t,P.underlying t with
 |some z,some (.struct W)=>match C9 P W.toList with
  |some A=>match mn (fun i=>A[i]?) z Z with
   |some Y=>some (.agg Y)
   |none=>none
  |none=>none
 |some z,some (.array _ e)=>match zc8 P e with
  |some s=>match mn (fun i=>some (i*s,s)) z Z with
   |some Y=>some (.agg Y)
   |none=>none
  |none=>none
 |_,_=>none
def gF(z:List AV):Nat->List AV
 |0=>[]
 |n+1=>z++gF z n
def zej(H:Hp)(t:TypeId)(len:Nat)(Z:List (Nat×AV)):Option (AV×Hp):=
 match P.underlying t with
 |some (.slice e)=>match zc8 P e,zdq P e with
  |some s,some z=>if len*s<=16777216/\z.length=s then (match mn (fun i=>some (i*s,s)) (gF z len) Z with
   |some W=>some (.sl H.next 0 len s,H.alloc (.cells W 0 true))
   |none=>none)else none
  |_,_=>none
 |_=>none
def zef:Nat:=70368744177664   -- 2^46
def zeN(H:Hp)(s:Nat):AV->Option (Nat×List AV)
 | .sl r M W _=>match H.get r with
   |some (.cells Z _ _)=>let l:=(Z.drop M).take (W*s);if l.length=W*s then some (W,l)else none
   |_=>none
 | .lst C=>if C.all (fun A=>A.length == s)then some (C.length,C.flatten)else none
 | .nilS=>some (0,[])
 | .str b=>if s=1 then some (b.length,b.map fun x=>.int .u8 x.toNat)else none
 |_=>none
def zfz(keep:Bool)(H:Hp)(s b:Nat)(J:AV)(n:Nat)(L:List AV):Option (AV×Hp):=
 match J with
 | .nilS=>if n*b<=zef/\n<=zef then some (.sl H.next 0 n s,H.alloc (.cells L 0 true))else none
 | .sl r M W z=>match H.get r with
   |some (.cells Z g true)=>
    if (W+n)*b<=zef/\W+n<=zef/\M+W*s=Z.length/\z=s/\g<=Z.length then
     (if keep then some (.sl H.next 0 (W+n) s,(H.set r (.cells Z Z.length false)).alloc (.cells (Z.drop M++L) (W*s) true))
      else some (.sl H.next 0 (W+n) s,(H.kill r).alloc (.cells (Z.drop M++L) (g-M) true)))
    else none
   |_=>none
 |_=>none
def gh(keep:Bool)(H:Hp)(s:Nat):AV->Hp
 | .sl r M W _=>match H.get r with
   |some (.cells Z g true)=>match !keep&&Nat.blt (M+W*s) Z.length&&Nat.ble g (M+W*s)with
    |true=>H.set r (.cells (Z.take (M+W*s)) g true)
    |false=>H
   |_=>H
 |_=>H
def kw(t:TypeId):Bool:=
 match P.underlying t with
 |some (.slice _)|some .string=>true
 |_=>false
def zen(keep:Bool)(H:Hp)(t u:TypeId)(J x:AV):Option (AV×Hp):=
 match P.underlying t with
 |some (.slice e)=>match zc8 P e,zdz P e,zdq P e with
  |some s,some b,some z=>match kw P u,zeN H s x with
   |true,some (0,_)=>match J with
    | .sl ..|.lst _|.nilS=>some (J,H)
    |_=>none
   |true,some (n,L)=>if L.all AV.one/\z.length=s then zfz keep (gh keep H s J) s b J n L else none
   |_,_=>none
  |_,_,_=>none
 |_=>none
def kZ(K:TypeDesc)(x y:AV):Option Bool:=
 match K with
 | .int _=>match x,y with
   | .int k a,.int k' b=>if k=k' then some (a == b)else none
   |_,_=>none
 | .string=>match x,y with
   | .str a,.str b=>some (a == b)
   |_,_=>none
 | .bool=>match x,y with
   | .bool a,.bool b=>some (a == b)
   |_,_=>none
 |_=>none
def zfi(t:TypeId):Option TypeDesc:=
 match P.underlying t with
 |some (.int k)=>some (.int k)
 |some .string=>some .string
 |some .bool=>some .bool
 |_=>none
def zek(K:TypeDesc)(k:AV):List (AV×AV)->Nat->Option (Option (Nat×AV))
 |[],_=>some none
 |(k',v)::es,i=>match kZ K k k' with
  |some true=>some (some (i,v))
  |some false=>zek K k es (i+1)
  |none=>none
def pS(H:Hp):AV->Option (List (AV×AV))
 | .nilM=>some []
 | .map r=>match H.get r with
   |some (.map U)=>some U
   |_=>none
 |_=>none
def tG(ok:Bool)(v:AV)(W:Bool):AV:=match ok with
 |true=>.tup [v,.bool W]
 |false=>v
def zeY(H:Hp)(t:TypeId)(m k:AV)(ok:Bool):Option AV:=
 match P.underlying t with
 |some (.map M e)=>match pS H m,zfi P M with
  |some U,some K=>match zek K k U 0 with
   |some (some (_,v))=>some (tG ok v true)
   |some none=>match nD P e with
    |some v=>some (tG ok v false)
    |none=>none
   |none=>none
  |_,_=>none
 |_=>none
def zfl(H:Hp)(t:TypeId)(m k v:AV):Option Hp:=
 match P.underlying t with
 |some (.map M _)=>match m,zfi P M with
  | .map r,some K=>match H.get r with
    |some (.map U)=>match zek K k U 0 with
     |some (some (i,_))=>some (H.set r (.map (U.set i (k,v))))
     |some none=>some (H.set r (.map (U++[(k,v)])))
     |none=>none
    |_=>none
  |_,_=>none
 |_=>none
def oA:List UInt8->List UInt8->Bool
 |_,[]=>false
 |[],_::_=>true
 |a::x,b::y=>a<b||(a == b&&oA x y)
def zeZ(op:BinOp)(k:IntKind)(a b:Int):Option AV:=
 match op with
 | .add=>some (.int k (k.wrap (a+b)))
 | .sub=>some (.int k (k.wrap (a-b)))
 | .mul=>some (.int k (k.wrap (a*b)))
 | .quo=>if b=0 then none else some (.int k (k.wrap (a.tdiv b)))
 | .rem=>if b=0 then none else some (.int k (a.tmod b))
 | .and=>some (.int k (k.wrap (BitVec.ofInt k.bits a &&& BitVec.ofInt k.bits b).toNat))
 | .or=>some (.int k (k.wrap (BitVec.ofInt k.bits a |||BitVec.ofInt k.bits b).toNat))
 | .xor=>some (.int k (k.wrap (BitVec.ofInt k.bits a^^^ BitVec.ofInt k.bits b).toNat))
 | .andNot=>some (.int k (k.wrap (BitVec.ofInt k.bits a &&& ~~~ BitVec.ofInt k.bits b).toNat))
 | .eql=>some (.bool (a == b))
 | .neq=>some (.bool (a != b))
 | .lss=>some (.bool (a<b))
 | .leq=>some (.bool (a<=b))
 | .gtr=>some (.bool (a > b))
 | .geq=>some (.bool (a>=b))
 |_=>none
def zh(op:BinOp)(k:IntKind)(a b:Int):Int:=
 match zeZ op k a b with
 |some (.int _ n)=>n
 |_=>0
def Sx.eval(ρ:Nat->Int):Sx->Int
 | .var i=>ρ i
 | .lit n=>n
 | .bin Z k a b=>zh Z k (a.eval ρ) (b.eval ρ)
 | .conv k a=>k.wrap (a.eval ρ)
def vT:AV->Option (IntKind×Sx)
 | .int k n=>some (k,.lit n)
 | .sx k e=>some (k,e)
 |_=>none
def zi(D:BinOp->Sx->Sx->Option Bool)(op:BinOp)(k:IntKind)(a b:Sx):Option AV:=
 match op with
 | .add=>some (.sx k (.bin .add k a b))
 | .sub=>some (.sx k (.bin .sub k a b))
 | .mul=>some (.sx k (.bin .mul k a b))
 | .and=>some (.sx k (.bin .and k a b))
 | .or=>some (.sx k (.bin .or k a b))
 | .xor=>some (.sx k (.bin .xor k a b))
 | .andNot=>some (.sx k (.bin .andNot k a b))
 | .quo=>match D .eql b (.lit 0)with
   |some false=>some (.sx k (.bin .quo k a b))
   |_=>none
 | .rem=>match D .eql b (.lit 0)with
   |some false=>some (.sx k (.bin .rem k a b))
   |_=>none
 | .shl=>none
 | .shr=>none
 |op=>match D op a b with
  |some r=>some (.bool r)
  |none=>none
def vU(D:BinOp->Sx->Sx->Option Bool)(op:BinOp)(x y:AV):Option AV:=
 match vT x,vT y with
 |some (k,a),some (k',b)=>if k=k' then zi D op k a b else none
 |_,_=>none
def tH(op:BinOp)(a b:List UInt8):Option AV:=
 match op with
 | .add=>if a.length+b.length<=zef then some (.str (a++b))else none
 | .eql=>some (.bool (a == b))
 | .neq=>some (.bool !(a == b))
 | .lss=>some (.bool (oA a b))
 | .leq=>some (.bool (oA a b||a == b))
 | .gtr=>some (.bool !(oA a b||a == b))
 | .geq=>some (.bool !(oA a b))
 |_=>none
def vV(t:TypeId)(x y:AV):Option Bool:=
 match P.underlying t with
 |some .bool=>match x,y with
  | .bool a,.bool b=>some (a == b)
  |_,_=>none
 |some (.pointer _)=>match x,y with
  | .nilP,.nilP=>some true
  | .ptr _ _,.nilP|.nilP,.ptr _ _|.iptr _,.nilP|.nilP,.iptr _=>some false
  |_,_=>none
 |some (.map _ _)=>match x,y with
  | .nilM,.nilM=>some true
  | .map _,.nilM|.nilM,.map _=>some false
  |_,_=>none
 |some (.func _ _ _)=>match x,y with
  | .nilF,.nilF=>some true
  | .clo _ _,.nilF|.nilF,.clo _ _=>some false
  |_,_=>none
 |some (.slice _)=>match x,y with
  | .nilS,.nilS=>some true
  | .sl _ _ _ _,.nilS|.nilS,.sl _ _ _ _|.lst (_::_),.nilS|.nilS,.lst (_::_)=>some false
  |_,_=>none
 |_=>none
def zj(t:TypeId)(x y:AV):Option Bool:=
 match x,y with
 | .int k a,.int k' b=>match P.underlying t with
   |some (.int _)=>if k=k' then some (a == b)else none
   |_=>none
 | .str a,.str b=>match P.underlying t with
   |some .string=>some (a == b)
   |_=>none
 |x,y=>vV P t x y
def rP(xs W:List AV):List Field->Option Bool
 |[]=>some true
 |f::fs=>match f.name == "_" with
  |true=>rP xs W fs
  |false=>match zc1 P f.type xs f.offset,zc1 P f.type W f.offset with
   |some a,some b=>match zj P f.type a b with
    |some true=>rP xs W fs
    |some false=>some false
    |none=>none
   |_,_=>none
def vW(t:TypeId)(xs Z:List AV):Option Bool:=
 match P.underlying t with
 |some (.struct W)=>match P.stoodInHeld t||P.eqGuardType P.depth t with
  |true=>none
  |false=>rP P xs Z W.toList
 |_=>none
def pT(t:TypeId)(x y:AV):Option Bool:=
 match x,y with
 | .agg C,.agg W=>vW P t C W
 |x,y=>vV P t x y
def oB(op:BinOp)(k:IntKind)(a b:Int):Option AV:=
 match b with
 | .ofNat m=>match op with
   | .shl=>some (.int k (k.wrap (a*2^ min m k.bits)))
   | .shr=>some (.int k (a.fdiv (2^ min m k.bits)))
   |_=>none
 |_=>none
def nE(op:BinOp)(k M:IntKind)(a b:Int):Option AV:=
 match op with
 | .shl=>oB .shl k a b
 | .shr=>oB .shr k a b
 |op=>if k=M then zeZ op k a b else none
def zk(op:BinOp)(t:TypeId)(x y:AV):Option AV:=
 match op with
 | .eql=>match pT P t x y with
   |some b=>some (.bool b)
   |none=>none
 | .neq=>match pT P t x y with
   |some b=>some (.bool !b)
   |none=>none
 |_=>none
def zdU(D:BinOp->Sx->Sx->Option Bool)(op:BinOp)(t:TypeId)(x y:AV):Option AV:=
 match x,y with
 | .int k a,.int k' b=>nE op k k' a b
 | .str a,.str b=>tH op a b
 | .sx k a,y=>vU D op (.sx k a) y
 | .int k a,.sx k' b=>vU D op (.int k a) (.sx k' b)
 |x,y=>zk P op t x y
def nF(op:UnOp)(x:AV):Option AV:=
 match op,x with
 | .neg,.sx k e=>some (.sx k (.bin .sub k (.lit 0) e))
 | .xor,.sx k e=>some (.sx k (.bin .xor k (.lit (if k.signed then -1 else k.max)) e))
 | .neg,.int k n=>zeZ .sub k 0 n
 | .xor,.int k n=>zeZ .xor k (if k.signed then -1 else k.max) n
 | .not,.bool b=>some (.bool !b)
 |_,_=>none
def pU:List AV->Option (List UInt8)
 |[]=>some []
 | .int .u8 n::cs=>match pU cs with
   |some bs=>some (UInt8.ofNat n.toNat::bs)
   |none=>none
 |_=>none
def ze3(H:Hp)(C j:TypeId)(x:AV):Option AV:=
 match P.underlying C,P.underlying j with
 |some (.slice e),some .string=>match P.underlying e with
  |some (.int .u8)=>match zeN H 1 x with
   |some (_,W)=>match pU W with
    |some bs=>match x with
     | .sl _ _ _ _|.nilS=>some (.str bs)
     |_=>none
    |none=>none
   |none=>none
  |_=>none
 |some _,some (.int k)=>match x with
  | .int _ n=>some (.int k (k.wrap n))
  | .sx _ e=>some (.sx k (.conv k e))
  |_=>none
 |some .string,some .string=>match x with
  | .str s=>some (.str s)
  |_=>none
 |_,_=>none
def zeA(H:Hp)(t:TypeId)(l c:AV):Option (AV×Hp):=
 match P.underlying t,l,c with
 |some (.slice e),.int _ (.ofNat l),.int _ (.ofNat c)=>match zc8 P e,zdz P e,zdq P e with
  |some s,some b,some z=>if l<=c/\c*b<=zef/\c<=zef/\z.length=s then some (.sl H.next 0 l s,H.alloc (.cells (gF z l) 0 true))else none
  |_,_,_=>none
 |_,_,_=>none
def extract(x:AV)(i:Nat):Option AV:=
 match x with
 | .tup vs=>vs[i]?
 |_=>none
def mm(L:Bool):AV->AV->Option AV
 | .int k x,.int _ y=>some (.int k (if (if L then decide (y > x)else decide (y<x))then y else x))
 |_,_=>none
def oC(L:Bool)(x:AV):List AV->Option AV
 |[]=>some x
 |y::ys=>match mm L x y with
  |some z=>oC L z ys
  |none=>none
def zdu(H:Hp)(t:TypeId)(x:AV):Option AV:=
 match P.underlying t with
 |some .string=>match x with
  | .str s=>some (.int .i64 s.length)
  |_=>none
 |some (.slice _)=>match x with
  | .sl _ _ n _=>some (.int .i64 n)
  | .lst C=>some (.int .i64 C.length)
  | .nilS=>some (.int .i64 0)
  |_=>none
 |some (.array n _)=>some (.int .i64 n)
 |some (.map _ _)=>match pS H x with
  |some U=>some (.int .i64 U.length)
  |none=>none
 |_=>none
def mp(keep:Bool)(H:Hp)(b:Builtin)(O:List TypeId)(args:List AV):Option (AV×Hp):=
 match b with
 | .append=>match O,args with
   |[t,u],[s,x]=>zen P keep H t u s x
   |_,_=>none
 | .len=>match O,args with
   |[t],[x]=>match zdu P H t x with
    |some v=>some (v,H)
    |none=>none
   |_,_=>none
 | .max=>match args with
   |x::xs=>match oC true x xs with
    |some v=>some (v,H)
    |none=>none
   |[]=>none
 | .min=>match args with
   |x::xs=>match oC false x xs with
    |some v=>some (v,H)
    |none=>none
   |[]=>none
 |_=>none
def ret(H:Hp):Option AV->Option (AV×Hp)
 |some v=>some (v,H)
 |none=>none
def vX(E:aw)(H:Hp)(c a b:Operand):Option (AV×Hp):=
 match zcV E c with
 |some (.bool true)=>ret H (zcV E a)
 |some (.bool false)=>ret H (zcV E b)
 |_=>none
def tI(H:Hp)(t:TypeId):Option (AV×Hp):=
 match zdq P t with
 |some z=>some (.ptr H.next 0,H.alloc (.cells z 0 true))
 |none=>none
def tJ(E:aw)(H:Hp)(x:Operand):Option (AV×Hp):=
 match zcV E x with
 |some v=>some (.ptr H.next 0,H.alloc (.cells v.cells 0 true))
 |none=>none
def vY(E:aw)(H:Hp)(t:TypeId)(i:Array (Nat×Operand)):Option (AV×Hp):=
 match zfa E i.toList with
 |some M=>ret H (zeb P t M)
 |none=>none
def tK(E:aw)(H:Hp)(t:TypeId)(len:Nat)(i:Array (Nat×Operand)):Option (AV×Hp):=
 match zfa E i.toList with
 |some M=>zej P H t len M
 |none=>none
def tL(E:aw)(H:Hp)(t:TypeId)(a:Operand):Option (AV×Hp):=
 match zcV E a with
 |some v=>ret H (zep P H t v)
 |none=>none
def vZ(E:aw)(H:Hp)(t:TypeId)(a x:Operand):Option (AV×Hp):=
 match zcV E a,zcV E x with
 |some a,some x=>match zeP P H t a x with
  |some H=>some (zd1,H)
  |none=>none
 |_,_=>none
def v2(E:aw)(H:Hp)(x:Operand):Option (AV×Hp):=
 match zcV E x with
 |some (.ptr r o)=>some (.ptr r o,H)
 |some (.iptr W)=>some (.iptr W,H)
 |_=>none
def v3(D:BinOp->Sx->Sx->Option Bool)(E:aw)(H:Hp)(op:BinOp)(t:TypeId)(x y:Operand):Option (AV×Hp):=
 match zcV E x,zcV E y with
 |some x,some y=>ret H (zdU P D op t x y)
 |_,_=>none
def v4(E:aw)(H:Hp)(op:UnOp)(x:Operand):Option (AV×Hp):=
 match zcV E x with
 |some x=>ret H (nF op x)
 |none=>none
def tM(E:aw)(H:Hp)(s d:TypeId)(x:Operand):Option (AV×Hp):=
 match zcV E x with
 |some x=>ret H (ze3 P H s d x)
 |none=>none
def v6(E:aw)(H:Hp)(fn:Fn)(first F:Array Operand):Option (AV×Hp):=
 match fn,first.toList,zeM E F.toList with
 | .func f,[],some vs=>some (.clo f vs,H)
 |_,_,_=>none
def tN(H:Hp)(r:Option Operand):Option (AV×Hp):=
 match r with
 |none=>some (.map H.next,H.alloc (.map []))
 |some _=>none
def tO(E:aw)(H:Hp)(t:TypeId)(l c:Operand):Option (AV×Hp):=
 match zcV E l,zcV E c with
 |some l,some c=>zeA P H t l c
 |_,_=>none
def ze4(E:aw):Option Operand->Option (Option AV)
 |none=>some none
 |some x=>match zcV E x with
  |some v=>some (some v)
  |none=>none
def tP(E:aw)(H:Hp)(t:TypeId)(x:Operand)(lo C L:Option Operand):Option (AV×Hp):=
 match L,zcV E x,ze4 E lo,ze4 E C with
 |none,some x,some l,some h=>ret H (kY P H t x l h)
 |_,_,_,_=>none
def v7(E:aw)(H:Hp)(t:TypeId)(x:Operand)(f:Nat):Option (AV×Hp):=
 match zcV E x with
 |some x=>ret H (zcZ P t x f)
 |none=>none
def v8(E:aw)(H:Hp)(t:TypeId)(x:Operand)(f:Nat):Option (AV×Hp):=
 match zcV E x with
 |some x=>ret H (zdf P t x f)
 |none=>none
def v9(E:aw)(H:Hp)(t:TypeId)(x i:Operand):Option (AV×Hp):=
 match zcV E x,zcV E i with
 |some x,some i=>ret H (zdn P t x i)
 |_,_=>none
def wa(E:aw)(H:Hp)(t:TypeId)(x i:Operand):Option (AV×Hp):=
 match zcV E x,zcV E i with
 |some x,some i=>ret H (lM P t x i)
 |_,_=>none
def tQ(E:aw)(H:Hp)(t:TypeId)(m k:Operand)(ok:Bool):Option (AV×Hp):=
 match zcV E m,zcV E k with
 |some m,some k=>ret H (zeY P H t m k ok)
 |_,_=>none
def wb(E:aw)(H:Hp)(t:TypeId)(m k v:Operand):Option (AV×Hp):=
 match zcV E m,zcV E k,zcV E v with
 |some m,some k,some v=>match zfl P H t m k v with
  |some H=>some (zd1,H)
  |none=>none
 |_,_,_=>none
def wc(E:aw)(H:Hp)(x:Operand)(i:Nat):Option (AV×Hp):=
 match zcV E x with
 |some x=>ret H (extract x i)
 |none=>none
def cr(D:BinOp->Sx->Sx->Option Bool)(E:aw)(H:Hp)(op:Op):Option (AV×Hp):=
 match op with
 | .move x=>ret H (zcV E x)
 | .assign x=>ret H (zcV E x)
 | .pick c a b=>vX E H c a b
 | .alloc t=>tI P H t
 | .box _ x=>tJ E H x
 | .build t Z=>vY P E H t Z
 | .buildSlice t W Z=>tK P E H t W Z
 | .load t a=>tL P E H t a
 | .store t a x=>vZ P E H t a x
 | .nilCheck x=>v2 E H x
 | .binOp op t x y _=>v3 P D E H op t x y
 | .unOp op _ x=>v4 E H op x
 | .convert s d x=>tM P E H s d x
 | .makeFunc Y first F=>v6 E H Y first F
 | .makeMap _ r=>tN H r
 | .makeSlice t l c=>tO P E H t l c
 | .slice t x V C L=>tP P E H t x V C L
 | .fieldAddr t x f=>v7 P E H t x f
 | .field t x f=>v8 P E H t x f
 | .indexAddr t x i=>v9 P E H t x i
 | .index t x i=>wa P E H t x i
 | .lookup t m k ok=>tQ P E H t m k ok
 | .mapUpdate t m k v=>wb P E H t m k v
 | .extract x i=>wc E H x i
 |_=>none
inductive Task where
 |code (f:FuncId) (N:Nat) (c:Code) (E:aw) (H:Hp)
 |call (f:FuncId) (args:List AV) (H:Hp)
inductive AX where
 |normal|exit (id:Nat)|ret
inductive Res where
 |done (x:AX) (E:aw) (H:Hp)
 |val (v:AV) (H:Hp)
 |fail
def d9(N:Nat)(E:aw)(j:Option Tmp)(v:AV):Option aw:=
 match j with
 |some d=>match Nat.blt d N with
  |true=>some (T.set E d (some v))
  |false=>none
 |none=>some E
def wd(ops:List Oper)(E:aw)(j:Nat):Option Bool:=
 match (ops[j]?).bind (·.dst)with
 |some d=>match E.at d with|.bool b=>some b |_=>none
 |none=>none
def jg(ops:List Oper)(E:aw)(o:Oper):Bool:=
 match o.guard with
 |none=>true
 |some (j,U)=>match wd ops E j with
  |some b=>b == U
  |none=>false
variable (cfg:Cfg)
def oD(ih:Task->Res)(f:FuncId)(E:aw)(H:Hp)(c:Call):Res:=
 match c.callee with
 | .value g=>match zcV E g,zeM E c.args.toList with
   |some (.clo k U),some vs=>ih (.call k (vs++U) H)
   |_,_=>.fail
 | .builtin b=>match zeM E c.args.toList with
   |some vs=>match mp P (cfg.keep f) H b c.argTypes.toList vs with
    |some (v,H)=>.val v H
    |none=>.fail
   |none=>.fail
 |_=>.fail
def jR:Option (AV×Hp)->Res
 |some (v,H)=>.val v H
 |none=>.fail
def zd4(ih:Task->Res)(f:FuncId)(E:aw)(H:Hp)(op:Op):Res:=
 match op with
 | .call c=>oD P cfg ih f E H c
 |op=>jR (cr P cfg.dec E H op)
def Sx.beq:Sx->Sx->Bool
 | .var i,.var j=>Nat.beq i j
 | .lit a,.lit b=>a == b
 | .bin o k a b,.bin U k' O Z=>decide (o=U)&&decide (k=k')&&Sx.beq a O&&Sx.beq b Z
 | .conv k a,.conv k' b=>decide (k=k')&&Sx.beq a b
 |_,_=>false
mutual
def AV.beq:AV->AV->Bool
 | .int k a,.int k' b=>decide (k=k')&&(a == b)
 | .sx k a,.sx k' b=>decide (k=k')&&Sx.beq a b
 | .bool a,.bool b=>a == b
 | .str a,.str b=>a == b
 | .nilP,.nilP|.nilM,.nilM|.nilF,.nilF|.nilS,.nilS=>true
 | .ptr r o,.ptr m U=>Nat.beq r m&&Nat.beq o U
 | .iptr a,.iptr b=>zfd a b
 | .sl r o l z,.sl m U Z L=>Nat.beq r m&&Nat.beq o U&&Nat.beq l Z&&Nat.beq z L
 | .lst a,.lst b=>pV a b
 | .map r,.map m=>Nat.beq r m
 | .clo f a,.clo I b=>Nat.beq f I&&zfd a b
 | .agg a,.agg b=>zfd a b
 | .tup a,.tup b=>zfd a b
 |_,_=>false
def zfd:List AV->List AV->Bool
 |[],[]=>true
 |a::x,b::y=>AV.beq a b&&zfd x y
 |_,_=>false
def pV:List (List AV)->List (List AV)->Bool
 |[],[]=>true
 |a::x,b::y=>zfd a b&&pV x y
 |_,_=>false
end
inductive Kind where
 |calm   -- looks at no memory
 |read
 |make
 |act
def zeB:Op->Kind
 | .load ..|.lookup ..|.convert ..|.slice ..=>.read
 | .alloc _|.box ..|.buildSlice ..|.makeMap ..|.makeSlice ..=>.make
 | .store ..|.mapUpdate ..=>.act
 | .call c=>match c.callee with
   | .builtin .len|.builtin .max|.builtin .min=>.read
   |_=>.act
 |_=>.calm
structure Rec where
 o:Oper
 did:Bool
 E:aw
 H:Hp
 val:AV
 H':Hp
inductive ResD where
 |done (E:aw) (H:Hp) (rs:List Rec)
 |fail
def k0(r:Rec):ResD->ResD
 | .done E H rs=>.done E H (r::rs)
 | .fail=>.fail
def zfo(o:aw->Hp->ResD)(H:Hp):Option aw->ResD
 |some E=>o E H
 |none=>.fail
def gH(ih:Task->Res)(f N:Nat)(C:List Oper):List Oper->aw->Hp->ResD
 |[],E,H=>.done E H []
 |o::rest,E,H=>match jg C E o with
  |true=>match zd4 P cfg ih f E H o.op with
   | .val v H'=>k0 ⟨o,true,E,H,v,H'⟩ (zfo (gH ih f N C rest) H' (d9 N E o.dst v))
   |_=>.fail
  |false=>k0 ⟨o,false,E,H,zd1,H⟩ (zfo (gH ih f N C rest) H (d9 N E o.dst zd1))
def preds(o:Oper):List Nat:=(o.after.toList.filter (Region.binds .any)).map (·.on)
def rQ:List Nat->List Nat->List Nat
 |acc,[]=>acc
 |acc,x::xs=>match acc.contains x with
  |true=>rQ acc xs
  |false=>rQ (x::acc) xs
def tR(l:List Nat):List Nat:=rQ [] l
def fz:List Oper->List (List Nat)->List (List Nat)
 |[],acc=>acc
 |o::rest,acc=>fz rest (acc++[tR (preds o++(preds o).flatMap fun i=>acc.getD i [])])
def Da(o:Oper):List Nat:=o.dst.toList++o.op.operands.toList.filterMap fun|.tmp t=>some t |_=>none
def oE(C:List Oper)(o:Oper):List Nat:=Da o++(match o.guard with|some (j,_)=>((C[j]?).bind (·.dst)).toList|none=>[])
def jQ(o:Oper):Bool:=match zeB o.op with|.act=>true |_=>false
def oF(o:Oper):Bool:=match zeB o.op with|.make=>true |_=>false
def clash(C:List Oper)(p q:Oper):Bool:=
 (jQ p&&(jQ q||oF q)) ||
 (p.dst.toList.any fun d=>(oE C q).contains d)||(q.dst.toList.any fun d=>(oE C p).contains d)
def mq(C:List Oper):Bool:=
 let A:=fz C []
 (List.range C.length).all fun j=>match C[j]? with
   |none=>true
   |some q=>(preds q).all (·< j)&&(match q.guard with|some (g,_)=>(A.getD j []).contains g|none=>true) &&
    (List.range j).all fun i=>match C[i]? with
      |none=>true
      |some p=>!clash C p q||(A.getD j []).contains i
def gI(ops:List Oper):List Nat:=(List.range ops.length).filter fun i=>match ops[i]? with
 |some o=>jQ o
 |none=>false
def zdy(rs:List Rec)(H':Hp)(e:Nat):Hp:=match rs[e]? with
 |some r=>r.H
 |none=>H'
def HB.beq:HB->HB->Bool
 | .cells a i t,.cells b j u=>zfd a b&&Nat.beq i j&&(t == u)
 | .map a,.map b=>zfd (a.map (·.1)) (b.map (·.1))&&zfd (a.map (·.2)) (b.map (·.2))
 |_,_=>false
def zcJ(r:Rec)(H:Hp):Bool:=
 match zeB r.o.op with
 | .read=>match zd4 P cfg (fun _=>.fail) 0 r.E H r.o.op with
   | .val v _=>AV.beq v r.val
   |_=>false
 | .make=>match H.get r.H.next,r.H'.get r.H.next with
   |some b,some i=>HB.beq b i
   |_,_=>false
 |_=>true
def wg(A:List (List Nat))(Z:List Nat)(i m:Nat):Bool:=
 !(Z.any (fun e=>(A.getD i []).contains e&&Nat.ble m e)||Z.any (fun e=>(A.getD e []).contains i&&Nat.blt e m))
def k2(ops:List Oper):List (Nat×Nat):=
 (List.range ops.length).flatMap fun i=>match ops[i]? with
   |some o=>match zeB o.op with
    | .read|.make=>((gI ops++[ops.length]).filter (wg (fz ops []) (gI ops) i)).map fun m=>(i,m)
    |_=>[]
   |none=>[]
def pW(V:List (Nat×Nat))(rs:List Rec)(H':Hp):Bool:=
 rs.all (fun r=>Nat.ble r.H.next r.H'.next)&&V.all fun p=>match rs[p.1]? with
  |some r=>!r.did||zcJ P cfg r (zdy rs H' p.2)
  |none=>true
def zfj(ih:Task->Res)(f N:Nat)(ops:List Oper)(E:aw)(H:Hp):Res:=
 match mq ops with
 |true=>match gH P cfg ih f N ops ops E H with
  | .done E' H' rs=>match pW P cfg (k2 ops) rs H' with
    |true=>.done .normal E' H'
    |false=>.fail
  | .fail=>.fail
 |false=>.fail
def fS:List Nat->Nat->Nat
 |[],_=>0
 |x::xs,i=>match Nat.beq x i with
  |true=>0
  |false=>fS xs i+1
def oG(Y:List Nat)(o:Oper):Oper:=
 {o with after:=((o.after.toList.filter (Region.binds .any)).map fun e=>{e with on:=fS Y e.on}).toArray,guard:=match o.guard with|some (j,b)=>some (fS Y j,b)|none=>none}
def zeH(Y:List Nat)(l:List Oper):List Oper:=Y.filterMap fun i=>match l[i]? with
 |some o=>some (oG Y o)
 |none=>none
def tS(Y:List Nat)(l:List Oper):Bool:=
 Nat.beq Y.length l.length &&
 (List.range l.length).all (fun k=>(match Y[k]? with|some i=>Nat.blt i l.length&&Nat.beq (fS Y i) k|none=>false)&&Nat.blt (fS Y k) l.length&&(match Y[fS Y k]? with|some i=>Nat.beq i k|none=>false)) &&
 l.all (fun o=>(preds o).all (fun p=>Nat.blt p l.length)&&(match o.guard with|some (j,_)=>Nat.blt j l.length|none=>true))
def gJ(q p:Nat)(l:List Oper):List Oper:=match l[q]? with
 |some o=>l.set q {o with after:=o.after.push {on:=p,ground:=.data} }
 |none=>l
def T.beq{M:Type}(J:M->M->Bool):T M->T M->Bool
 | .e,.e=>true
 | .n v l r,.n o m Z=>(match v,o with|some a,some b=>J a b|none,none=>true |_,_=>false)&&T.beq J l m&&T.beq J r Z
 |_,_=>false
def zl(ops:List Oper)(V M:aw)(O Z:Hp):Bool:=
 ops.all (fun o=>match o.dst with|some d=>AV.beq (V.at d) (M.at d)|none=>true)&&Nat.beq O.next Z.next&&T.beq HB.beq O.t Z.t
def pX(ops:List Oper):Res->Res->Res
 | .done .normal E1 H1,.done .normal M Z=>match zl ops E1 M H1 Z with
   |true=>.done .normal E1 H1
   |false=>.fail
 |_,_=>.fail
def ze0(ih:Task->Res)(f N:Nat)(E:aw)(H:Hp):Plan->List Oper->Res
 | .text,ops=>zfj P cfg ih f N ops E H
 | .perm ord,ops=>match tS ord ops with
   |true=>zfj P cfg ih f N (zeH ord ops) E H
   |false=>.fail
 | .split p q a b,ops=>match Nat.beq p q with
   |true=>.fail
   |false=>pX ops (ze0 ih f N E H a (gJ q p ops)) (ze0 ih f N E H b (gJ p q ops))
def ze5(o:aw->Hp->Res)(H:Hp):Option aw->Res
 |some E=>o E H
 |none=>.fail
def ze1(ih:Task->Res)(f N:Nat)(C:List Oper)(ops:List Oper):aw->Hp->Res:=
 List.rec (motive:=fun _=>aw->Hp->Res) (fun E H=>.done .normal E H)
  (fun o _ Z E H=>match jg C E o with
    |true=>match zd4 P cfg ih f E H o.op with
     | .val v H=>ze5 Z H (d9 N E o.dst v)
     |_=>.fail
    |false=>ze5 Z H (d9 N E o.dst zd1)) ops
def tT:Nat->aw
 |0=>.e
 |d+1=>.n (some zd1) (tT d) (tT d)
def pY(N:Nat):aw:=tT (Nat.log2 N+1)
def zcX:Nat->List AV->aw->aw
 |_,[],E=>E
 |i,v::vs,E=>zcX (i+1) vs (T.set E i (some v))
def zeC(E:aw)(H:Hp):ResultVar->Option AV
 | .tmp t=>some (E.at t)
 | .cell a t=>zep P H t (E.at a)
def zet(E:aw)(H:Hp):List ResultVar->Option (List AV)
 |[]=>some []
 |r::rs=>match zeC P E H r,zet E H rs with
  |some v,some vs=>some (v::vs)
  |_,_=>none
def zcS:List AV->AV
 |[v]=>v
 |vs=>.tup vs
def rR(rs:List ResultVar)(E:aw)(H:Hp):Res:=
 match zet P E H rs with
 |some vs=>.val (zcS vs) H
 |none=>.fail
def zfp(ih:Task->Res)(f:FuncId)(args:List AV)(H:Hp):Res:=
 match P.funcs[f]? with
 |some m=>match m.body with
  |some c=>match ih (.code f (max m.ntmps args.length) c (zcX 0 args (pY (max m.ntmps args.length))) H)with
   | .done .normal E H=>rR P m.results.toList E H
   | .done .ret E H=>rR P m.results.toList E H
   |_=>.fail
  |none=>.fail
 |none=>.fail
def k4(ih:Task->Res)(f N:Nat)(b:Code):Res->Res
 | .done .normal E H=>ih (.code f N b E H)
 |r=>r
def zfm(id:Nat):Res->Res
 | .done (.exit Z) E H=>match Nat.beq Z id with
   |true=>.done .normal E H
   |false=>.done (.exit Z) E H
 |r=>r
def pZ(ih:Task->Res)(f N:Nat)(x:Operand)(a b:Code)(E:aw)(H:Hp):Res:=
 match zcV E x with
 |some (.bool true)=>ih (.code f N a E H)
 |some (.bool false)=>ih (.code f N b E H)
 |_=>.fail
def zeg(z:Nat):Nat->List AV->List (List AV)
 |0,_=>[]
 |n+1,l=>l.take z::zeg z n (l.drop z)
def ir(g:AV->Hp->Option (AV×Hp)):List AV->Hp->Option (List AV×Hp)
 |[],H=>some ([],H)
 |c::cs,H=>match g c H with
  |some (d,H)=>match ir g cs H with
   |some (F,H)=>some (d::F,H)
   |none=>none
  |none=>none
def fB:Nat->AV->Hp->Option (AV×Hp)
 |0,_,_=>none
 |n+1,v,H=>match v with
  | .sl r M W z=>match H.get r with
    |some (.cells Z g O)=>match Nat.ble (M+W*z) Z.length&&Nat.ble g Z.length with
     |true=>match ir (fB n) ((Z.drop M).take (W*z)) (H.set r (.cells Z (max g (M+W*z)) O))with
      |some (l,H)=>some (.lst (zeg z W l),H)
      |none=>none
     |false=>none
    |_=>none
  | .agg Z=>match ir (fB n) Z H with
    |some (F,H)=>some (.agg F,H)
    |none=>none
  | .ptr _ _=>none
  | .map _=>none
  |v=>some (v,H)
def tU(ih:Task->Res)(f:FuncId)(args:List AV)(H:Hp):Option (List AV×Hp)->Res
 |some (g,H')=>match cfg.call f g with
  |some r=>.val r H'
  |none=>zfp P ih f args H
 |none=>zfp P ih f args H
def rS:Bool->Res->Res
 |true,.val v H=>jR (fB 100 v H)
 |_,r=>r
def k5(ih:Task->Res)(f:FuncId)(args:List AV)(H:Hp):Res:=match cfg.ice f with
 |true=>tU P cfg ih f args H (ir (fB 100) args H)
 |false=>zfp P ih f args H
def step(ih:Task->Res):Task->Res
 | .call f args H=>match cfg.call f args with
   |some r=>.val r H
   |none=>rS (cfg.froz f) (k5 P cfg ih f args H)
 | .code f N c E H=>match c with
   | .skip=>.done .normal E H
   | .region id ops draw=>match draw with
     |false=>ze1 P cfg ih f N ops.toList ops.toList E H
     |true=>ze0 P cfg ih f N E H (cfg.plan f id) ops.toList
   | .seq a b=>k4 ih f N b (ih (.code f N a E H))
   | .cond x a b=>pZ ih f N x a b E H
   | .block id a=>zfm id (ih (.code f N a E H))
   | .loop a=>k4 ih f N (.loop a) (ih (.code f N a E H))
   | .exit id=>.done (.exit id) E H
   | .ret=>.done .ret E H
   |_=>.fail
def ev(n:Nat):Task->Res:=Nat.rec (motive:=fun _=>Task->Res) (fun _=>.fail) (fun _ ih=>step P cfg ih) n
end
def zdw:Hp:={next:=0,t:=.e}
def iceL(g:AV->Option AV):List AV->Option (List AV)
 |[]=>some []
 |c::cs=>match g c,iceL g cs with
  |some d,some F=>some (d::F)
  |_,_=>none
def oH(g:AV->Option AV):List (List AV)->Option (List (List AV))
 |[]=>some []
 |c::cs=>match iceL g c,oH g cs with
  |some d,some F=>some (d::F)
  |_,_=>none
def iceV(H:Hp):Nat->AV->Option AV
 |0,_=>none
 |n+1,v=>match v with
  | .sl r M W z=>match H.get r with
    |some (.cells Z _ _)=>match iceL (iceV H n) ((Z.drop M).take (W*z))with
     |some l=>if l.length=W*z then some (.lst (zeg z W l))else none
     |none=>none
    |_=>none
  | .lst C=>match oH (iceV H n) C with
    |some Y=>some (.lst Y)
    |none=>none
  | .agg Z=>match iceL (iceV H n) Z with
    |some F=>some (.agg F)
    |none=>none
  | .tup Z=>match iceL (iceV H n) Z with
    |some F=>some (.tup F)
    |none=>none
  | .int k a=>some (.int k a)
  | .sx k e=>some (.sx k e)
  | .bool b=>some (.bool b)
  | .str s=>some (.str s)
  | .nilP=>some .nilP
  | .nilM=>some .nilM
  | .nilF=>some .nilF
  | .nilS=>some .nilS
  |_=>none
def tV(P:Program)(cfg:Cfg)(n m:Nat)(f:FuncId)(args:List AV):Option AV:=
 match ev P cfg n (.call f args zdw)with
 | .val v H=>iceV H m v
 |_=>none
def nG(m:Nat)(args:List AV):Bool:=
 match iceL (iceV zdw m) args with
 |some g=>zfd g args
 |none=>false
def zm(P:Program)(cfg:Cfg)(n m:Nat)(f:FuncId)(args:List AV)(r:AV):Bool:=
 match tV P cfg n m f args with
 |some q=>AV.beq q r
 |none=>false
def p6:List (FuncId×List AV×AV)->FuncId->List AV->Option AV
 |[],_,_=>none
 |p::l,f,args=>match Nat.beq p.1 f with
  |true=>match zfd p.2.1 args with
   |true=>some p.2.2
   |false=>p6 l f args
  |false=>p6 l f args
end
end Go.Ab
