/- Lemmas for the last file. -/
import Derived.Laws.Tables
import Derived.Lib.Strings
import Derived.Test.YtbflaciihaijgaaGreatUEA
import Derived.WalkKit
set_option linter.all false
set_option maxHeartbeats 32000000
namespace Go.Ab
set_option maxRecDepth 20000
open Go
abbrev qW:=Option Value
abbrev qL:=List Value
variable{qn:Prop}
def aB(h:qn:=by simp):=h
def FB(h:qn:=by simpa using hc):=h
def z7(h:qn:=by simpa using j):=h
def ac(h:qn:=by omega):=h
def cU(h:qn:=by grind):=h
def aU(h:qn:=by simp_all):=h
def cZ(h:qn:=by simp;omega):=h
def OX(h:qn:=by rw[World.frozen?_alloc_old _ _ _ (by have:=tj h1;simp;omega)];exact h2):=h
def JQ(h:qn:=by have:=h.dz _ _ J;omega):=h
def fw(h:qn:=by rw[aL,if_pos rfl]):=h
def JR(h:qn:=by rw[Hp.get_set,if_neg hk]):=h
def iW(h:qn:=by rw[Hp.get_set,if_pos rfl]):=h
def Ce(h:qn:=by simp only[fU];omega):=h
def uh(h:qn:=by rw[Hp.get_set,if_neg z]):=h
def OY(h:qn:=by simpa [Instr.loadAt,Instr.sureAddr]using Z):=h
def wV(h:qn:=by simpa using L):=h
def JS(h:qn:=by rw[Nat.add_assoc];exact .ptr hr):=h
def FC(h:qn:=by simpa using Y):=h
def vC(h:qn:=by constructor):=h
def z8(h:qn:=by simp[binOp,Op.stringOp,ByteArray.toList_eq]):=h
def mX(h:qn:=by assumption):=h
def JT(h:qn:=by rw[<- Nat.add_mul];congr 1;omega):=h
def JU(h:qn:=by simpa [cT,Option.map_eq_some_iff]using hb):=h
def dT(h:qn:=by rw[aL,if_neg ac]):=h
def nQ:=@List.getElem?_append_left
def tf:=@List.getElem?_append_right
def ry:=@List.getElem?_take
def ai:=@if_pos
def aG:=@Nat.le_refl
def dt:=@Nat.le_trans
def iy:=@Nat.lt_of_lt_of_le
def JV:=@Nat.ne_of_beq_eq_false
def nR:=@decide_true
def lA:=@decide_false
def ah:=@if_neg
def am:=@Option.some.injEq
def mY:=@Array.getD_eq_getD_getElem?
def Cf:=@Array.getElem?_setIfInBounds
def iX:=@Prod.mk.injEq
def gR:=@List.getElem?_eq_some_iff
def aX:=@List.getElem?_eq_getElem
def bR:=@Nat.zero_add
def FD:=@Go.RowKit.Below.heap_alloc
def dg:=@Nat.le_succ
def FE:=@List.take_append_of_le_length
def je:=@List.take_of_length_le
def FF:=@List.drop_of_length_le
def fx:=@List.length_append
def oE:=@List.length_take
def fc:=@List.length_cons
def jQ:=@List.length_nil
def tg:=@List.nil_append
def gS:=@Go.Sem.run_bind
def lS:=@Nat.add_assoc
def wW:=@List.getElem?_drop
def ui:=@List.length_drop
def aC:=@Option.bind_eq_some_iff
def uj:=@Option.map_eq_some_iff
def gT:=@Go.Result.andThen_ok
def dG:=@if_true
def nT:=@Go.Sem.run_pure
def z9:=@List.getElem_of_mem
def Cg:=@Int.natCast_nonneg
def FG:=@Bool.true_eq_false
def fK:=@if_false
def jG:=@Bool.or_eq_false_iff
def rz:=@Nat.sub_self
def lB:=@Option.map_some
def pC:=@congrArg
def eR:=@Nat.zero_le
def th:=@Nat.add_mul
def wX:=@List.take_add_one
def Ac:=@Array.ext'
def wY:=@Nat.add_zero
def fd:=@List.getElem?_map
def JW:=@List.getElem?_range
def bq:=@List.append_nil
def FH:=@Array.toArray_toList
def Ch:=@Nat.mul_le_mul_right
def JX:=@List.take_append_drop
def JY:=@List.map_take
def vD:=@Go.IntWalk.i64_in
def dB:=And.intro @am.{0} @iX.{0,0}
def pD:=And.intro @fc.{0} @jQ.{0}
end Go.Ab
namespace Go.Ab
set_option maxRecDepth 20000
open Go Go.RowKit
structure Gh where
 β:Nat->Option (Nat×Nat×Nat)
 F:Nat->Nat->qW
 ρ:Nat->Int
structure Bs where
 fb:Nat
 ρ:Nat->Int
 cy:Cfg
variable{G Y:Gh}{c x a y:AV}{v j I m Z:Value}{cs z:qB}{vs:qL}{O b o i:Nat}{w w':World}{B:Bs}{H H' X:Hp}{J:Type}{P:Program}{s:Sem Value}{d:TypeDesc}{t:TypeId}{k:IntKind}{D:BinOp->Sx->Sx->qK}{C:Operand}{lo:qI}
def rA(D:BinOp->Sx->Sx->qK)(ρ:Nat->Int):Prop:=∀op k a b r,D op a b=some r->kQ op k (a.eval ρ) (b.eval ρ)=some (.bool r)
inductive VR (G:Gh):AV->Value->Prop
 |int (k:IntKind) (n:Int):VR G (.int k n) (.int k n)
 |sx (k:IntKind) (e:Sx):VR G (.sx k e) (.int k (e.eval G.ρ))
 |bool (b:Bool):VR G (.bool b) (.bool b)
 |ay (s:ByteArray) (l:qD) (h:s.data.toList=l):VR G (.ay l) (.string s)
 |aF:VR G .aF (.pointer none)
 |bV:VR G .bV (.map none)
 |cj:VR G .cj .nilFunc
 |ao:VR G .ao (.slice none 0 0)
 |ptr {r off b o x:Nat} (h:G.β r=some (b,o,x)):VR G (.ptr r off) (.pointer (some ⟨b,o+off,none⟩))
 |bP {cs:qB}{b o:Nat} (vs:Nat->Value) (hF:∀j,j<cs.length->G.F b (o+j)=some (vs j))
  (hv:∀(j:Nat) (c:AV),cs[j]?=some c->VR G c (vs j)):VR G (.bP cs) (.pointer (some ⟨b,o,none⟩))
 |sl {r off len z b o x cap:Nat} (h:G.β r=some (b,o,x)) (hl:len<=cap) (hc:off+cap*z<=x) :
  VR G (.sl r off len z) (.slice (some ⟨b,o+off,none⟩) len cap)
 |aE {xs:List qB}{b o cap z:Nat} (vs:Nat->Nat->Value) (hz:∀(i:Nat) (row:qB),xs[i]?=some row->row.length=z)
  (hF:∀i j,i<xs.length->j<z->G.F b (o+i*z+j)=some (vs i j))
  (hv:∀(i j:Nat) (row:qB) (c:AV),xs[i]?=some row->row[j]?=some c->VR G c (vs i j)) (hc:xs.length<=cap) :
  VR G (.aE xs) (.slice (some ⟨b,o,none⟩) xs.length cap)
 |cL (a:Option Addr) (cap:Nat):VR G (.aE []) (.slice a 0 cap)
 |map {r b o x:Nat} (h:G.β r=some (b,o,x)):VR G (.map r) (.map (some b))
 |cw {f:Nat}{cs:qB}{vs:qL} (hl:cs.length=vs.length) (hv:∀(i:Nat) c v,cs[i]?=some c->vs[i]?=some v->VR G c v) :
  VR G (.cw f cs) (.func (.func f) #[] vs.toArray)
 |agg {cs:qB}{vs:qL} (hl:cs.length=vs.length) (hv:∀(i:Nat) c v,cs[i]?=some c->vs[i]?=some v->VR G c v) :
  VR G (.agg cs) (.agg vs.toArray)
 |bH {cs:qB}{vs:qL} (hl:cs.length=vs.length) (hv:∀(i:Nat) c v,cs[i]?=some c->vs[i]?=some v->VR G c v) :
  VR G (.bH cs) (.tuple vs.toArray)
def cq(G:Gh)(cs:qB)(vs:qL):Prop:=cs.length=vs.length/\∀(i:Nat) c v,cs[i]?=some c->vs[i]?=some v->VR G c v
def cq.nil(G:Gh):cq G [] []:=⟨rfl,aB⟩
def ti:=@cq.nil
theorem cq.cons(h:VR G c v)(V:cq G cs vs):cq G (c::cs) (v::vs):=by
 refine⟨by simp[V.1],fun i C Z hc j=>?_⟩;cases i with
 |zero=>simp_all
 |succ i=>exact V.2 i C Z FB z7
def lT:=@cq.cons
def cq.bv(h:cq G (c::cs) (v::vs)):VR G c v/\cq G cs vs:=
 ⟨h.2 0 c v rfl rfl,by simpa using h.1,fun i C Z hc j=>h.2 (i+1) C Z FB z7⟩
def cq.append{J:qB}{us:qL}(h:cq G cs vs)(C:cq G J us):cq G (cs++J) (vs++us):=by
 refine⟨by simp[h.1,C.1],fun i c v hc j=>?_⟩;have L:=h.1;by_cases O:i<cs.length
 .rw[nQ O]at hc;rw[nQ ac]at j;exact h.2 i c v hc j
 .rw[tf ac]at hc;rw[tf ac]at j;rw[<-L]at j;exact C.2 _ c v hc j
def cq.drop(h:cq G cs vs)(n:Nat):cq G (cs.drop n) (vs.drop n):=
 ⟨by simp[h.1],fun i c v hc j=>h.2 (n+i) c v FB z7⟩
def cq.take(h:cq G cs vs)(n:Nat):cq G (cs.take n) (vs.take n):=by
 refine⟨by simp[h.1],fun i c v hc j=>?_⟩;rw[ry]at hc j;split at hc
 .rename_i O;rw[ai O]at j;exact h.2 i c v hc j
 .simp at hc
structure Ext (G G':Gh):Prop where
 β:∀r p,G.β r=some p->G'.β r=some p
 F:∀b o v,G.F b o=some v->G'.F b o=some v
 ρ:G'.ρ=G.ρ
def Ext.refl(G:Gh):Ext G G:=⟨fun _ _ h=>h,fun _ _ _ h=>h,rfl⟩
def Ad:=@Ext.refl
def Ext.trans{a b c:Gh}(h:Ext a b)(k:Ext b c):Ext a c:=⟨fun r p hp=>k.β r p (h.β r p hp),fun x y v j=>k.F x y v (h.F x y v j),k.ρ.trans h.ρ⟩
def VR.mono{V:Gh}(e:Ext G V)(h:VR G c v):VR V c v:=by
 induction h with
 |int k n=>exact .int k n
 |sx k x=>rw[<-e.ρ];exact .sx k x
 |bool b=>exact .bool b
 |ay s l h=>exact .ay s l h
 |aF=>exact .aF
 |bV=>exact .bV
 |cj=>exact .cj
 |ao=>exact .ao
 |ptr h=>exact .ptr (e.β _ _ h)
 |bP vs Z _ ih=>exact .bP vs (fun j I=>e.F _ _ _ (Z j I)) ih
 |sl h L hc=>exact .sl (e.β _ _ h) L hc
 |aE vs J Z _ hc ih=>exact .aE vs J (fun i j O I=>e.F _ _ _ (Z i j O I)) ih hc
 |cL a Y=>exact .cL a Y
 |map h=>exact .map (e.β _ _ h)
 |cw L _ ih=>exact .cw L ih
 |agg L _ ih=>exact .agg L ih
 |bH L _ ih=>exact .bH L ih
def cq.mono(e:Ext G Y){c:qB}{v:qL}(h:cq G c v):cq Y c v:=⟨h.1,fun i a b m hb=>(h.2 i a b m hb).mono e⟩
theorem VR.ce(h:VR G c v):v.oneCell'=c.one:=by cases h<;>rfl
def VR.cells{G:Gh}{c:AV}{v:Value}(h:VR G c v):cq G c.cells v.cells.toList:=by
 cases h with
 |agg L j=>exact⟨by simpa [AV.cells,Value.cells]using L,by simpa [AV.cells,Value.cells]using j⟩
 |_=>exact lT (by constructor<;>assumption) (ti _)
def kR(G:Gh)(w:World)(b o:Nat)(cs:qB):Prop:=∀(j:Nat) (c:AV),cs[j]?=some c->∃v,w.cell? ⟨b,o+j,none⟩=some v/\VR G c v
def fU(x:Nat)(cs:qB):Bool->Nat
 |true=>x
 |false=>cs.length
def vE(G:Gh)(V:qU)(ms:List MapEntry):Prop:=
 V.length=ms.length/\∀(i:Nat) e m,V[i]?=some e->ms[i]?=some m->VR G e.1 m.key/\VR G e.2 m.val
structure R (B:Bs) (H:Hp) (w:World) (G:Gh):Prop where
 cc:B.fb<=w.heap.size
 dz:∀r p,G.β r=some p->r<H.next
 lt:∀r b o x,G.β r=some (b,o,x)->B.fb<=b/\b<w.heap.size
 cells:∀r b o x cs imm tip,G.β r=some (b,o,x)->H.get r=some (.cells cs imm tip)->kR G w b o cs
 aP:∀r b o x cs imm tip,G.β r=some (b,o,x)->H.get r=some (.cells cs imm tip)->∀j,j<imm->j<cs.length->∃v,G.F b (o+j)=some v
 ext:∀r b o x cs imm tip,G.β r=some (b,o,x)->H.get r=some (.cells cs imm tip)->cs.length<=fU x cs tip
 b0:∀r b o x cs imm tip,G.β r=some (b,o,x)->H.get r=some (.cells cs imm tip)->∀j,imm<=j->j<fU x cs tip ->
  (∃v,w.cell? ⟨b,o+j,none⟩=some v)/\w.frozen? ⟨b,o+j,none⟩=false/\G.F b (o+j)=none
 apart:∀r b o x cs imm tip r' b' o' x' cs' imm' tip',G.β r=some (b,o,x)->H.get r=some (.cells cs imm tip) ->
  G.β r'=some (b',o',x')->H.get r'=some (.cells cs' imm' tip')->r≠r' ->
  ∀j j',imm<=j->j<fU x cs tip->imm'<=j'->j'<fU x' cs' tip'->b=b'->o+j≠o'+j'
 map:∀r b o x es,G.β r=some (b,o,x)->H.get r=some (.map es)->∃ms clock,w.heap[b]?=some (.map ms clock)/\vE G es ms.toList
 a7:∀r b o x es r' b' o' x',G.β r=some (b,o,x)->H.get r=some (.map es)->G.β r'=some (b',o',x')->(H.get r').isSome->r≠r'->b≠b'
 dv:∀b o v,G.F b o=some v->w.cell? ⟨b,o,none⟩=some v
 val:G.ρ=B.ρ
 ec:rA B.cy.cS B.ρ
 b9:∀r b o x cs imm tip,G.β r=some (b,o,x)->H.get r=some (.cells cs imm tip)->cs.length<=x
structure Fr (G:Gh) (w w':World):Prop where
 os:w'.os=w.os
 tape:w'.tape=w.tape
 output:w'.output=w.output
 size:w.heap.size<=w'.heap.size
 block:∀k,k<w.heap.size->(∀r b o x,G.β r=some (b,o,x)->b≠k)->w'.heap[k]?=w.heap[k]?
def Fr.refl(G:Gh)(w:World):Fr G w w:=⟨rfl,rfl,rfl,aG _,fun _ _ _=>rfl⟩
def Ci:=@Fr.refl
def vF(G Y:Gh)(w:World):Prop:=∀r b o x,Y.β r=some (b,o,x)->G.β r=some (b,o,x)\/w.heap.size<=b\/∃z j L,G.β z=some (b,j,L)
theorem Fr.trans{a b c:World}(h:Fr G a b)(k:Fr Y b c)(n:vF G Y a):Fr G a c:=
 ⟨k.os.trans h.os,k.tape.trans h.tape,k.output.trans h.output,dt h.size k.size,fun i O J=>
  (k.block i (iy O h.size) (fun r b o x hr V=>by
    rcases n r b o x hr with j|j|⟨z,Z,L,j⟩
    .exact J r b o x j V
    .omega
    grind)).trans (h.block i O J)⟩
def vF.refl(G:Gh)(w:World):vF G G w:=fun _ _ _ _ h=>.inl h
def yx:=@vF.refl
theorem vF.trans{O:Gh}(h:vF G Y w)(k:vF Y O w')(V:w.heap.size<=w'.heap.size):vF G O w:=fun r b o x hr=>by
 rcases k r b o x hr with j|j|⟨z,Z,L,j⟩
 .exact h r b o x j
 .omega
 .rcases h z b Z L j with m|m|m
  .exact .inr (.inr ⟨z,Z,L,m⟩)
  .exact .inr (.inl m)
  simp_all
structure Step (B:Bs) (nx:Nat) (G:Gh) (w:World) (H':Hp) (w':World) (G':Gh):Prop where
 r:R B H' w' G'
 ext:Ext G G'
 fr:Fr G w w'
 new:vF G G' w
 dj:∀r p,G'.β r=some p->G.β r=some p\/nx<=r
 mono:nx<=H'.next
 dB:∀b o v,G'.F b o=some v->G.F b o=some v\/B.fb<=b
variable{r:Nat}
def Step.refl(h:R B H w G):Step B H.next G w H w G:=⟨h,Ad _,Ci _ _,yx _ _,fun _ _ h=>.inl h,aG _,fun _ _ _ h=>.inl h⟩
def lU:=@Step.refl
def Step.trans{Y:Nat}{Z:Hp}{L O:Gh}{V:World}(h:Step B Y G w H' w' L)(k:Step B H'.next L w' Z V O):Step B Y G w Z V O:=
 ⟨k.r,h.ext.trans k.ext,h.fr.trans k.fr h.new,h.new.trans k.new h.fr.size,fun r p hr=>by
  rcases k.dj r p hr with j|j
  .exact h.dj r p j
  .exact .inr (dt h.mono j),dt h.mono k.mono,fun b o v J=>by
  rcases k.dB b o v J with j|j
  .exact h.dB b o v j
  .exact .inr j⟩
structure TR (N:Nat) (G:Gh) (E:aw) (a:Act):Prop where
 size:a.tmps.size=N
 ca:∀t,VR G (E.at t) (a.tmps.getD t undef)
def TR.mono{N:Nat}{E:aw}{a:Act}(e:Ext G Y)(h:TR N G E a):TR N Y E a:=⟨h.size,fun t=>(h.ca t).mono e⟩
def VR.undef(G:Gh):VR G dq Go.undef:=.bH (cs:=[]) (vs:=[]) rfl aB
def Ck:=@VR.undef
@[simp] theorem vG {α:Type} (x y:α):mU true x y=x:=rfl
@[simp] theorem pE {α:Type} (x y:α):mU false x y=y:=rfl
theorem Cl(k:Nat):(T.e:T J).get k=none:=rfl
theorem yy(v:Option J)(l r:T J)(k:Nat):
 (T.n v l r).get k=mU (Nat.beq k 0) v (mU (Nat.beq (Nat.mod k 2) 1) (l.get (Nat.div k 2)) (r.get (Nat.sub (Nat.div k 2) 1))):=rfl
theorem Zi(v:Option J)(f:Nat)(t:T J)(k:Nat):yj v (f+1) t k=T.casesOn t
 (mU (Nat.beq k 0) (.n v .e .e) (mU (Nat.beq (Nat.mod k 2) 1) (.n none (yj v f .e (Nat.div k 2)) .e) (.n none .e (yj v f .e (Nat.sub (Nat.div k 2) 1)))))
 (fun u l r=>mU (Nat.beq k 0) (.n v l r) (mU (Nat.beq (Nat.mod k 2) 1) (.n u (yj v f l (Nat.div k 2)) r) (.n u l (yj v f r (Nat.sub (Nat.div k 2) 1))))):=rfl
theorem Zj(v:Option J):∀(f:Nat) (t:T J) (k j:Nat),k<f->(yj v f t k).get j=if j=k then v else t.get j:=by
 intro f;induction f with
 |zero=>omega
 |succ f ih=>
  intro t k j h;have hd:∀n:Nat,Nat.div n 2=n/2:=fun _=>rfl;have V:∀n:Nat,Nat.mod n 2=n%2:=fun _=>rfl;have L:∀n:Nat,Nat.sub n 1=n-1:=fun _=>rfl;have Z:∀n m:Nat,Nat.beq n m=decide (n=m):=fun n m=>by
   cases h:Nat.beq n m with
   |true=>simp_all
   |false=>have e:=JV h;simp[e]
  rw[Zi];cases t with
  |e=>
   simp only[];by_cases C:k=0
   .subst C;simp only[Z,nR,vG,yy,Cl];by_cases I:j=0<;>simp[I] ;cases decide (j.mod 2=1)<;>rfl
   .simp only[Z,C,lA,pE];by_cases O:Nat.mod k 2=1
    .simp only[O,nR,vG,yy,Z];by_cases Y:j=0
     .subst Y;simp[Cl];omega
     .simp only[Y,lA,pE];by_cases z:Nat.mod j 2=1
      .simp only[z,nR,vG];rw[ih _ _ _ (by rw[hd];omega)];rw[hd,hd,V]at *;by_cases e:j=k
       .subst e;simp
       .rw[ah ac,ah e];rfl
      .simp only[z,lA,pE,Cl]
       grind
    .simp only[O,lA,pE,yy,Z];by_cases Y:j=0
     .subst Y;simp[Cl];omega
     .simp only[Y,lA,pE];by_cases z:Nat.mod j 2=1
      .simp only[z,nR,vG,Cl]
       grind
      .simp only[z,lA,pE];rw[ih _ _ _ cU];rw[hd,hd,L,L];rw[V]at O z;by_cases e:j=k
       .subst e;simp
       .rw[ah ac,ah e];rfl
  |n u l r=>
   simp only[];by_cases C:k=0
   .subst C;simp only[Z,nR,vG,yy];by_cases I:j=0<;>simp[I]
   .simp only[Z,C,lA,pE];by_cases O:Nat.mod k 2=1
    .simp only[O,nR,vG,yy,Z];by_cases Y:j=0
     .subst Y;simp;omega
     .simp only[Y,lA,pE];by_cases z:Nat.mod j 2=1
      .simp only[z,nR,vG]
       grind
      .simp only[z,lA,pE]
       grind
    .simp only[O,lA,pE,yy,Z];by_cases Y:j=0
     .subst Y;simp;omega
     .simp only[Y,lA,pE];by_cases z:Nat.mod j 2=1
      .simp only[z,nR,vG]
       grind
      .simp only[z,lA,pE]
       grind
def T.get_set{J:Type}(t:T J)(k j:Nat)(v:Option J):(t.set k v).get j=if j=k then v else t.get j:=Zj v (k+1) t k j ac
def FI:=@T.get_set
def Hp.get_set(h:Hp)(r j:Nat)(b:HB):(h.set r b).get j=if j=r then some b else h.get j:=FI _ _ _ _
def aQ:=@Hp.get_set
def jH(h:Hp)(r j:Nat):(h.bh r).get j=if j=r then none else h.get j:=FI _ _ _ _
def aL(h:Hp)(j:Nat)(b:HB):(h.alloc b).get j=if j=h.next then some b else h.get j:=FI _ _ _ _
@[simp] theorem bK (h:Hp) (r:Nat) (b:HB):(h.set r b).next=h.next:=rfl
@[simp] theorem rB (h:Hp) (r:Nat):(h.bh r).next=h.next:=rfl
@[simp] theorem aS (h:Hp) (b:HB):(h.alloc b).next=h.next+1:=rfl
theorem Ae(E:aw)(d t:Nat)(v:AV):aw.at (T.set E d (some v)) t=if t=d then v else E.at t:=by
 unfold aw.at;rw[FI];split<;>rfl
def TR.put{N:Nat}{G:Gh}{E Y:aw}{a:Act}(h:TR N G E a){J:Option Tmp}{c:AV}{v:Value}(j:VR G c v)(m:gI N E J c=some Y):TR N G Y (a.put J v):=by
 cases J with
 |none=>simp[gI]at m;subst m;exact h
 |some d=>
  simp only[gI]at m;split at m
  .rename_i hd;simp only[am]at m;subst m;have z:d<N:=aU;refine⟨by simp[Act.put,h.size],fun t=>?_⟩;rw[Ae];simp only[Act.put];by_cases e:t=d
   .subst e;rw[ai rfl];simpa [Array.getD,h.size,z]using j
   .rw[ah e];have:=h.ca t;simpa [mY,Cf,Ne.symm e]using this
  .simp at m
def tj(h:w.cell? ⟨b,o,none⟩=some v):b<w.heap.size:=World.block_lt_of_cell? w ⟨b,o,none⟩ h
def R.congr(h:R B H w G)(hn:H'.next=H.next)(hg:∀r,(G.β r).isSome->H'.get r=H.get r):R B H' w G:=by
 have k:∀r p,G.β r=some p->H'.get r=H.get r:=fun r p hr=>hg r (by simp[hr]);exact{
  cc:=h.cc
  dz:=fun r p hr=>by rw[hn];exact h.dz r p hr
  lt:=h.lt
  cells:=fun r b o x O imm z hr hc=>h.cells r b o x O imm z hr aU
  aP:=fun r b o x O imm z hr hc=>h.aP r b o x O imm z hr aU
  ext:=fun r b o x O imm z hr hc=>h.ext r b o x O imm z hr aU
  b9:=fun r b o x O imm z hr hc=>h.b9 r b o x O imm z hr aU
  b0:=fun r b o x O imm z hr hc=>h.b0 r b o x O imm z hr aU
  apart:=fun r b o x O imm z Z J j L C Y V hr hc I hc'=>h.apart r b o x O imm z Z J j L C Y V hr aU I aU
  map:=fun r b o x m hr hc=>h.map r b o x m hr aU
  a7:=fun r b o x m Z J j L hr hc I hs=>h.a7 r b o x m Z J j L hr aU I aU
  dv:=h.dv
  val:=h.val
  ec:=h.ec}
theorem R.bh{B:Bs}{H:Hp}{w:World}{G:Gh}(h:R B H w G)(au:Nat):R B (H.bh au) w G:=by
 have k:∀j b,(H.bh au).get j=some b->H.get j=some b:=fun j b hj=>by
  rw[jH]at hj;simp_all
 exact{
  cc:=h.cc
  dz:=h.dz
  lt:=h.lt
  cells:=fun r b o x O imm z hr hc=>h.cells r b o x O imm z hr (k _ _ hc)
  aP:=fun r b o x O imm z hr hc=>h.aP r b o x O imm z hr (k _ _ hc)
  ext:=fun r b o x O imm z hr hc=>h.ext r b o x O imm z hr (k _ _ hc)
  b9:=fun r b o x O imm z hr hc=>h.b9 r b o x O imm z hr (k _ _ hc)
  b0:=fun r b o x O imm z hr hc=>h.b0 r b o x O imm z hr (k _ _ hc)
  apart:=fun r b o x O imm z Z J L C m Y V hr hc I hc'=>h.apart r b o x O imm z Z J L C m Y V hr (k _ _ hc) I (k _ _ hc')
  map:=fun r b o x es hr hc=>h.map r b o x es hr (k _ _ hc)
  a7:=fun r b o x es Z J L C hr hc I hs=>h.a7 r b o x es Z J L C hr (k _ _ hc) I (by
   cases hh:(H.bh au).get Z with
   |none=>simp[hh]at hs
   |some b=>simp_all)
  dv:=h.dv
  val:=h.val
  ec:=h.ec}
def Gh.add(G:Gh)(r:Nat)(p:Nat×Nat×Nat):Gh:={β:=fun k=>if k=r then some p else G.β k,F:=G.F,ρ:=G.ρ}
def vH(G:Gh)(r:Nat)(p:Nat×Nat×Nat):(G.add r p).β r=some p:=by simp[Gh.add]
theorem JZ{p:Nat×Nat×Nat}(h:∀q,G.β r=some q->False):Ext G (G.add r p):=
 ⟨fun k q z=>by
  simp only[Gh.add]
  grind,fun _ _ _ h=>h,rfl⟩
def kR.mono(e:Ext G Y)(h:kR G w b o cs):kR Y w b o cs:=
 fun j c I=>let ⟨v,Z,m⟩:=h j c I;⟨v,Z,m.mono e⟩
def vE.mono{V:qU}{ms:List MapEntry}(e:Ext G Y)(h:vE G V ms):vE Y V ms:=
 ⟨h.1,fun i a b m hb=>⟨(h.2 i a b m hb).1.mono e,(h.2 i a b m hb).2.mono e⟩⟩
theorem OZ{nx au:Nat}(h:R B X w G)(hno:∀q,G.β au=some q->False)(hlt0:au<X.next)(Z:X.get au=some (.cells cs 0 true))(hnx:nx<=au)
 (hv:cq G cs vs) (m:qL) (e:TypeId) :
 Step B nx G w X (w.alloc (.cells (vs++m).toArray e)) (G.add au (w.heap.size,0,vs.length+m.length)):=by
 have O:Ext G (G.add au (w.heap.size,0,vs.length+m.length)):=JZ hno;have hold:∀k b' o',k<w.heap.size->b'=k->(w.alloc (.cells (vs++m).toArray e)).cell? ⟨b',o',none⟩=w.cell? ⟨b',o',none⟩:=fun k b' o' hk hb=>World.cell?_alloc_lt _ _ _ (by simpa [hb]using hk);have hnew:∀j,(w.alloc (.cells (vs++m).toArray e)).cell? ⟨w.heap.size,j,none⟩=(vs++m)[j]?:=fun j=>by
  rw[World.cell?_alloc_new];simp
 have Y:∀r p,(G.add au (w.heap.size,0,vs.length+m.length)).β r=some p->(r=au/\p=(w.heap.size,0,vs.length+m.length))\/(r≠au/\G.β r=some p):=fun r p hr=>by
  simp only[Gh.add]at hr;split at hr
  .rename_i e;exact .inl ⟨e,by simpa using hr.symm⟩
  .rename_i e;exact .inr ⟨e,hr⟩
 refine⟨?_,O,⟨rfl,rfl,rfl,aB,fun k hk _=>?_⟩,fun r b o x hr=>?_,fun r p hr=>(Y r p hr).elim (fun e=>.inr (by rw[e.1];exact hnx)) (fun e=>.inl e.2),ac,fun _ _ _ h=>.inl h⟩
 .exact{
   cc:=by have:=h.cc;simp;omega
   dz:=fun r p hr=>by
    rcases Y r p hr with⟨rfl,_⟩|⟨_,I⟩
    .exact hlt0
    .exact h.dz r p I
   lt:=fun r b o x hr=>by
    rcases Y r _ hr with⟨rfl,hp⟩|⟨_,I⟩
    .simp only[iX]at hp;obtain⟨rfl,rfl,rfl⟩:=hp;exact⟨h.cc,aB⟩
    .have:=h.lt r b o x I;exact⟨this.1,cZ⟩
   cells:=fun r b o x C imm z hr hc=>by
    rcases Y r _ hr with⟨rfl,hp⟩|⟨J,I⟩
    .simp only[iX]at hp;obtain⟨rfl,rfl,rfl⟩:=hp;rw[Z]at hc;simp only[am,HB.cells.injEq]at hc;obtain⟨rfl,rfl,rfl⟩:=hc;intro j c hj;have V:j<cs.length:=(gR.1 hj).1;have hjv:j<vs.length:=by have:=hv.1;omega
     refine⟨vs[j],?_,(hv.2 j c _ hj (aX hjv)).mono O⟩;rw[bR,hnew,nQ hjv,aX hjv]
    .intro j c hj;obtain⟨v,h1,h2⟩:=h.cells r b o x C imm z I hc j c hj;exact⟨v,by rw[hold _ _ _ (tj h1) rfl];exact h1,h2.mono O⟩
   aP:=fun r b o x C imm z hr hc j hj V=>by
    rcases Y r _ hr with⟨rfl,hp⟩|⟨J,I⟩
    .rw[Z]at hc;simp only[am,HB.cells.injEq]at hc;obtain⟨rfl,rfl,rfl⟩:=hc;omega
    .exact h.aP r b o x C imm z I hc j hj V
   ext:=fun r b o x C imm z hr hc=>by
    rcases Y r _ hr with⟨rfl,hp⟩|⟨J,I⟩
    .simp only[iX]at hp;obtain⟨rfl,rfl,rfl⟩:=hp;rw[Z]at hc;simp only[am,HB.cells.injEq]at hc;obtain⟨rfl,rfl,rfl⟩:=hc;have:=hv.1;simp only[fU];omega
    .exact h.ext r b o x C imm z I hc
   b9:=fun r b o x C imm z hr hc=>by
    rcases Y r _ hr with⟨rfl,hp⟩|⟨J,I⟩
    .simp only[iX]at hp;obtain⟨rfl,rfl,rfl⟩:=hp;rw[Z]at hc;simp only[am,HB.cells.injEq]at hc;obtain⟨rfl,rfl,rfl⟩:=hc;have:=hv.1;omega
    .exact h.b9 r b o x C imm z I hc
   b0:=fun r b o x C imm z hr hc j hj V=>by
    rcases Y r _ hr with⟨rfl,hp⟩|⟨J,I⟩
    .simp only[iX]at hp;obtain⟨rfl,rfl,rfl⟩:=hp;rw[Z]at hc;simp only[am,HB.cells.injEq]at hc;obtain⟨rfl,rfl,rfl⟩:=hc;simp only[fU]at V;refine⟨⟨(vs++m)[j]' cZ,?_⟩,?_,?_⟩
     .rw[bR,hnew,aX]
     .simp
     .cases hf:G.F w.heap.size (0+j)with
      |none=>exact hf
      |some v=>have:=tj (h.dv _ _ _ hf);omega
    .obtain⟨⟨v,h1⟩,h2,h3⟩:=h.b0 r b o x C imm z I hc j hj V;exact⟨⟨v,by rw[hold _ _ _ (tj h1) rfl];exact h1⟩,OX,h3⟩
   apart:=fun r b o x cs1 imm z r' b' o' x' cs2 imm' tip' hr hc I hc' J j j' hj V hj' hjl' he=>by
    rcases Y r _ hr with⟨rfl,hp⟩|⟨hn1,L⟩
    .simp only[iX]at hp;obtain⟨rfl,rfl,rfl⟩:=hp;rcases Y r' _ I with⟨rfl,hp⟩|⟨hn2,hr2⟩
     .exact(J rfl).elim
     .have:=(h.lt r' b' o' x' hr2).2;omega
    .rcases Y r' _ I with⟨rfl,hp⟩|⟨hn2,hr2⟩
     .simp only[iX]at hp;obtain⟨rfl,rfl,rfl⟩:=hp;have:=(h.lt r b o x L).2;omega
     .exact h.apart r b o x cs1 imm z r' b' o' x' cs2 imm' tip' L hc hr2 hc' J j j' hj V hj' hjl' he
   map:=fun r b o x es hr hc=>by
    rcases Y r _ hr with⟨rfl,hp⟩|⟨J,I⟩
    .rw[Z]at hc;simp at hc
    .obtain⟨ms,clock,h1,h2⟩:=h.map r b o x es I hc;refine⟨ms,clock,?_,h2.mono O⟩;rw[FD _ _ _ (h.lt r b o x I).2];exact h1
   a7:=fun r b o x es r' b' o' x' hr hc I hs J=>by
    rcases Y r _ hr with⟨rfl,hp⟩|⟨hn1,L⟩
    .rw[Z]at hc;simp at hc
    .rcases Y r' _ I with⟨rfl,hp⟩|⟨hn2,hr2⟩
     .simp only[iX]at hp;obtain⟨rfl,rfl,rfl⟩:=hp;have:=(h.lt r b o x L).2;omega
     .exact h.a7 r b o x es r' b' o' x' L hc hr2 hs J
   dv:=fun b o v hf=>by
    have:=h.dv b o v hf;rw[hold _ _ _ (tj this) rfl];exact this
   val:=h.val
   ec:=h.ec}
 .exact FD _ _ _ hk
 grind
theorem O0{nx au:Nat}(h:R B X w G)(hno:∀q,G.β au=some q->False)(hlt0:au<X.next)(Z:X.get au=some (.map []))(hnx:nx<=au):
 Step B nx G w X (w.alloc (.map #[] 0)) (G.add au (w.heap.size,0,0)):=by
 have L:Ext G (G.add au (w.heap.size,0,0)):=JZ hno;have m:∀k b' o',k<w.heap.size->b'=k->(w.alloc (.map #[] 0)).cell? ⟨b',o',none⟩=w.cell? ⟨b',o',none⟩:=fun k b' o' hk hb=>World.cell?_alloc_lt _ _ _ (by simpa [hb]using hk);have Y:∀r p,(G.add au (w.heap.size,0,0)).β r=some p->(r=au/\p=(w.heap.size,0,0))\/(r≠au/\G.β r=some p):=fun r p hr=>by
  simp only[Gh.add]at hr;split at hr
  .rename_i e;exact .inl ⟨e,by simpa using hr.symm⟩
  .rename_i e;exact .inr ⟨e,hr⟩
 refine⟨?_,L,⟨rfl,rfl,rfl,aB,fun k hk _=>?_⟩,fun r b o x hr=>?_,fun r p hr=>(Y r p hr).elim (fun e=>.inr (by rw[e.1];exact hnx)) (fun e=>.inl e.2),ac,fun _ _ _ h=>.inl h⟩
 .exact{
   cc:=by have:=h.cc;simp;omega
   dz:=fun r p hr=>by
    rcases Y r p hr with⟨rfl,_⟩|⟨_,I⟩
    .exact hlt0
    .exact h.dz r p I
   lt:=fun r b o x hr=>by
    rcases Y r _ hr with⟨rfl,hp⟩|⟨_,I⟩
    .simp only[iX]at hp;obtain⟨rfl,rfl,rfl⟩:=hp;exact⟨h.cc,aB⟩
    .have:=h.lt r b o x I;exact⟨this.1,cZ⟩
   cells:=fun r b o x C imm z hr hc=>by
    rcases Y r _ hr with⟨rfl,hp⟩|⟨J,I⟩
    .rw[Z]at hc;simp at hc
    .intro j c hj;obtain⟨v,h1,h2⟩:=h.cells r b o x C imm z I hc j c hj;exact⟨v,by rw[m _ _ _ (tj h1) rfl];exact h1,h2.mono L⟩
   aP:=fun r b o x C imm z hr hc j hj V=>by
    rcases Y r _ hr with⟨rfl,hp⟩|⟨J,I⟩
    .rw[Z]at hc;simp at hc
    .exact h.aP r b o x C imm z I hc j hj V
   ext:=fun r b o x C imm z hr hc=>by
    rcases Y r _ hr with⟨rfl,hp⟩|⟨J,I⟩
    .rw[Z]at hc;simp at hc
    .exact h.ext r b o x C imm z I hc
   b9:=fun r b o x C imm z hr hc=>by
    rcases Y r _ hr with⟨rfl,hp⟩|⟨J,I⟩
    .rw[Z]at hc;simp at hc
    .exact h.b9 r b o x C imm z I hc
   b0:=fun r b o x C imm z hr hc j hj V=>by
    rcases Y r _ hr with⟨rfl,hp⟩|⟨J,I⟩
    .rw[Z]at hc;simp at hc
    .obtain⟨⟨v,h1⟩,h2,h3⟩:=h.b0 r b o x C imm z I hc j hj V;exact⟨⟨v,by rw[m _ _ _ (tj h1) rfl];exact h1⟩,OX,h3⟩
   apart:=fun r b o x cs1 imm z r' b' o' x' cs2 imm' tip' hr hc I hc' J j j' hj V hj' hjl' he=>by
    rcases Y r _ hr with⟨rfl,hp⟩|⟨hn1,hr1⟩
    .rw[Z]at hc;simp at hc
    .rcases Y r' _ I with⟨rfl,hp⟩|⟨hn2,O⟩
     .rw[Z]at hc';simp at hc'
     .exact h.apart r b o x cs1 imm z r' b' o' x' cs2 imm' tip' hr1 hc O hc' J j j' hj V hj' hjl' he
   map:=fun r b o x es hr hc=>by
    rcases Y r _ hr with⟨rfl,hp⟩|⟨J,I⟩
    .simp only[iX]at hp;obtain⟨rfl,rfl,rfl⟩:=hp;rw[Z]at hc;simp only[am,HB.map.injEq]at hc;subst hc;exact⟨#[],0,by show(w.heap.push _)[w.heap.size]?=_;simp,rfl,aB⟩
    .obtain⟨ms,clock,h1,h2⟩:=h.map r b o x es I hc;refine⟨ms,clock,?_,h2.mono L⟩;rw[FD _ _ _ (h.lt r b o x I).2];exact h1
   a7:=fun r b o x es r' b' o' x' hr hc I hs J=>by
    rcases Y r _ hr with⟨rfl,hp⟩|⟨hn1,hr1⟩
    .simp only[iX]at hp;obtain⟨rfl,rfl,rfl⟩:=hp;rcases Y r' _ I with⟨rfl,hp⟩|⟨hn2,O⟩
     .exact(J rfl).elim
     .have:=(h.lt r' b' o' x' O).2;omega
    .rcases Y r' _ I with⟨rfl,hp⟩|⟨hn2,O⟩
     .simp only[iX]at hp;obtain⟨rfl,rfl,rfl⟩:=hp;have:=(h.lt r b o x hr1).2;omega
     .exact h.a7 r b o x es r' b' o' x' hr1 hc O hs J
   dv:=fun b o v hf=>by
    have:=h.dv b o v hf;rw[m _ _ _ (tj this) rfl];exact this
   val:=h.val
   ec:=h.ec}
 .exact FD _ _ _ hk
 grind
def R.more(h:R B H w G)(hn:H.next<=X.next)(hg:∀r,r<H.next->X.get r=H.get r):R B X w G:=by
 have k:∀r p,G.β r=some p->X.get r=H.get r:=fun r p hr=>hg r (h.dz r p hr);exact{
  cc:=h.cc
  dz:=fun r p hr=>iy (h.dz r p hr) hn
  lt:=h.lt
  cells:=fun r b o x O imm z hr hc=>h.cells r b o x O imm z hr cU
  aP:=fun r b o x O imm z hr hc=>h.aP r b o x O imm z hr cU
  ext:=fun r b o x O imm z hr hc=>h.ext r b o x O imm z hr cU
  b9:=fun r b o x O imm z hr hc=>h.b9 r b o x O imm z hr cU
  b0:=fun r b o x O imm z hr hc=>h.b0 r b o x O imm z hr cU
  apart:=fun r b o x O imm z Z J j L C Y V hr hc I hc'=>h.apart r b o x O imm z Z J j L C Y V hr cU I cU
  map:=fun r b o x m hr hc=>h.map r b o x m hr cU
  a7:=fun r b o x m Z J j L hr hc I hs=>h.a7 r b o x m Z J j L hr cU I cU
  dv:=h.dv
  val:=h.val
  ec:=h.ec}
def R.alloc(h:R B H w G)(j:HB):R B (H.alloc j) w G:=
 h.more (dg _) (fun r hr=>dT)
def FJ(h:R B H w G)(j:cq G cs vs)(m:qL)(e:TypeId):
 Step B H.next G w (H.alloc (.cells cs 0 true)) (w.alloc (.cells (vs++m).toArray e)) (G.add H.next (w.heap.size,0,vs.length+m.length)):=
 OZ (h.alloc _) (fun q J=>JQ) aB fw (aG _) j m e
def Zk(h:R B H w G):
 Step B H.next G w (H.alloc (.map [])) (w.alloc (.map #[] 0)) (G.add H.next (w.heap.size,0,0)):=
 O0 (h.alloc _) (fun q J=>JQ) aB fw (aG _)
inductive znS (G:Gh):HB->Obj->Nat->Prop
 |cells (cs:qB) (vs spare:qL) (e:TypeId) (hv:cq G cs vs):znS G (.cells cs 0 true) (.cells (vs++spare).toArray e) (vs.length+spare.length)
 |map:znS G (.map []) (.map #[] 0) 0
def O1{au:Nat}{j:HB}{C:Obj}{ext:Nat}(h:R B X w G)(I:∀q,G.β au=some q->False)(Z:au<X.next)(hg:X.get au=some j)(Y:O<=au)(V:znS G j C ext):
 Step B O G w X (w.alloc C) (G.add au (w.heap.size,0,ext)):=by
 cases V with
 |cells J vs m e L=>exact OZ h I Z hg Y L m e
 |map=>exact O0 h I Z hg Y
def tk(P:Program)(G:Gh)(w:World)(s:Sem J)(f:Value->J)(c:AV)(H H':Hp):Prop:=
 ∃j C ext v,H'=H.alloc j/\s.run P w=.ok (f v) (w.alloc C)/\znS G j C ext/\∀Y:Gh,Y.β H.next=some (w.heap.size,0,ext)->VR Y c v
def tk.sim(h:R B H w G)(Z:tk P G w s id c H H'):∃v L Y,s.run P w=.ok v L/\VR Y c v/\Step B H.next G w H' L Y:=by
 obtain⟨j,C,ext,v,rfl,V,m,O⟩:=Z;exact⟨v,_,_,V,O _ (vH _ _ _),O1 (h.alloc _) (fun q J=>JQ) aB fw (aG _) m⟩
def tk.next(Y:tk P G w s id c H H'):tk P G w (do pure (.value (<-s)):Sem Next) Next.value c H H':=by
 obtain⟨j,C,ext,v,L,Z,m,V⟩:=Y;exact⟨j,C,ext,v,L,by simp[Z],m,V⟩
theorem Zl{J j:Nat}(h:b=J->o≠j):(⟨b,o,none⟩:Addr)≠⟨J,j,none⟩:=fun e=>by
 simp_all
theorem Zm(h:R B H w G){x:Nat}{cs':qB}{imm:Nat}{tip:Bool}(hr:G.β r=some (b,o,x))(hc:H.get r=some (.cells cs imm tip))
 {j:Nat} (hj:imm<=j) (hjl:j<fU x cs tip) 
 (hcs:∀(i:Nat) c,cs'[i]?=some c->(i=j/\VR G c v)\/(i≠j/\cs[i]?=some c)) (hl:cs'.length<=fU x cs tip) (hl':tip=false->cs'.length=cs.length) :
 Step B H.next G w (H.set r (.cells cs' imm tip)) (w.setCell ⟨b,o+j,none⟩ v) G:=by
 obtain⟨⟨u,hu⟩,hfz,hF⟩:=h.b0 r b o x cs imm tip hr hc j hj hjl;have hsame:(w.setCell ⟨b,o+j,none⟩ v).cell? ⟨b,o+j,none⟩=some v:=World.cell?_setCell_same _ _ _ hu;have hother:∀b' o',(b'=b->o'≠o+j)->(w.setCell ⟨b,o+j,none⟩ v).cell? ⟨b',o',none⟩=w.cell? ⟨b',o',none⟩:=fun b' o' hne=>
  World.cell?_setCell_other _ _ _ _ (Zl fun e e'=>hne e.symm e'.symm)
 have hreach:fU x cs' tip=fU x cs tip:=by
  cases tip with
  |true=>rfl
  |false=>exact hl' rfl
 have J:∀k,k≠r->(H.set r (.cells cs' imm tip)).get k=H.get k:=fun k hk=>JR;have hgetr:(H.set r (.cells cs' imm tip)).get r=some (.cells cs' imm tip):=iW;have hkeep:∀b' o' v',G.F b' o'=some v'->(b'=b->o'≠o+j):=fun b' o' v' hf e e'=>aU;have hcell:∀b' o',(∃v',w.cell? ⟨b',o',none⟩=some v')->∃v',(w.setCell ⟨b,o+j,none⟩ v).cell? ⟨b',o',none⟩=some v':=fun b' o' ⟨v',hv'⟩=>by
  grind
 refine⟨?_,Ad _,⟨rfl,rfl,rfl,aB,fun k hk hn=>?_⟩,yx _ _,fun _ _ h=>.inl h,aG _,fun _ _ _ h=>.inl h⟩
 .exact{
   cc:=by have:=h.cc;simp_all
   dz:=h.dz
   lt:=fun r b o x hr=>by have:=h.lt r b o x hr;simp_all
   cells:=fun aq I C z V L Y Z O=>by
    by_cases e:aq=r
    .subst e;rw[hr]at Z;simp only[dB]at Z;obtain⟨rfl,rfl,rfl⟩:=Z;rw[hgetr]at O;simp only[am,HB.cells.injEq]at O;obtain⟨rfl,rfl,rfl⟩:=O;intro i c hi;rcases hcs i c hi with⟨rfl,hv⟩|⟨hne,hi'⟩
     .simp_all
     .obtain⟨v',h1,h2⟩:=h.cells aq b o x cs imm tip hr hc i c hi';simp_all
    .rw[J aq e]at O;intro i c hi;obtain⟨v',h1,h2⟩:=h.cells aq I C z V L Y Z O i c hi;refine⟨v',?_,h2⟩;rw[hother]
     .exact h1
     .have m:i<V.length:=(gR.1 hi).1;have hex:=h.ext aq I C z V L Y Z O;by_cases hi1:L<=i
      .exact h.apart aq I C z V L Y r b o x cs imm tip Z O hr hc e i j hi1 ac hj hjl
      .obtain⟨u',hu'⟩:=h.aP aq I C z V L Y Z O i ac m
       grind
   aP:=fun aq I C z V L Y Z O i hi m=>by
    by_cases e:aq=r
    .subst e;rw[hr]at Z;simp only[dB]at Z;obtain⟨rfl,rfl,rfl⟩:=Z;rw[hgetr]at O;simp only[am,HB.cells.injEq]at O;obtain⟨rfl,rfl,rfl⟩:=O;rcases hcs i _ (aX m)with⟨rfl,_⟩|⟨_,hi'⟩
     .omega
     .exact h.aP aq b o x cs imm tip hr hc i hi (gR.1 hi').1
    .rw[J aq e]at O;exact h.aP aq I C z V L Y Z O i hi m
   ext:=fun aq I C z V L Y Z O=>by
    by_cases e:aq=r
    .simp_all
    .rw[J aq e]at O;exact h.ext aq I C z V L Y Z O
   b9:=fun aq I C z V L Y Z O=>by
    by_cases e:aq=r
    .subst e;rw[hr]at Z;simp only[dB]at Z;obtain⟨rfl,rfl,rfl⟩:=Z;rw[hgetr]at O;simp only[am,HB.cells.injEq]at O;obtain⟨rfl,rfl,rfl⟩:=O;rcases Bool.eq_false_or_eq_true tip with e1|e1
     .subst e1;exact hl
     .rw[hl' e1];exact h.b9 _ _ _ _ _ _ _ hr hc
    .rw[J aq e]at O;exact h.b9 aq I C z V L Y Z O
   b0:=fun aq I C z V L Y Z O i hi m=>by
    by_cases e:aq=r
    .subst e;rw[hr]at Z;simp only[dB]at Z;obtain⟨rfl,rfl,rfl⟩:=Z;rw[hgetr]at O;simp only[am,HB.cells.injEq]at O;obtain⟨rfl,rfl,rfl⟩:=O;rw[hreach]at m;obtain⟨h1,h2,h3⟩:=h.b0 aq b o x cs imm tip hr hc i hi m;exact⟨hcell _ _ h1,aU,h3⟩
    .rw[J aq e]at O;obtain⟨h1,h2,h3⟩:=h.b0 aq I C z V L Y Z O i hi m;exact⟨hcell _ _ h1,aU,h3⟩
   apart:=fun aq I C z V L Y r2 b2 o2 x2 cs2 imm2 tip2 Z O hr2 hc2 hne i i' hi m hi' hil'=>by
    have key:∀k bk ok xk csk immk tipk,G.β k=some (bk,ok,xk)->(H.set r (.cells cs' imm tip)).get k=some (.cells csk immk tipk) ->
     ∃cs0,H.get k=some (.cells cs0 immk tipk)/\fU xk cs0 tipk=fU xk csk tipk:=fun k bk ok xk csk immk tipk hk hck=>by
     grind
    obtain⟨c1,g1,e1⟩:=key aq I C z V L Y Z O;obtain⟨c2,g2,e2⟩:=key r2 b2 o2 x2 cs2 imm2 tip2 hr2 hc2;exact h.apart aq I C z c1 L Y r2 b2 o2 x2 c2 imm2 tip2 Z g1 hr2 g2 hne i i' hi ac hi' ac
   map:=fun aq I C z es Z O=>by
    by_cases e:aq=r
    .simp_all
    .rw[J aq e]at O;obtain⟨ms,clock,h1,h2⟩:=h.map aq I C z es Z O;refine⟨ms,clock,?_,h2⟩;have hb:I≠b:=fun eb=>by
      subst eb;unfold World.cell? at hu;simp_all
     rw[Below.heap_setCell _ _ _ _ hb];exact h1
   a7:=fun aq I C z es r2 b2 o2 x2 Z O hr2 hs hne=>by
    by_cases e:aq=r
    .simp_all
    .rw[J aq e]at O;refine h.a7 aq I C z es r2 b2 o2 x2 Z O hr2 ?_ hne
     grind
   dv:=fun b' o' v' hf=>by rw[hother _ _ (hkeep _ _ _ hf)];exact h.dv _ _ _ hf
   val:=h.val
   ec:=h.ec}
 .exact Below.heap_setCell _ _ _ _ (fun e=>hn r b o x hr e.symm)
def Zn(P:Program)(h:R B H w G){x:Nat}{imm:Nat}{tip:Bool}(hr:G.β r=some (b,o,x))(L:H.get r=some (.cells cs imm tip))
 {j:Nat} (V:imm<=j) (Z:j<fU x cs tip)  (I:v.oneCell'=true) :
 (store ⟨b,o+j,none⟩ v).run P w=.ok () (w.setCell ⟨b,o+j,none⟩ v):=by
 obtain⟨⟨u,m⟩,Y,_⟩:=h.b0 r b o x cs imm tip hr L j V Z;rw[run_store P w _ v _ I,m];simp[Y]
theorem Zo(cs:qB)(off:Nat)(c:AV)(L:qB)(h:off<=cs.length):splice cs off (c::L)=splice (splice cs off [c]) (off+1) L:=by
 unfold splice;have j:(List.take off cs++[c]++List.drop (off+[c].length) cs).take (off+1)=List.take off cs++[c]:=by
  rw[FE cZ,je cZ]
 have m:(List.take off cs++[c]++List.drop (off+[c].length) cs).drop (off+1+L.length)=List.drop (off+(L.length+1)) cs:=by
  rw[List.drop_append,FF cZ];simp only[fx,oE,pD,List.drop_drop,tg]
  congr 1
  omega
 simp_all
def Zp(cs:qB)(off:Nat):splice cs off []=cs:=by simp[splice]
def Zq(cs:qB)(off:Nat)(L:qB)(h:off+L.length<=cs.length):(splice cs off L).length=cs.length:=by simp[splice];omega
def Zr(cs:qB)(off:Nat)(L:qB)(h:off<=cs.length):(splice cs off L).length=max cs.length (off+L.length):=by simp[splice];omega
def O2(cs L:qB):splice cs cs.length L=cs++L:=by simp[splice]
theorem splice_one{j:Nat}(c:AV)(I:j<=cs.length){d:AV}(h:(splice cs j [c])[i]?=some d):(i=j/\d=c)\/(i≠j/\cs[i]?=some d):=by
 unfold splice at h;by_cases O:i<j
 .grind
 .by_cases e:i=j
  .simp_all
  .rw[tf cZ]at h
   grind
theorem rC(b o i:Nat):(⟨b,o,none⟩:Addr).add i=⟨b,o+i,none⟩:=by
 unfold Addr.add;simp_all
def Step.congr(h:Step B O G w H w' Y)(J:H'.next=H.next)(hg:∀r,(Y.β r).isSome->H'.get r=H.get r):Step B O G w H' w' Y:=
 ⟨h.r.congr J hg,h.ext,h.fr,h.new,h.dj,by rw[J];exact h.mono,h.dB⟩
theorem J0(P:Program){x:Nat}{imm:Nat}{tip:Bool}(hr:G.β r=some (b,o,x))(off:Nat):∀(L:qB) (vs:qL) (O:qB) (i:Nat) (H:Hp) (w:World),R B H w G ->
 H.get r=some (.cells O imm tip)->cq G L vs->(∀v∈vs,v.oneCell'=true)->imm<=off+i->off+i<=O.length->off+i+L.length<=fU x O tip->(tip=false->off+i+L.length<=O.length) ->
 ∃w',(storeCells ⟨b,o+off,none⟩ vs i).run P w=.ok () w'/\Step B H.next G w (H.set r (.cells (splice O (off+i) L) imm tip)) w' G:=by
 intro L;induction L with
 |nil=>
  intro vs O i H w J hc hv I hi V Y _;have C:vs=[]:=by have:=hv.1;simpa using this.symm
  subst C;refine⟨w,rfl,(lU J).congr rfl fun k _=>?_⟩;rw[aQ,Zp];simp_all
 |cons c L ih=>
  intro vs O i H w J hc hv I hi V Y Z;cases vs with
  |nil=>have:=hv.1;simp at this
  |cons v vs=>
   obtain⟨hv1,C⟩:=hv.bv;simp only[fc]at Y Z;have hl1:(splice O (off+i) [c]).length=max O.length (off+i+1):=Zr _ _ _ V;have hext:=J.ext r b o x O imm tip hr hc;have z:=Zm J hr hc (j:=off+i) (cs':=splice O (off+i) [c]) (v:=v) hi ac
    (fun k d hk=>by
      rcases splice_one c V hk with⟨e1,e2⟩|h2
      .simp_all
      .exact .inr h2)
    ac
    (fun ht=>cU)
   have m:=Zn P J hr hc (j:=off+i) hi ac (v:=v) (I v aB);have hg1:(H.set r (.cells (splice O (off+i) [c]) imm tip)).get r=some (.cells (splice O (off+i) [c]) imm tip):=iW;have hreach:fU x (splice O (off+i) [c]) tip=fU x O tip:=by
    cases tip with
    |true=>rfl
    |false=>have:=Z rfl;simp only[fU];omega
   obtain⟨w',hw',hs'⟩:=ih vs (splice O (off+i) [c]) (i+1) _ _ z.r hg1 C (fun u hu=>I u (by simp[hu])) ac (by rw[hl1];omega) ac (fun ht=>cU);refine⟨w',?_,(z.trans hs').congr rfl fun k _=>?_⟩
   .simp only[storeCells,gS];rw[rC,lS,m];exact hw'
   .rw[aQ,aQ,aQ,Zo _ _ _ _ V]
    grind
theorem O3(h:R B H w G){x:Nat}{imm:Nat}(hr:G.β r=some (b,o,x))(hc:H.get r=some (.cells cs imm true)){off:Nat}(hoff:off<=cs.length):
 Step B H.next G w ((H.bh r).alloc (.cells (cs.drop off) (imm-off) true)) w (G.add H.next (b,o+off,x-off)):=by
 have hno:∀q,G.β H.next=some q->False:=fun q hq=>by have:=h.dz _ _ hq;omega
 have hext:Ext G (G.add H.next (b,o+off,x-off)):=JZ hno;have hrn:r≠H.next:=fun e=>by subst e;exact hno _ hr
 have C:∀k p,(G.add H.next (b,o+off,x-off)).β k=some p->(k=H.next/\p=(b,o+off,x-off))\/(k≠H.next/\G.β k=some p):=fun k p m=>by
  simp only[Gh.add]at m;split at m
  .rename_i e;exact .inl ⟨e,by simpa using m.symm⟩
  .rename_i e;exact .inr ⟨e,m⟩
 have V:∀k q,k≠H.next->((H.bh r).alloc (.cells (cs.drop off) (imm-off) true)).get k=some q->k≠r/\H.get k=some q:=fun k q m hq=>by
  rw[aL,rB,ah m,jH]at hq;split at hq
  .simp at hq
  .rename_i e;exact⟨e,hq⟩
 have Z:((H.bh r).alloc (.cells (cs.drop off) (imm-off) true)).get H.next=some (.cells (cs.drop off) (imm-off) true):=by rw[aL,rB,ai rfl]
 have hlen:=h.ext r b o x cs imm true hr hc;simp only[fU]at hlen;refine⟨?_,hext,Ci _ _,fun k b' o' x' m=>?_,fun k p m=>(C k p m).elim (fun e=>.inr (by rw[e.1];exact aG _)) (fun e=>.inl e.2),aB,fun _ _ _ h=>.inl h⟩
 .exact{
   cc:=h.cc
   dz:=fun k p m=>by
    rcases C k p m with⟨rfl,_⟩|⟨_,z⟩
    .simp
    .have:=h.dz k p z;simp;omega
   lt:=fun k b' o' x' m=>by
    rcases C k _ m with⟨rfl,hp⟩|⟨_,z⟩
    .simp only[iX]at hp;obtain⟨rfl,rfl,rfl⟩:=hp;exact h.lt r _ _ _ hr
    .exact h.lt k b' o' x' z
   cells:=fun k b' o' x' cs' L I m J=>by
    rcases C k _ m with⟨rfl,hp⟩|⟨O,z⟩
    .simp only[iX]at hp;obtain⟨rfl,rfl,rfl⟩:=hp;rw[Z]at J;simp only[am,HB.cells.injEq]at J;obtain⟨rfl,rfl,rfl⟩:=J;intro j c hj;rw[wW]at hj;obtain⟨v,h1,h2⟩:=h.cells r _ _ _ _ _ _ hr hc (off+j) c hj;exact⟨v,by rw[lS];exact h1,h2.mono hext⟩
    .obtain⟨_,Y⟩:=V k _ O J;exact(h.cells k b' o' x' cs' L I z Y).mono hext
   aP:=fun k b' o' x' cs' L I m J j hj hjl=>by
    rcases C k _ m with⟨rfl,hp⟩|⟨O,z⟩
    .simp only[iX]at hp;obtain⟨rfl,rfl,rfl⟩:=hp;rw[Z]at J;simp only[am,HB.cells.injEq]at J;obtain⟨rfl,rfl,rfl⟩:=J;rw[ui]at hjl;rw[lS];exact h.aP r _ _ _ _ _ _ hr hc (off+j) ac ac
    .obtain⟨_,Y⟩:=V k _ O J;exact h.aP k b' o' x' cs' L I z Y j hj hjl
   ext:=fun k b' o' x' cs' L I m J=>by
    rcases C k _ m with⟨rfl,hp⟩|⟨O,z⟩
    .simp only[iX]at hp;obtain⟨rfl,rfl,rfl⟩:=hp;rw[Z]at J;simp only[am,HB.cells.injEq]at J;obtain⟨rfl,rfl,rfl⟩:=J;simp only[fU,ui];omega
    .obtain⟨_,Y⟩:=V k _ O J;exact h.ext k b' o' x' cs' L I z Y
   b9:=fun k b' o' x' cs' L I m J=>by
    rcases C k _ m with⟨rfl,hp⟩|⟨O,z⟩
    .simp only[iX]at hp;obtain⟨rfl,rfl,rfl⟩:=hp;rw[Z]at J;simp only[am,HB.cells.injEq]at J;obtain⟨rfl,rfl,rfl⟩:=J;simp only[ui];omega
    .obtain⟨_,Y⟩:=V k _ O J;exact h.b9 k b' o' x' cs' L I z Y
   b0:=fun k b' o' x' cs' L I m J j hj hjl=>by
    rcases C k _ m with⟨rfl,hp⟩|⟨O,z⟩
    .simp only[iX]at hp;obtain⟨rfl,rfl,rfl⟩:=hp;rw[Z]at J;simp only[am,HB.cells.injEq]at J;obtain⟨rfl,rfl,rfl⟩:=J;simp only[fU]at hjl;rw[lS];exact h.b0 r _ _ _ _ _ _ hr hc (off+j) ac Ce
    .obtain⟨_,Y⟩:=V k _ O J;exact h.b0 k b' o' x' cs' L I z Y j hj hjl
   apart:=fun k1 b1 o1 x1 cs1 imm1 tip1 k2 b2 o2 x2 cs2 imm2 tip2 hk1 hc1 hk2 hc2 O j1 j2 hj1 hl1 hj2 hl2 he=>by
    rcases C k1 _ hk1 with⟨rfl,hp⟩|⟨hn1,hk1'⟩
    .simp only[iX]at hp;obtain⟨rfl,rfl,rfl⟩:=hp;rw[Z]at hc1;simp only[am,HB.cells.injEq]at hc1;obtain⟨rfl,rfl,rfl⟩:=hc1;simp only[fU]at hl1;rcases C k2 _ hk2 with⟨rfl,hp⟩|⟨hn2,hk2'⟩
     .exact(O rfl).elim
     .obtain⟨hr2,hc2'⟩:=V k2 _ hn2 hc2;rw[lS];exact h.apart r _ _ _ _ _ _ k2 b2 o2 x2 cs2 imm2 tip2 hr hc hk2' hc2' (Ne.symm hr2) (off+j1) j2 ac Ce hj2 hl2 he
    .obtain⟨hr1,hc1'⟩:=V k1 _ hn1 hc1;rcases C k2 _ hk2 with⟨rfl,hp⟩|⟨hn2,hk2'⟩
     .simp only[iX]at hp;obtain⟨rfl,rfl,rfl⟩:=hp;rw[Z]at hc2;simp only[am,HB.cells.injEq]at hc2;obtain⟨rfl,rfl,rfl⟩:=hc2;simp only[fU]at hl2;rw[lS];exact h.apart k1 b1 o1 x1 cs1 imm1 tip1 r _ _ _ _ _ _ hk1' hc1' hr hc hr1 j1 (off+j2) hj1 hl1 ac Ce he
     .obtain⟨hr2,hc2'⟩:=V k2 _ hn2 hc2;exact h.apart k1 b1 o1 x1 cs1 imm1 tip1 k2 b2 o2 x2 cs2 imm2 tip2 hk1' hc1' hk2' hc2' O j1 j2 hj1 hl1 hj2 hl2 he
   map:=fun k b' o' x' es m J=>by
    rcases C k _ m with⟨rfl,hp⟩|⟨O,z⟩
    .rw[Z]at J;simp at J
    .obtain⟨_,Y⟩:=V k _ O J;obtain⟨ms,clock,h1,h2⟩:=h.map k b' o' x' es z Y;exact⟨ms,clock,h1,h2.mono hext⟩
   a7:=fun k1 b1 o1 x1 es k2 b2 o2 x2 hk1 hc1 hk2 hs O=>by
    rcases C k1 _ hk1 with⟨rfl,hp⟩|⟨hn1,hk1'⟩
    .rw[Z]at hc1;simp at hc1
    .obtain⟨hr1,hc1'⟩:=V k1 _ hn1 hc1;rcases C k2 _ hk2 with⟨rfl,hp⟩|⟨hn2,hk2'⟩
     .simp only[iX]at hp;obtain⟨rfl,rfl,rfl⟩:=hp;exact h.a7 k1 b1 o1 x1 es r _ _ _ hk1' hc1' hr (by rw[hc];rfl) hr1
     .cases hh:((H.bh r).alloc (.cells (cs.drop off) (imm-off) true)).get k2 with
      |none=>simp[hh]at hs
      |some q=>
       obtain⟨_,hq⟩:=V k2 q hn2 hh;exact h.a7 k1 b1 o1 x1 es k2 b2 o2 x2 hk1' hc1' hk2' (by rw[hq];rfl) O
   dv:=h.dv
   val:=h.val
   ec:=h.ec}
 grind
def Gh.bU(G:Gh)(w:World)(b o n:Nat):Gh:={β:=G.β,F:=fun J j=>match G.F J j with
 |some v=>some v
 |none=>if J=b/\o<=j/\j<o+n then w.cell? ⟨J,j,none⟩else none,ρ:=G.ρ}
def Zs(G:Gh)(w:World)(b o n:Nat):Ext G (G.bU w b o n):=⟨fun _ _ h=>h,fun J j v h=>by simp[Gh.bU,h],rfl⟩
theorem Cm(h:R B H w G){x:Nat}{imm:Nat}{tip:Bool}(hr:G.β r=some (b,o,x))(hc:H.get r=some (.cells cs imm tip)){n:Nat}(himm:imm<=n)(hn:n<=cs.length)(V:Bool)(ht:V=true->tip=true):
 Step B H.next G w (H.set r (.cells cs n V)) w (G.bU w b o n):=by
 have hext:Ext G (G.bU w b o n):=Zs _ _ _ _ _;have I:∀k,k≠r->(H.set r (.cells cs n V)).get k=H.get k:=fun k m=>by rw[aQ,ah m]
 have hgetr:(H.set r (.cells cs n V)).get r=some (.cells cs n V):=iW;have hex:=h.ext r b o x cs imm tip hr hc;have hreach:∀j,n<=j->j<fU x cs V->j<fU x cs tip:=fun j hj hjl=>by
  cases V with
  |true=>simp_all
  |false=>simp only[fU]at hjl;omega
 have hF:∀L Z v,(G.bU w b o n).F L Z=some v->w.cell? ⟨L,Z,none⟩=some v:=fun L Z v hf=>by
  simp only[Gh.bU]at hf;split at hf
  .rename_i u hu;simp only[am]at hf;subst hf;exact h.dv _ _ _ hu
  simp_all
 have hFin:∀j,j<n->∃v,(G.bU w b o n).F b (o+j)=some v:=fun j hj=>by
  obtain⟨v,h1,_⟩:=h.cells r b o x cs imm tip hr hc j _ (aX ac);simp only[Gh.bU]
  grind
 have hFout:∀L Z,G.F L Z=none->(L=b->Z<o\/o+n<=Z)->(G.bU w b o n).F L Z=none:=fun L Z hf hne=>by
  simp only[Gh.bU,hf]
  grind
 refine⟨?_,hext,Ci _ _,yx _ _,fun _ _ h=>.inl h,aG _,fun L Z v' hv=>?_⟩;rotate_left
 .simp only[Gh.bU]at hv;split at hv
  .simp_all
  .split at hv
   .rename_i hc';exact .inr (by rw[hc'.1];exact(h.lt r b o x hr).1)
   .simp at hv
 exact{
  cc:=h.cc
  dz:=h.dz
  lt:=h.lt
  cells:=fun k L Z x' C Y O m J=>by
   by_cases e:k=r
   .subst e;have z:G.β k=some (L,Z,x'):=m;rw[hr]at z;simp only[dB]at z;obtain⟨rfl,rfl,rfl⟩:=z;rw[hgetr]at J;simp only[am,HB.cells.injEq]at J;obtain⟨rfl,rfl,rfl⟩:=J;exact(h.cells k _ _ _ _ _ _ hr hc).mono hext
   .rw[I k e]at J;exact(h.cells k L Z x' C Y O m J).mono hext
  aP:=fun k L Z x' C Y O m J j hj hjl=>by
   by_cases e:k=r
   .subst e;have z:G.β k=some (L,Z,x'):=m;simp_all
   .rw[I k e]at J;obtain⟨v,hv⟩:=h.aP k L Z x' C Y O m J j hj hjl;exact⟨v,hext.F _ _ _ hv⟩
  ext:=fun k L Z x' C Y O m J=>by
   by_cases e:k=r
   .subst e;have z:G.β k=some (L,Z,x'):=m;rw[hr]at z;simp only[dB]at z;obtain⟨rfl,rfl,rfl⟩:=z;rw[hgetr]at J;simp only[am,HB.cells.injEq]at J;obtain⟨rfl,rfl,rfl⟩:=J;cases V with
    |true=>simp_all
    |false=>exact aG _
   .rw[I k e]at J;exact h.ext k L Z x' C Y O m J
  b9:=fun k L Z x' C Y O m J=>by
   by_cases e:k=r
   .subst e;have z:G.β k=some (L,Z,x'):=m;rw[hr]at z;simp only[dB]at z;obtain⟨rfl,rfl,rfl⟩:=z;rw[hgetr]at J;simp only[am,HB.cells.injEq]at J;obtain⟨rfl,rfl,rfl⟩:=J;exact h.b9 _ _ _ _ _ _ _ hr hc
   .rw[I k e]at J;exact h.b9 k L Z x' C Y O m J
  b0:=fun k L Z x' C Y O m J j hj hjl=>by
   by_cases e:k=r
   .subst e;have z:G.β k=some (L,Z,x'):=m;rw[hr]at z;simp only[dB]at z;obtain⟨rfl,rfl,rfl⟩:=z;rw[hgetr]at J;simp only[am,HB.cells.injEq]at J;obtain⟨rfl,rfl,rfl⟩:=J;have h1:=hreach j hj hjl;obtain⟨g1,g2,g3⟩:=h.b0 k _ _ _ _ _ _ hr hc j ac h1;simp_all
   .rw[I k e]at J;obtain⟨g1,g2,g3⟩:=h.b0 k L Z x' C Y O m J j hj hjl;refine⟨g1,g2,hFout _ _ g3 (fun eb=>?_)⟩;by_cases hin:o<=Z+j/\Z+j<o+n
    .exfalso;have hj0:Z+j-o<cs.length:=ac;have hj1:Z+j-o<fU x cs tip:=ac;by_cases hi:imm<=Z+j-o
     .exact h.apart k L Z x' C Y O r b o x cs imm tip m J hr hc e j (Z+j-o) hj hjl hi hj1 eb ac
     .obtain⟨v,hv⟩:=h.aP r b o x cs imm tip hr hc (Z+j-o) ac hj0;simp_all
    .omega
  apart:=fun k1 b1 o1 x1 cs1 imm1 O k2 b2 o2 x2 cs2 imm2 tip2 hk1 hc1 hk2 hc2 hne j1 j2 hj1 hl1 hj2 hl2 he=>by
   have key:∀k bk ok xk csk immk tipk j,G.β k=some (bk,ok,xk)->(H.set r (.cells cs n V)).get k=some (.cells csk immk tipk)->immk<=j->j<fU xk csk tipk ->
    ∃cs0 imm0 tip0,H.get k=some (.cells cs0 imm0 tip0)/\imm0<=j/\j<fU xk cs0 tip0:=fun k bk ok xk csk immk tipk j m J hj hjl=>by
    grind
   obtain⟨c1,i1,t1,g1,aI,l1⟩:=key k1 b1 o1 x1 cs1 imm1 O j1 hk1 hc1 hj1 hl1;obtain⟨c2,i2,t2,g2,a6,l2⟩:=key k2 b2 o2 x2 cs2 imm2 tip2 j2 hk2 hc2 hj2 hl2;exact h.apart k1 b1 o1 x1 c1 i1 t1 k2 b2 o2 x2 c2 i2 t2 hk1 g1 hk2 g2 hne j1 j2 aI l1 a6 l2 he
  map:=fun k L Z x' es m J=>by
   by_cases e:k=r
   .simp_all
   .rw[I k e]at J;obtain⟨ms,clock,h1,h2⟩:=h.map k L Z x' es m J;exact⟨ms,clock,h1,h2.mono hext⟩
  a7:=fun k1 b1 o1 x1 es k2 b2 o2 x2 hk1 hc1 hk2 hs hne=>by
   by_cases e:k1=r
   .simp_all
   .rw[I k1 e]at hc1;refine h.a7 k1 b1 o1 x1 es k2 b2 o2 x2 hk1 hc1 hk2 ?_ hne
    grind
  dv:=hF
  val:=h.val
  ec:=h.ec}
theorem Zt(h:R B H w G){x:Nat}(hr:G.β r=some (b,o,x))(hx:cs.length<=x)(hc:kR G w b o cs)(hF:∀j,j<cs.length->∃v,G.F b (o+j)=some v)
 (hmap:∀aq b1 o1 x1 es,G.β aq=some (b1,o1,x1)->H.get aq=some (.map es)->b1≠b) :
 Step B H.next G w (H.set r (.cells cs cs.length false)) w G:=by
 have Z:∀k,k≠r->(H.set r (.cells cs cs.length false)).get k=H.get k:=fun k z=>uh;have hgetr:(H.set r (.cells cs cs.length false)).get r=some (.cells cs cs.length false):=iW;have hβ:∀k O L I,k=r->G.β k=some (O,L,I)->O=b/\L=o/\I=x:=fun k O L I e z=>by
  simp_all
 have hcs:∀C Y V,(H.set r (.cells cs cs.length false)).get r=some (.cells C Y V)->C=cs/\Y=cs.length/\V=false:=fun C Y V z=>by
  grind
 refine⟨?_,Ad _,Ci _ _,yx _ _,fun _ _ h=>.inl h,aG _,fun _ _ _ h=>.inl h⟩;exact{
  cc:=h.cc
  dz:=h.dz
  lt:=h.lt
  cells:=fun k O L I C Y V z J=>by
   by_cases e:k=r
   .grind
   .rw[Z k e]at J;exact h.cells k O L I C Y V z J
  aP:=fun k O L I C Y V z J j hj hjl=>by
   by_cases e:k=r
   .grind
   .rw[Z k e]at J;exact h.aP k O L I C Y V z J j hj hjl
  ext:=fun k O L I C Y V z J=>by
   by_cases e:k=r
   .subst e;obtain⟨rfl,rfl,rfl⟩:=hcs _ _ _ J;exact aG _
   .rw[Z k e]at J;exact h.ext k O L I C Y V z J
  b9:=fun k O L I C Y V z J=>by
   by_cases e:k=r
   .grind
   .rw[Z k e]at J;exact h.b9 k O L I C Y V z J
  b0:=fun k O L I C Y V z J j hj hjl=>by
   by_cases e:k=r
   .subst e;obtain⟨rfl,rfl,rfl⟩:=hcs _ _ _ J;simp only[fU]at hjl;omega
   .rw[Z k e]at J;exact h.b0 k O L I C Y V z J j hj hjl
  apart:=fun k1 b1 o1 x1 cs1 imm1 tip1 k2 b2 o2 x2 cs2 imm2 tip2 hk1 m hk2 hc2 hne j1 j2 hj1 hl1 hj2 hl2 he=>by
   by_cases e1:k1=r
   .subst e1;obtain⟨rfl,rfl,rfl⟩:=hcs _ _ _ m;simp only[fU]at hl1;omega
   .by_cases e2:k2=r
    .subst e2;obtain⟨rfl,rfl,rfl⟩:=hcs _ _ _ hc2;simp only[fU]at hl2;omega
    .rw[Z k1 e1]at m;rw[Z k2 e2]at hc2;exact h.apart k1 b1 o1 x1 cs1 imm1 tip1 k2 b2 o2 x2 cs2 imm2 tip2 hk1 m hk2 hc2 hne j1 j2 hj1 hl1 hj2 hl2 he
  map:=fun k O L I es z J=>by
   by_cases e:k=r
   .grind
   .rw[Z k e]at J;exact h.map k O L I es z J
  a7:=fun k1 b1 o1 x1 es k2 b2 o2 x2 hk1 m hk2 hs hne=>by
   by_cases e:k1=r
   .grind
   .rw[Z k1 e]at m;by_cases e2:k2=r
    .grind
    .rw[Z k2 e2]at hs;exact h.a7 k1 b1 o1 x1 es k2 b2 o2 x2 hk1 m hk2 hs hne
  dv:=h.dv
  val:=h.val
  ec:=h.ec}
def yz(P:Program)(B:Bs)(H:Hp)(G:Gh)(w:World)(s:Sem Next)(c:AV)(H':Hp):Prop:=
 ∃n L Y v,s.run P w=.ok n L/\(n=.value v\/(n=.skip/\v=undef))/\VR Y c v/\Step B H.next G w H' L Y
theorem O4(h:BW v=some c):VR G c v:=by
 unfold BW at h;split at h<;>simp only[am,reduceCtorEq]at h<;>subst h<;>constructor;rfl
theorem O5{G:Gh}:∀{vs:qL}{O:qB},vs.mapM BW=some O->cq G O vs
 |[],O,h=>by simp at h;subst h;exact ti G
 |v::vs,O,h=>by
  rw[List.mapM_cons]at h;simp only[Option.bind_eq_bind,aC,Option.pure_def,am]at h;obtain⟨c,hc,C,J,rfl⟩:=h;exact lT (O4 hc) (O5 J)
def Af(h:zW v=some c):VR G c v:=by
 unfold zW at h;split at h
 .rename_i O;simp only[uj]at h;obtain⟨l,L,rfl⟩:=h;have:=O5 (G:=G) L;exact .agg (vs:=O.toList) this.1 this.2
 .exact O4 h
theorem kR.list{G:Gh}{w:World}{b:Nat}:∀{cs:qB}{o:Nat},kR G w b o cs->∃vs,cq G cs vs/\∀(j:Nat) v,vs[j]?=some v->w.cell? ⟨b,o+j,none⟩=some v
 |[],o,_=>⟨[],ti G,aB⟩
 |c::cs,o,h=>by
  obtain⟨v,Z,m⟩:=h 0 c rfl;obtain⟨vs,k1,k2⟩:=kR.list (cs:=cs) (o:=o+1) (fun j d I=>by
   obtain⟨u,C,Y⟩:=h (j+1) d (by simpa using I);exact⟨u,by rw[show o+1+j=o+(j+1) by omega];exact C,Y⟩)
  refine⟨v::vs,lT m k1,fun j u I=>?_⟩
  grind
def kR.drop(h:kR G w b o cs)(n:Nat):kR G w b (o+n) (cs.drop n):=fun j c I=>by
 rw[wW]at I;rw[lS];exact h (n+j) c I
def kR.take(h:kR G w b o cs)(n:Nat):kR G w b o (cs.take n):=fun j c I=>by
 rw[ry]at I;split at I
 .exact h j c I
 .simp at I
section
variable {P:Program} {w:World} {t:TypeId}
def el(h:P.underlying t=some d):(underlying t).run P w=.ok d w:=by simp[underlying,h]
def wZ{i:TypeInfo}(h:P.info? t=some i):(typeInfo t).run P w=.ok i w:=by simp[typeInfo,h]
def O6{s:Nat}(h:bp P t=some s):∃i,P.info? t=some i/\i.size=s:=by simpa [bp,uj]using h
def mE{s:Nat}(h:bp P t=some s):(sizeOf t).run P w=.ok s w:=by
 obtain⟨i,j,m⟩:=O6 h;simp[sizeOf,wZ j,m]
theorem O7(h:zX P t=some c):∃i v,P.info? t=some i/\i.zero=some v/\zW v=some c:=by
 unfold zX at h
 grind
def Zu(h:zX P t=some c):∃v,(∀w,(zeroValue t).run P w=.ok v w)/\∀G,VR G c v:=by
 obtain⟨i,v,j,m,C⟩:=O7 h;exact⟨v,fun w=>by simp[zeroValue,wZ j,m],fun G=>Af C⟩
theorem J1(h:cC P t=some z):∃i v c,P.info? t=some i/\i.zero=some v/\zW v=some c/\c.cells=z:=by
 unfold cC at h;split at h
 .rename_i c hc;simp only[am]at h;obtain⟨i,v,j,m,C⟩:=O7 hc;simp_all
 .simp at h
def Ag(h:cC P t=some z):∃v,(∀w,(zeroValue t).run P w=.ok v w)/\∀G,cq G z v.cells.toList:=by
 obtain⟨i,v,c,j,m,C,rfl⟩:=J1 h;exact⟨v,fun w=>by simp[zeroValue,wZ j,m],fun G=>(Af C).cells⟩
def J2:TypeDesc->Bool
 | .struct _|.array _ _=>true
 |_=>false
theorem FK(h:P.underlying t=some d):(isAgg t).run P w=.ok (J2 d) w:=by
 simp only[isAgg,gS,el h,gT];cases d<;>rfl
def O8{off:Nat}(h:cF P t cs off=some c):
 (∃d s,P.underlying t=some d/\J2 d=true/\bp P t=some s/\((cs.drop off).take s).length=s/\c=.agg ((cs.drop off).take s)) \/
 (∃d,P.underlying t=some d/\J2 d=false/\cs[off]?=some c):=by
 unfold cF at h;split at h
 .rename_i f hd;split at h
  .rename_i s V;simp only[]at h;split at h
   .rename_i L;simp only[am]at h;exact .inl ⟨_,s,hd,rfl,V,L,h.symm⟩
   .simp at h
  .simp at h
 .rename_i n e hd;split at h
  .rename_i s V;simp only[]at h;split at h
   .rename_i L;simp only[am]at h;exact .inl ⟨_,s,hd,rfl,V,L,h.symm⟩
   .simp at h
  .simp at h
 .rename_i d j m hd;refine .inr ⟨d,hd,?_,h⟩;cases d<;>first|rfl|exact(j _ rfl).elim|exact(m _ _ rfl).elim
 .simp at h
def O9{off:Nat}(V:kR G w b o cs)(h:cF P t cs off=some c):
 ∃v,(loadVar t ⟨b,o+off,none⟩).run P w=.ok v w/\VR G c v:=by
 rcases O8 h with⟨d,s,hd,Y,O,J,rfl⟩|⟨d,hd,Y,hc⟩
 .obtain⟨vs,Z,m⟩:=((V.drop off).take s).list;refine⟨.agg vs.toArray,?_,.agg Z.1 Z.2⟩;simp only[loadVar,gS,FK hd,Y,gT,dG,mE O];have L:vs.length=s:=by rw[<-Z.1];exact J
  rw[<-L,run_loadCells_list _ _ vs (fun j v I=>by rw[rC];exact m j v I)];rfl
 .obtain⟨v,Z,m⟩:=V off c hc;refine⟨v,?_,m⟩;simp[loadVar,FK hd,Y,Z]
theorem FL{off:Nat}(j:cq G cs vs)(h:cF P t cs off=some c):
 ∃v,(part t vs.toArray off).run P w=.ok v w/\VR G c v:=by
 rcases O8 h with⟨d,s,hd,m,V,L,rfl⟩|⟨d,hd,m,hc⟩
 .have Z:=(j.drop off).take s;refine⟨.agg ((vs.drop off).take s).toArray,?_,.agg Z.1 Z.2⟩;simp only[part,gS,FK hd,m,gT,dG,mE V,nT];simp_all
 .have C:off<cs.length:=(gR.1 hc).1;have I:off<vs.length:=by have:=j.1;omega
  refine⟨vs[off],?_,j.2 off c _ hc (aX I)⟩;simp[part,FK hd,m,I]
end
def Ah(h:R B H w G){s:Sem Next}(hr:s.run P w=.ok (.value v) w)(j:VR G c v):yz P B H G w s c H:=
 ⟨.value v,w,G,v,hr,.inl rfl,j,lU h⟩
theorem mZ{x:qI}(h:ret H x=some (c,H')):x=some c/\H'=H:=by
 cases x with
 |none=>simp[ret]at h
 |some v=>simp[ret]at h;simp_all
section
variable {P:Program} {B:Bs} {G:Gh} {H H':Hp} {w:World} (h:R B H w G) {c:AV}
include h
def Pa{Y:Value}(V:VR G a Y)(L:eP P H t a=some c):∃v,(Instr.loadAt t Y).run P w=.ok v w/\VR G c v:=by
 unfold eP at L;split at L
 .rename_i r J;cases V with
  |ptr hr=>
   split at L
   .rename_i O C z hc;obtain⟨v,Z,m⟩:=O9 (h.cells _ _ _ _ _ _ _ hr hc) L;exact⟨v,OY,m⟩
   .simp at L
 .rename_i O;cases V with
  |bP vs hF hv=>
   rename_i b o;have hh:kR G w b o O:=fun j d I=>⟨vs j,h.dv _ _ _ (hF j (gR.1 I).1),hv j d I⟩;obtain⟨v,Z,m⟩:=O9 hh L;exact⟨v,OY,m⟩
 .simp at L
theorem Zv{av:Value}(ha:VR G a av)(hx:VR G x I)(V:jY P H t a x=some H'):
 ∃J,(Instr.storeAt t av I).run P w=.ok () J/\Step B H.next G w H' J G:=by
 unfold jY at V;split at V
 .rename_i r C;cases ha with
  |ptr hr=>
   rename_i b o ex;split at V
   .rename_i cs z m s hc hsz;split at V
    .rename_i Z;obtain⟨h1,h2,h3,h4⟩:=Z;simp only[am]at V;subst V;have j:=hx.cells;have L:I.cells.toList.length=s:=by rw[<-j.1];exact h1
     have Y:∀v∈I.cells.toList,v.oneCell'=true:=fun v hv=>by
      obtain⟨i,hi,rfl⟩:=z9 hv;have hi':i<x.cells.length:=by rw[j.1];exact hi
      rw[(j.2 i _ _ (aX hi') (aX hi)).ce];simp_all
     have hex:=h.ext r b o ex cs z m hr hc;obtain⟨J,hw,hst⟩:=J0 P hr C x.cells I.cells.toList cs 0 H w h hc j Y ac ac ac (fun _=>ac);refine⟨J,?_,by simpa using hst⟩;have O:I.cells.size=s:=wV;simp only[Instr.storeAt,Instr.sureAddr,gS,nT,gT,storeVar,mE hsz,O];simpa using hw
    .simp at V
   .simp at V
 .simp at V
end
section
variable {P:Program} {B:Bs} {G:Gh} {H H':Hp} {w:World}
theorem Zw(Y:VR G a m)(z:wL P t a i=some c):∃v,(Instr.fieldAt t m i).run P w=.ok v w/\VR G c v:=by
 unfold wL at z;split at z
 .rename_i Z hd;split at z
  .rename_i f O;split at z
   .rename_i s V;have L:∀b o,m=.pointer (some ⟨b,o,none⟩)->(Instr.fieldAt t m i).run P w=.ok (.pointer (some ⟨b,o+f.offset,none⟩)) w:=fun b o e=>by
     subst e;simp only[Instr.fieldAt,gS,el hd,gT];simp[O,Instr.sureAddr,fieldPlace,mE V,rC]
    split at z
    .rename_i r J;simp only[am]at z;subst z;cases Y with
     |ptr hr=>exact⟨_,L _ _ rfl,JS⟩
    .rename_i cs;simp only[am]at z;subst z;cases Y with
     |bP vs C hv=>
      refine⟨_,L _ _ rfl,.bP (fun j=>vs (f.offset+j)) (fun j I=>?_) (fun j d I=>?_)⟩
      .rw[ui]at I;rw[lS];exact C _ ac
      simp_all
    .simp at z
   .simp at z
  .simp at z
 .simp at z
def Zx(Y:VR G a Z)(z:yk P t a i=some c):∃v,(Instr.field t Z i).run P w=.ok v w/\VR G c v:=by
 unfold yk at z;split at z
 .rename_i m I hd;cases Y with
  |agg L J=>
   rename_i vs;split at z
   .rename_i f O;obtain⟨v,j,V⟩:=FL (P:=P) (w:=w) ⟨L,J⟩ z;refine⟨v,?_,V⟩;simp only[Instr.field,gS,el hd,gT];simp only[O,gS,asAgg,nT,gT];exact j
   .simp at z
 .simp at z
def Zy{i:AV}{av iv:Value}(m:VR G a av)(hi:VR G i iv)(Z:dK P t a i=some c):∃v,(Instr.indexAt t av iv).run P w=.ok v w/\VR G c v:=by
 unfold dK at Z;split at Z
 .rename_i kk k;cases hi;split at Z
  .rename_i e hd;split at Z
   .rename_i s O;split at Z
    .rename_i r L J z;split at Z
     .rename_i Y;simp only[am]at Z;subst Z;cases m with
      |sl hr hl hc=>
       rename_i b o x V;refine⟨.pointer (some ⟨b,o+L+k*s,none⟩),?_,JS⟩;simp only[Instr.indexAt,asIntOf,gS,nT,gT,el hd];have h1:(0:Int)<=Int.ofNat k:=Cg k;have h2:(Int.ofNat k)<(J:Int):=FC;simp[mE O,Y,rC]
     .simp at Z
    .rename_i xs;split at Z
     .rename_i C I;split at Z
      .rename_i hrl;simp only[am]at Z;subst Z;have Y:k<xs.length:=(gR.1 I).1;cases m with
       |aE vs hz hF hv hc=>
        rename_i b o V z;have hzs:s=z:=cU;subst hzs;refine⟨.pointer (some ⟨b,o+k*s,none⟩),?_,.bP (vs k) (fun j hj=>hF k j Y ac) (fun j d hj=>hv k j C d I hj)⟩;simp only[Instr.indexAt,asIntOf,gS,nT,gT,el hd];simp[mE O,Y,rC]
       |cL a V=>simp at Y
      .simp at Z
     .simp at Z
    .simp at Z
   .simp at Z
  .rename_i n e hd;split at Z
   .rename_i s O;split at Z
    .rename_i r L;split at Z
     .rename_i Y;simp only[am]at Z;subst Z;cases m with
      |ptr hr=>
       rename_i b o x;refine⟨.pointer (some ⟨b,o+L+k*s,none⟩),?_,JS⟩;simp only[Instr.indexAt,asIntOf,gS,nT,gT,el hd];simp[mE O,Y,rC,Instr.sureAddr]
     .simp at Z
    .simp at Z
   .simp at Z
  .simp at Z
 .simp at Z
def Zz{i:AV}(Y:VR G a m)(O:VR G i j)(z:ud P t a i=some c):∃v,(Instr.index t m j).run P w=.ok v w/\VR G c v:=by
 unfold ud at z;split at z
 .rename_i kk k;cases O;split at z
  .rename_i s hd;split at z
   .rename_i b hb;simp only[am]at z;subst z;cases Y with
    |ay V l L=>
     subst L;refine⟨_,?_,.int .u8 b.toNat⟩;have Z:k<V.size:=by
      have:=(gR.1 hb).1;simpa using this
     have hg:V[k]?=some b:=by
      rw[ByteArray.getElem?_lt' _ _ Z];have:=(gR.1 hb).2;simp at this;rw[<-this];rfl
     simp only[Instr.index,asIntOf,gS,nT,gT,el hd];simp[hg]
   .simp at z
  .rename_i n e cs hd;split at z
   .rename_i Z;split at z
    .rename_i s J;cases Y with
     |agg L hv=>
      rename_i vs;obtain⟨v,I,C⟩:=FL (P:=P) (w:=w) ⟨L,hv⟩ z;refine⟨v,?_,C⟩;simp only[Instr.index,asIntOf,gS,nT,gT,el hd];simp[mE J,Z,I]
    .simp at z
   .simp at z
  .simp at z
 .simp at z
def ZA(Z:VR G a m)(z:extract a i=some c):∃v,(Instr.extract m i).run P w=.ok v w/\VR G c v:=by
 unfold extract at z;split at z
 .rename_i Y;cases Z with
  |bH L j=>
   rename_i vs;have V:i<Y.length:=(gR.1 z).1;have O:i<vs.length:=ac;exact⟨vs[i],by simp[Instr.extract,O],j i c _ z (aX O)⟩
 .simp at z
def J3{op:BinOp}{a b:Int}(J:op≠.shl/\op≠.shr)(h:kQ op k a b=some c)(xt:TypeId):∃v,(binOp op xt (.int k a) (.int k b)).run P w=.ok v w/\VR G c v:=by
 cases op<;>simp only[kQ,am,reduceCtorEq]at h<;>first
  |(subst h;exact⟨_,by simp[binOp,Op.intArith,Op.intBits,Op.intCmp];rfl,vC⟩)
  |(subst h;exact⟨.int k (k.wrap (BitVec.ofInt k.bits a &&& ~~~ BitVec.ofInt k.bits b).toNat),by simp[binOp,Op.intBits],vC⟩)
  |(split at h
    ·simp at h
    .rename_i hb;simp only[am]at h;subst h;exact⟨_,by simp[binOp,Op.intDiv,hb];rfl,vC⟩)
  |simp at J
theorem ZB{op:BinOp}{a b:ByteArray}(h:BY op a.data.toList b.data.toList=some c)(xt:TypeId):∃v,(binOp op xt (.string a) (.string b)).run P w=.ok v w/\VR G c v:=by
 have C:∀x y,yl x y=Op.bytesLess x y:=fun x=>by
  induction x with
  |nil=>intro y;cases y<;>rfl
  |cons p x ih=>intro y;cases y with
   |nil=>rfl
   |cons q y=>simp[yl,Op.bytesLess,ih]
 cases op<;>simp only[BY,am,reduceCtorEq,C]at h<;>first
  |(subst h;exact⟨.bool (a.data.toList == b.data.toList),z8,vC⟩)
  |(subst h;exact⟨.bool !(a.data.toList == b.data.toList),z8,vC⟩)
  |(subst h;exact⟨.bool (Op.bytesLess a.data.toList b.data.toList),z8,vC⟩)
  |(subst h;exact⟨.bool !(Op.bytesLess a.data.toList b.data.toList),z8,vC⟩)
  |(subst h;exact⟨.bool (Op.bytesLess a.data.toList b.data.toList||a.data.toList == b.data.toList),z8,vC⟩)
  |(subst h;exact⟨.bool !(Op.bytesLess a.data.toList b.data.toList||a.data.toList == b.data.toList),z8,vC⟩)
  |(split at h
    ·rename_i hb;simp only[am]at h;subst h;refine⟨.string (a++b),?_,.ay _ _ ?_⟩
     .have V:¬((a.size+b.size:Nat):Int) > IntKind.i64.max:=by
       have j:a.size+b.size<=70368744177664:=by simpa [ej]using hb
       have m:IntKind.i64.max=9223372036854775807:=rfl;rw[m];omega
      simp only[binOp,Op.stringOp,ah V];rfl
     .simp
    .simp at h)
def Pb(m:Nat){r:Bool}{xt:TypeId}(I:VR G x Z)(O:VR G y j)(h:E6 P xt x y=some r):(Op.equalIn (m+1) xt Z j).run P w=.ok r w:=by
 unfold E6 at h;split at h;all_goals first
  |(rename_i hd
    split at h<;>simp only[am,reduceCtorEq]at h<;>subst h<;>cases I<;>cases O<;>simp[Op.equalIn,el hd]
    done)
  |(rename_i e hd
    split at h<;>simp only[am,reduceCtorEq]at h<;>subst h<;>cases I<;>cases O<;>simp[Op.equalIn,el hd]
    done)
  |(rename_i C V hd
    split at h<;>simp only[am,reduceCtorEq]at h<;>subst h<;>cases I<;>cases O<;>simp[Op.equalIn,el hd]
    done)
  |(rename_i C V Y hd
    split at h<;>simp only[am,reduceCtorEq]at h<;>subst h<;>cases I<;>cases O<;>simp[Op.equalIn,el hd]
    done)
  |simp at h
def FM{op:BinOp}{x y:Operand}{d:AV}{cv dv:Value}(L:VR G c cv)(hd:VR G d dv)(h:∀l m,c=.agg l->d=.agg m->False):(eqGuard op t x y cv dv).run P w=.ok () w:=by
 cases op<;>first|rfl|(cases L<;>cases hd<;>first|rfl|exact(h _ _ rfl rfl).elim)
theorem ZC(a b:ByteArray):(a == b)=(a.data.toList == b.data.toList):=by
 cases a with
 |mk x=>cases b with
  |mk y=>
   show(x == y)=_;simp_all
def Pc(m:Nat){r:Bool}{xt:TypeId}(I:VR G x Z)(O:VR G y j)(h:JL P xt x y=some r):(Op.equalIn (m+1) xt Z j).run P w=.ok r w:=by
 unfold JL at h;split at h
 .split at h
  .rename_i hd;split at h
   .rename_i z;simp only[am]at h;subst h z;cases I;cases O;simp[Op.equalIn,el hd]
   .simp at h
  .simp at h
 .split at h
  .rename_i hd;simp only[am]at h;subst h;cases I with
   |ay a V Y=>cases O with
    |ay b L hb=>
     subst Y hb;simp only[Op.equalIn,gS,el hd,gT,nT,ZC]
  .simp at h
 .exact Pb m I O h
theorem J4{xs j:qB}{xv yv:qL}(I:cq G xs xv)(O:cq G j yv)(m:Nat):∀(Z:List Field) (r:Bool),zY P xs j Z=some r ->
 Sem.run P (forIn Z (none,()) fun(f:Field) (_:qK×Unit)=>
         if f.name="_" then pure (ForInStep.yield (none,()))
         else do
          let a <-part f.type xv.toArray f.offset
          let b <-part f.type yv.toArray f.offset
          let c <-Op.equalIn (m+1) f.type a b
          if c=false then pure (ForInStep.done (some false,()))else pure (ForInStep.yield (none,())))
  w=.ok (match r with|true=>(none,())|false=>(some false,())) w
 |[],r,h=>by
  simp only[zY,am]at h;subst h;rfl
 |f::Z,r,h=>by
  unfold zY at h;rw[List.forIn_cons];split at h
  .rename_i J;rw[ai (by simpa using J)];simp only[gS,nT,gT];exact J4 I O m Z r h
  .rename_i J;rw[ah (by simpa using J)];split at h
   .rename_i a b ha hb;obtain⟨av,L,z⟩:=FL (P:=P) (w:=w) I ha;obtain⟨bv,C,Y⟩:=FL (P:=P) (w:=w) O hb;split at h
    .rename_i V;have:=Pc (P:=P) (w:=w) m z Y V;simp only[gS,L,C,this,gT,FG,fK,nT];exact J4 I O m Z r h
    .rename_i V;have:=Pc (P:=P) (w:=w) m z Y V;simp_all
    .simp at h
   .simp at h
theorem ZD(d:Nat){m:Array Field}{xs Y:Array Value}(hd:P.underlying t=some (.struct m))(V:P.stoodInHeld t=false):
 (Op.equalIn (d+1) t (.agg xs) (.agg Y)).run P w=(Sem.run P (forIn m.toList (none,()) fun(f:Field) (_:qK×Unit)=>
   if f.name="_" then pure (ForInStep.yield (none,()))
   else do
    let a <-part f.type xs f.offset
    let b <-part f.type Y f.offset
    let c <-Op.equalIn d f.type a b
    if c=false then pure (ForInStep.done (some false,()))else pure (ForInStep.yield (none,())))
   w).andThen fun a L=>Sem.run P (match a.1 with|some r=>pure r|none=>pure true) L:=by
 simp[Op.equalIn,el hd,V]
 grind
def ZE(Z:Nat){r:Bool}{xt:TypeId}(J:VR G x I)(C:VR G y j)(h:ym P xt x y=some r):(Op.equalIn (Z+2) xt I j).run P w=.ok r w:=by
 unfold ym at h;split at h
 .unfold E7 at h;split at h
  .rename_i m hd;split at h
   .simp at h
   .rename_i hg;simp only[jG]at hg;cases J with
    |agg Y V=>cases C with
     |agg O L=>
      have:=J4 (P:=P) (w:=w) ⟨Y,V⟩ ⟨O,L⟩ Z m.toList r h;rw[ZD (Z+1) hd hg.1,this];cases r<;>rfl
  .simp at h
 .exact Pb (Z+1) J C h
def ZF{r:Bool}{xt:TypeId}(Z:VR G x I)(O:VR G y j)(h:ym P xt x y=some r):(Op.equal xt I j).run P w=.ok r w:=ZE 9998 Z O h
def ZG{op:BinOp}{x y:Operand}{xs Y:qB}(Z:VR G (.agg xs) I)(O:VR G (.agg Y) j){r:Bool}(h:E7 P t xs Y=some r):(eqGuard op t x y I j).run P w=.ok () w:=by
 unfold E7 at h;split at h
 .split at h
  .simp at h
  .rename_i hg;simp only[jG]at hg;cases Z;cases O;cases op<;>first|rfl|simp[eqGuard,hg.2]
 .simp at h
theorem ZH{op:BinOp}{xt:TypeId}{ox oy:Operand}(V:VR G x I)(O:VR G y j)(J:∀k a k' b,x=.int k a->y=.int k' b->False)
 (L:∀a b,x=.ay a->y=.ay b->False) (C:∀k a,x=.sx k a->False) (z:∀k a k' b,x=.int k a->y=.sx k' b->False) (h:JM P op xt x y=some c) :
 ∃v,(do eqGuard op xt ox oy I j;binOp op xt I j:Sem Value).run P w=.ok v w/\VR G c v:=by
 unfold JM at h;have Z:∃r,ym P xt x y=some r/\((op=.eql/\c=.bool r)\/(op=.neq/\c=.bool !r)):=by
  grind
 obtain⟨r,hr,hop⟩:=Z;have hg:(eqGuard op xt ox oy I j).run P w=.ok () w:=by
  have Y:=hr;unfold ym at Y;split at Y
  .exact ZG V O Y
  .rename_i m;exact FM V O m
 have he:=ZF (P:=P) (w:=w) V O hr;simp only[gS,hg,gT];rcases hop with⟨rfl,rfl⟩|⟨rfl,rfl⟩
 .refine⟨.bool r,?_,.bool r⟩;have:binOp .eql xt I j=(do pure (.bool (<-Op.equal xt I j)):Sem Value):=by
   cases V<;>cases O<;>first|rfl|exact(J _ _ _ _ rfl rfl).elim|exact(L _ _ rfl rfl).elim|exact(C _ _ rfl).elim|exact(z _ _ _ _ rfl rfl).elim
  simp_all
 .refine⟨.bool !r,?_,.bool _⟩;have:binOp .neq xt I j=(do pure (.bool (!(<-Op.equal xt I j))):Sem Value):=by
   cases V<;>cases O<;>first|rfl|exact(J _ _ _ _ rfl rfl).elim|exact(L _ _ rfl rfl).elim|exact(C _ _ rfl).elim|exact(z _ _ _ _ rfl rfl).elim
  simp_all
def Pd{e:Sx}(Z:VR G x I)(h:EY x=some (k,e)):I=.int k (e.eval G.ρ):=by
 unfold EY at h;split at h
 .simp only[dB]at h;obtain⟨rfl,rfl⟩:=h;cases Z;rfl
 .simp only[dB]at h;obtain⟨rfl,rfl⟩:=h;cases Z;rfl
 .simp at h
def ZI{op:BinOp}{a b n:Int}(h:kQ op k a b=some (.int k n)):JJ op k a b=n:=by simp[JJ,h]
def ZJ(Z:rA D G.ρ){op:BinOp}{a b:Sx}(h:JK D op k a b=some c)(xt:TypeId):
 ∃v,(binOp op xt (.int k (a.eval G.ρ)) (.int k (b.eval G.ρ))).run P w=.ok v w/\VR G c v:=by
 have j:∀(op:BinOp) (n:Int),(op≠.shl/\op≠.shr)->kQ op k (a.eval G.ρ) (b.eval G.ρ)=some (.int k n)->c=.sx k (.de op k a b) ->
  ∃v,(binOp op xt (.int k (a.eval G.ρ)) (.int k (b.eval G.ρ))).run P w=.ok v w/\VR G c v:=fun op n J O hc=>by
  obtain⟨v,V,m⟩:=J3 (P:=P) (w:=w) (G:=G) J O xt;cases m;refine⟨_,V,?_⟩;subst hc;have:VR G (.sx k (.de op k a b)) (.int k ((Sx.de op k a b).eval G.ρ)):=.sx _ _;simp only[Sx.eval,ZI O]at this;exact this
 have Y:D .eql b (.lit 0)=some false->b.eval G.ρ≠0:=fun hd=>by
  have:=Z _ k _ _ _ hd;simp[kQ,Sx.eval]at this;exact this
 cases op<;>simp only[JK,am,reduceCtorEq]at h<;>first
  |exact j _ _ aB rfl h.symm
  |(split at h
    ·rename_i hd;simp only[am]at h;first
      |exact j .quo (k.wrap ((a.eval G.ρ).tdiv (b.eval G.ρ))) aB (by simp only[kQ,ah (Y hd)]) h.symm
      |exact j .rem ((a.eval G.ρ).tmod (b.eval G.ρ)) aB (by simp only[kQ,ah (Y hd)]) h.symm
    .simp at h)
  |(split at h
    ·rename_i r hd;simp only[am]at h;subst h;exact J3 (P:=P) (w:=w) (G:=G) aB (Z _ k _ _ _ hd) xt
    .simp at h)
def Pe(z:rA D G.ρ){op:BinOp}{xt:TypeId}{V:Operand}(O:VR G x I)(J:VR G y j)(L:∀l m,x=.agg l->y=.agg m->False)(h:EZ D op x y=some c):
 ∃v,(do eqGuard op xt C V I j;binOp op xt I j:Sem Value).run P w=.ok v w/\VR G c v:=by
 have hg:=FM (P:=P) (w:=w) (op:=op) (t:=xt) (x:=C) (y:=V) O J L;simp only[gS,hg,gT];unfold EZ at h;split at h
 .rename_i k a k' b Z Y;have e1:=Pd O Z;have e2:=Pd J Y;subst e1 e2;split at h
  .rename_i hk;subst hk;exact ZJ z h xt
  .simp at h
 .simp at h
def ZK(J:rA D G.ρ){op:BinOp}{xt:TypeId}{Z:Operand}{Y:Value}(I:VR G x Y)(O:VR G y j)(h:dQ P D op xt x y=some c):
 ∃v,(do eqGuard op xt C Z Y j;binOp op xt Y j:Sem Value).run P w=.ok v w/\VR G c v:=by
 unfold dQ at h;split at h
 .rename_i k a k' b;have hg:=FM (P:=P) (w:=w) (op:=op) (t:=xt) (x:=C) (y:=Z) I O aB;simp only[gS,hg,gT];cases I;cases O;unfold vz at h;split at h
  .unfold wN at h;split at h
   .simp only[am]at h;subst h;refine⟨_,?_,.int _ _⟩;simp only[binOp,Op.shift];rw[ah aB];rfl
   .simp at h
  .unfold wN at h;split at h
   .simp only[am]at h;subst h;refine⟨_,?_,.int _ _⟩;simp only[binOp,Op.shift];rw[ah aB];rfl
   .simp at h
  .rename_i V m;split at h
   .rename_i z;subst z;exact J3 ⟨V,m⟩ h xt
   .simp at h
 .rename_i a b;have hg:=FM (P:=P) (w:=w) (op:=op) (t:=xt) (x:=C) (y:=Z) I O aB;simp only[gS,hg,gT];cases I with
  |ay sa _ L=>
   cases O with
   |ay sb _ hb=>
    subst L hb;exact ZB h xt
 .exact Pe J I O aB h
 .exact Pe J I O aB h
 .exact ZH I O mX mX mX mX h
def ZL{op:UnOp}(I:VR G x Z)(h:vA op x=some c):∃v,(Op.unary op Z).run P w=.ok v w/\VR G c v:=by
 unfold vA at h;split at h
 .cases I;simp only[am]at h;subst h;refine⟨_,rfl,?_⟩;exact .sx _ _
 .cases I;simp only[am]at h;subst h;refine⟨_,rfl,?_⟩;exact .sx _ _
 .cases I;simp only[kQ,am]at h;subst h;exact⟨_,rfl,.int _ _⟩
 .cases I;simp only[kQ,am]at h;subst h;exact⟨_,rfl,.int _ _⟩
 .cases I;simp only[am]at h;subst h;exact⟨_,rfl,.bool _⟩
 .simp at h
end
def yA(G:Gh):qI->qW->Prop
 |none,none=>True
 |some c,some v=>VR G c v
 |_,_=>False
section
variable {P:Program} {B:Bs} {G:Gh} {H H':Hp} {w:World}
def FN{k y:Nat}(code:BoundsCode)(h:VR G c v)(hb:jc 0 (some c)=some k)(z:k<=y):(Instr.sliceBound v y code).run P w=.ok k w:=by
 unfold jc at hb;split at hb
 .simp at *
 .rename_i m n e;simp only[am]at hb e;subst hb;subst e;cases h;simp[Instr.sliceBound,asIntOf,z]
 .simp at hb
theorem ZM{d k:Nat}(h:jc d (some c)=some k):jc 0 (some c)=some k:=by
 unfold jc at *;split at h<;>simp_all
def J5{J:qI}{O V:qW}{l h len cap:Nat}(L:yA G lo O)(Z:yA G J V)(Y:jc 0 lo=some l)(I:jc len J=some h)(j:l<=h)(m:h<=len)(h3:len<=cap)(z:Bool):
 (Instr.sliceBounds z len cap O V none).run P w=.ok (l,h,cap) w:=by
 cases J with
 |none=>
  cases V with
  |some v=>exact Z.elim
  |none=>
   simp only[jc,am]at I;subst I;cases lo with
   |none=>
    cases O with
    |some v=>exact L.elim
    |none=>
     simp only[jc,am]at Y;subst Y;simp[Instr.sliceBounds]
   |some c=>
    cases O with
    |none=>exact L.elim
    |some v=>simp[Instr.sliceBounds,FN _ L Y j]
 |some ch=>
  cases V with
  |none=>exact Z.elim
  |some vh=>
   have C:=ZM I;cases lo with
   |none=>
    cases O with
    |some v=>exact L.elim
    |none=>
     simp only[jc,am]at Y;subst Y;simp[Instr.sliceBounds,FN _ Z C (show h<=cap by omega)]
   |some c=>
    cases O with
    |none=>exact L.elim
    |some v=>simp[Instr.sliceBounds,FN _ L Y j,FN _ Z C (show h<=cap by omega)]
theorem ZN{xv:Value}{O:qI}{lov hiv:qW}(hx:VR G x xv)(hl:yA G lo lov)(hh:yA G O hiv)(h:jZ P t x lo O=some c):
 ∃v,(Instr.sliceAt t xv lov hiv none).run P w=.ok v w/\VR G c v:=by
 unfold jZ at h;split at h
 .rename_i s hd;split at h
  .rename_i l hh' V J;split at h
   .rename_i hc;simp only[am]at h;subst h;cases hx with
    |ay sv _ hs=>
     subst hs;have hb:=J5 (P:=P) (w:=w) (cap:=sv.size) hl hh V J hc.1 hc.2 aU false;have hsz:sv.data.toList.length=sv.size:=aU;rw[hsz]at hb;refine⟨.string (sv.extract l hh'),?_,.ay _ _ (Lib.extract_data _ _ _)⟩;simp only[Instr.sliceAt,gS,el hd,gT,Instr.slice];simp[hb]
   .simp at h
  .simp at h
 .rename_i e y hd;split at h
  .rename_i z hz;have Z:∀(a:Option Addr) (Y cap l C:Nat),xv=.slice a Y cap->jc 0 lo=some l->jc Y O=some C->l<=C->C<=Y->Y<=cap ->
    (Instr.sliceAt t xv lov hiv none).run P w=.ok (.slice (if cap=l then a else a.map (·.add (l*z))) (C-l) (cap-l)) w:=fun a Y cap l C e1 V J h1 h2 h3=>by
    subst e1;simp only[Instr.sliceAt,gS,el hd,gT,Instr.slice];simp[J5 hl hh V J h1 h2 h3,mE hz]
   split at h
   .rename_i r off Y z';split at h
    .rename_i l C V J;split at h
     .rename_i hc;obtain⟨h1,h2,rfl⟩:=hc;cases hx with
      |sl hr hlc hx'=>
       rename_i b o x cap;have:=Z _ Y cap l C rfl V J h1 h2 hlc;split at h
       .rename_i e1;simp only[am]at h;subst h;subst e1;rw[rz]at this;exact⟨_,this,.cL _ _⟩
       .rename_i hne;simp only[am]at h;subst h;rw[ah ac]at this;refine⟨_,this,?_⟩;simp only[lB,rC];rw[lS];refine .sl hr ac ?_;have e3:(cap-l)*z'+l*z'=cap*z':=JT;omega
     .simp at h
    .simp at h
   .rename_i xs;split at h
    .rename_i l C V J;split at h
     .rename_i hc;obtain⟨h1,h2⟩:=hc;split at h
      .rename_i he;simp only[am]at h;subst h;have L:C-l=0:=by
        have:=pC List.length he
        grind
       cases hx with
       |aE vs hzz hF hv m=>
        have:=Z _ _ _ l C rfl V J h1 h2 m;rw[L]at this;exact⟨_,this,.cL _ _⟩
       |cL a cap=>
        have:=Z _ _ _ l C rfl V J h1 h2 (eR cap);rw[L]at this;exact⟨_,this,.cL _ _⟩
      .rename_i row rows he;split at h
       .rename_i hrl;simp only[am]at h;subst h;have hpos:0<C-l:=by
         grind
        cases hx with
        |cL a cap=>simp at h2;omega
        |aE vs hzz hF hv m=>
         rename_i b o cap z';have I:=Z _ _ _ l C rfl V J h1 h2 m;rw[ah ac]at I;have hget:∀i:Nat,(row::rows)[i]?=if i<C-l then xs[l+i]? else none:=fun i=>by
          rw[<-he,ry,wW]
         have hz':z'=z:=by
          have:=hget 0;rw[ai hpos]at this;rw[<-hzz (l+0) row (by rw[<-this];rfl)];exact hrl
         subst hz';have L:(row::rows).length=C-l:=by
          rw[<-he];simp only[oE,ui];omega
         refine⟨_,I,?_⟩;simp only[lB,rC];rw[<-L];refine .aE (z:=z') (fun i j=>vs (l+i) j) (fun i rw' O=>?_) (fun i j O hj=>?_) (fun i j rw' d O hj=>?_) (by rw[L];omega)
         .rw[hget i]at O;split at O
          .exact hzz _ _ O
          .simp at O
         .have:=hF (l+i) j (by rw[L]at O;omega) hj;rw[<-this]
          congr 1
          rw[th];omega
         simp_all
       .simp at h
     .simp at h
    .simp at h
   .split at h
    .rename_i V J;simp only[am]at h;subst h;cases hx;have:=Z none 0 0 0 0 rfl V J (aG _) (aG _) (aG _);exact⟨_,this,.ao⟩
    .simp at h
   .simp at h
  .simp at h
 .simp at h
def cq.splice{L:qB}{nv:qL}(h:cq G cs vs)(J:cq G L nv)(off:Nat):cq G (Ab.splice cs off L) (vs.take off++nv++vs.drop (off+nv.length)):=by
 unfold Ab.splice;rw[J.1];exact((h.take off).append J).append (h.drop _)
theorem Pf(off:Nat):∀(C:qL) (k:Nat) (cells:Array Value),off+k+C.length<=cells.size ->
 ((C.zipIdx k).foldl (fun O (c,j)=>O.setIfInBounds (off+j) c) cells).toList=cells.toList.take (off+k)++C++cells.toList.drop (off+k+C.length)
 |[],k,cells,_=>by simp
 |v::C,k,cells,h=>by
  simp only[fc]at h;rw[List.zipIdx_cons,List.foldl_cons,Pf off C (k+1) _ cZ];simp only[Array.toList_setIfInBounds,fc];have hp:off+k<cells.toList.length:=cZ;have Z:(cells.toList.set (off+k) v).take (off+(k+1))=cells.toList.take (off+k)++[v]:=by
   rw[<-lS,wX,List.take_set_of_le (aG _),List.getElem?_set_self hp];rfl
  rw[Z,List.drop_set_of_lt ac,show off+(k+1)+C.length=off+k+(C.length+1) by omega];simp
theorem FO{Z:Nat->Option (Nat×Nat)}:∀{ps:qP}{pv:List (Nat×Value)}{cs out:qB}{vs:qL},ps.length=pv.length ->
 (∀(i:Nat) p q,ps[i]?=some p->pv[i]?=some q->p.1=q.1/\VR G p.2 q.2)->cq G cs vs->ue Z cs ps=some out ->
 ∃z,Instr.fill Z vs.toArray pv=some z.toArray/\cq G out z
 |[],[],cs,out,vs,_,_,hv,h=>by
  simp only[ue,am]at h;subst h;exact⟨vs,rfl,hv⟩
 |[],q::pv,_,_,_,hl,_,_,_=>by simp at hl
 |p::ps,[],_,_,_,hl,_,_,_=>by simp at hl
 |(i,c)::ps,(i',v)::pv,cs,out,vs,hl,hp,hv,h=>by
  obtain⟨rfl,Y⟩:=hp 0 (i,c) (i',v) rfl rfl;simp only[]at Y;simp only[ue]at h;split at h
  .simp at h
  .rename_i L I J;split at h
   .simp at h
   .rename_i C;have V:=Y.cells;have m:v.cells.size=c.cells.length:=by rw[V.1];simp
    have O:v.cells.size=I/\L+v.cells.size<=vs.length:=by
     rw[m,<-hv.1];omega
    obtain⟨z,h1,h2⟩:=FO (ps:=ps) (pv:=pv) (cs:=Ab.splice cs L c.cells) (out:=out) (vs:=vs.take L++v.cells.toList++vs.drop (L+v.cells.toList.length))
     (by simpa using hl) (fun j p q hj hq=>hp (j+1) p q (by simpa using hj) (by simpa using hq)) (hv.splice V L) h
    refine⟨z,?_,h2⟩;simp only[Instr.fill,J];rw[ah cZ];rw[<-h1]
    congr 1
    apply Ac;have hf:=Pf L v.cells.toList 0 vs.toArray cZ;simp only[wY]at hf;rw[List.toList_toArray,<-hf];rw[<-Array.foldl_toList,Array.toList_zipIdx]
theorem FP{E:aw}{a:Act}:∀{ps:List (Nat×Operand)}{out:qP},(∀p∈ps,∀c,aM E p.2=some c->VR G c (a.eval p.2))->mV E ps=some out ->
 out.length=(ps.map fun x=>(x.1,a.eval x.2)).length/\∀(i:Nat) p q,out[i]?=some p->(ps.map fun x=>(x.1,a.eval x.2))[i]?=some q->p.1=q.1/\VR G p.2 q.2
 |[],out,_,h=>by
  simp only[mV,am]at h;simp_all
 |(i,x)::ps,out,hE,h=>by
  simp only[mV]at h;split at h
  .rename_i v vs j C;simp only[am]at h;subst h;obtain⟨Z,m⟩:=FP (ps:=ps) (out:=vs) (fun p hp=>hE p (by simp[hp])) C
   grind
  .simp at h
theorem ZO{ps:qP}{pv:List (Nat×Value)}(hl:ps.length=pv.length)(hp:∀(i:Nat) p q,ps[i]?=some p->pv[i]?=some q->p.1=q.1/\VR G p.2 q.2)(h:eg P t ps=some c):
 ∃v,(Instr.build t pv.toArray).run P w=.ok v w/\VR G c v:=by
 unfold eg at h;split at h
 .rename_i z L j hd;split at h
  .rename_i C hpl;split at h
   .rename_i out hf;simp only[am]at h;subst h;obtain⟨it,zv,zc,m,I,Y,rfl⟩:=J1 j;have J:=(Af (G:=G) Y).cells;obtain⟨Z,h1,V⟩:=FO hl hp J hf;refine⟨.agg Z.toArray,run_build w t _ _ ?_,.agg V.1 V.2⟩;simp only[Program.built,m,hd,I];unfold OU at hpl;simp_all
   .simp at h
  .simp at h
 .rename_i z n e j hd;split at h
  .rename_i s hs;split at h
   .rename_i out hf;simp only[am]at h;subst h;obtain⟨it,zv,zc,m,I,Y,rfl⟩:=J1 j;have J:=(Af (G:=G) Y).cells;obtain⟨ie,hie,O⟩:=O6 hs;obtain⟨Z,h1,V⟩:=FO hl hp J hf;refine⟨.agg Z.toArray,run_build w t _ _ ?_,.agg V.1 V.2⟩;simp only[Program.built,m,hd,I,hie,O];omega
   .simp at h
  .simp at h
 .simp at h
theorem rep_get(z:qB):∀(n j:Nat),j<n*z.length->(jO z n)[j]?=z[j%z.length]?
 |0,j,h=>by simp at h
 |n+1,j,h=>by
  simp only[jO];by_cases I:j<z.length
  .rw[nQ I,Nat.mod_eq_of_lt I]
  .have C:j<n*z.length+z.length:=by grind
   rw[tf ac,rep_get z n (j-z.length) ac]
   congr 1
   exact(Nat.mod_eq_sub_mod ac).symm
theorem FQ(z:qB):∀n,(jO z n).length=n*z.length
 |0=>by simp[jO]
 |n+1=>by simp[jO,FQ z n,th];omega
theorem J6{m:Array Value}(Y:cq G z m.toList)(n:Nat):cq G (jO z n) (((Array.range (n*z.length)).map (m[·% m.size]!))).toList:=by
 have L:=Y.1;refine⟨by simp[FQ],fun j c v hc V=>?_⟩;have I:j<n*z.length:=by
  have:=(gR.1 hc).1;rw[FQ]at this;exact this
 rw[rep_get z n j I]at hc;simp only[Array.toList_map,Array.toList_range,fd,JW I,lB,am]at V;have Z:0<z.length:=by
  rcases Nat.eq_zero_or_pos z.length with e|e
  .rw[e]at I;omega
  .exact e
 have J:j%z.length<z.length:=Nat.mod_lt _ Z;have O:m.size=z.length:=by simpa using L.symm
 refine Y.2 (j%z.length) c v hc ?_;simp_all
theorem Ph{L:Nat->Option (Nat×Nat)}:∀{z:qP}{O C:qB},ue L O z=some C->C.length=O.length
 |[],O,C,h=>by simp only[ue,am]at h;rw[h]
 |(i,c)::z,O,C,h=>by
  simp only[ue]at h;split at h
  .simp at h
  .split at h
   .simp at h
   .rename_i hc;rw[Ph h,Zq];omega
def Pi{len:Nat}{ps:qP}{pv:List (Nat×Value)}(hl:ps.length=pv.length)(hp:∀(i:Nat) p q,ps[i]?=some p->pv[i]?=some q->p.1=q.1/\VR G p.2 q.2)
 (hb:eW P H t len ps=some (c,H')):tk P G w (Instr.buildSlice t len pv.toArray) id c H H':=by
 unfold eW at hb;split at hb
 .rename_i e hd;split at hb
  .rename_i s z C hz;split at hb
   .rename_i hc;obtain⟨h24,J⟩:=hc;split at hb
    .rename_i m hf;simp only[dB]at hb;obtain⟨rfl,rfl⟩:=hb;obtain⟨zv,V,I⟩:=Ag hz;have L:=J6 (I G) len;obtain⟨Z,j,h2⟩:=FO hl hp L hf;have hlen:Z.length=len*s:=by
      rw[<-h2.1,Ph hf,FQ,J]
     refine⟨.cells m 0 true,.cells (Z++[]).toArray e,Z.length+0,.slice (some ⟨w.heap.size,0,none⟩) len len,rfl,?_,.cells m Z [] e h2,fun G' hG=>.sl hG (aG _) ac⟩;rw[bq];show _=Result.ok (Value.slice (some ⟨w.heap.size,0,none⟩) len len) _
     .have Y:¬(len*s > 2^24):=by omega
      rw[J]at j;by_cases O:len*s=0
      .rw[O]at j;simp at j;simp[Instr.buildSlice,el hd,mE C,O,newRow];rw[show Array.map (fun _:Nat=>(default:Value)) (Array.range 0)=#[]from by simp,j];rfl
      .simp only[FH]at j;simp[Instr.buildSlice,el hd,mE C,Y,O,V,j,newRow]
    .simp at hb
   .simp at hb
  .simp at hb
 .simp at hb
theorem Pj{l r:AV}{lv cv:Value}(hl:VR G l lv)(hc:VR G c cv)(Y:jq P H t l c=some (r,H')):
 tk P G w (Instr.makeSlice t lv cv) id r H H':=by
 unfold jq at Y;split at Y
 .rename_i e k1 l k2 c hd;cases hl;cases hc;split at Y
  .rename_i s b z hs hb hz;split at Y
   .rename_i Z;obtain⟨h1,h2,h3,h4⟩:=Z;simp only[dB]at Y;obtain⟨rfl,rfl⟩:=Y;obtain⟨m,J,O⟩:=Ag hz;obtain⟨i,hi,I⟩:∃i,P.info? e=some i/\i.bytes=b:=JU;have Y:ej=70368744177664:=rfl;rw[Y]at h2 h3;have L:=J6 (O G) l;have V:((Array.range (c*s)).map (m.cells[·% m.cells.size]!)).toList=((Array.range (l*s)).map (m.cells[·% m.cells.size]!)).toList++(((Array.range (c*s)).map (m.cells[·% m.cells.size]!)).toList.drop (l*s)):=by
     have C:l*s<=c*s:=Ch _ h1
     conv=>lhs;rw[<-JX (l*s) ((Array.range (c*s)).map (m.cells[·% m.cells.size]!)).toList]
     congr 1
     simp only[Array.toList_map,Array.toList_range,<-JY];rw[List.take_range,Nat.min_eq_left C]
    rw[h4]at L;have j:znS G (.cells (jO z l) 0 true) _ _:=.cells _ _ (((Array.range (c*s)).map (m.cells[·% m.cells.size]!)).toList.drop (l*s)) e L;rw[<-V,FH]at j;refine⟨_,_,_,.slice (some ⟨w.heap.size,0,none⟩) l c,rfl,?_,j,fun G' hG=>.sl hG h1 ?_⟩
    .show _=Result.ok (Value.slice (some ⟨w.heap.size,0,none⟩) l c) _;have dI:IntKind.i64.wrap (l:Int)=l:=vD _ ac;have w2:IntKind.i64.wrap (c:Int)=c:=vD _ ac;have h2':¬((b:Int)*c > 2^48):=by
      have:(b:Int)*c=((c*b:Nat):Int):=by rw[Nat.mul_comm];simp
      rw[this];omega
     have h5:¬((281474976710656:Int)<(b:Int)*c):=by simpa using h2'
     have h6:¬(c<l):=ac;have p1:¬((c:Int)<0):=ac;have p2:¬((l:Int)<0):=ac;simp only[Instr.makeSlice,gS,el hd,gT,asInt,asIntOf];by_cases h0:c*s=0
     .simp[wZ hi,I,dI,w2,h5,h6,p1,p2,mE hs,h0,newRow];rw[show ∀f g:Nat->Value,Array.map f (Array.range 0)=Array.map g (Array.range 0)from fun f g=>aB]
     .simp[wZ hi,I,dI,w2,h5,h6,p1,p2,mE hs,h0,J,newRow]
    grind
   .simp at Y
  .simp at Y
 .simp at Y
end
end Go.Ab
