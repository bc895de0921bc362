/- Lemmas for the last file. -/
import Derived.Laws.Tables
import Derived.Lib.Strings
import Derived.Test.YtbflaciihaijgaaPEA
import Derived.WalkKit
set_option linter.all false
set_option maxHeartbeats 32000000
namespace Go.Ab
set_option maxRecDepth 20000
open Go
abbrev qQ:=Option Value
abbrev qE:=List Value
variable{qd:Prop}
def az(h:qd:=by simp):=h
def Bj(h:qd:=by simpa using hc):=h
def tD(h:qd:=by simpa using V):=h
def ac(h:qd:=by omega):=h
def lR(h:qd:=by rw[<- k r _ hr];exact hc):=h
def ca(h:qd:=by simp;omega):=h
def Et(h:qd:=by have:=h.b3 _ _ K;omega):=h
def gD(h:qd:=by rw[aQ,if_pos rfl]):=h
def gL(h:qd:=by rw[Hp.get_set,if_pos rfl]):=h
def yr(h:qd:=by simp only[eZ];omega):=h
def wS(h:qd:=by simpa using m):=h
def I8(h:qd:=by simpa [Instr.loadAt,Instr.sureAddr]using i):=h
def Eu(h:qd:=by rw[Nat.add_assoc];exact .ptr hr):=h
def sh(h:qd:=by constructor):=h
def wT(h:qd:=by simp[binOp,Op.stringOp,ByteArray.toList_eq]):=h
def Bk(h:qd:=by simpa using C):=h
def jm(h:qd:=by assumption):=h
def Ev(h:qd:=by rw[<- Nat.add_mul];congr 1;omega):=h
def wU(h:qd:=by simpa using K):=h
def wV(h:qd:=by simpa using Z):=h
def eG(h:qd:=by rw[aQ,if_neg ac]):=h
def iw:=@List.getElem?_append_left
def kN:=@List.getElem?_append_right
def rx:=@List.getElem?_take
def ay:=@if_pos
def aO:=@Nat.le_refl
def dq:=@Nat.le_trans
def mZ:=@Nat.lt_of_lt_of_le
def jn:=@Nat.eq_of_beq_eq_true
def Ew:=@Nat.ne_of_beq_eq_false
def oV:=@decide_true
def j7:=@decide_false
def af:=@if_neg
def aJ:=@Option.some.injEq
def j8:=@Nat.blt_eq
def jG:=@Array.getD_eq_getD_getElem?
def u7:=@Array.getElem?_setIfInBounds
def gY:=@Prod.mk.injEq
def eS:=@List.getElem?_eq_some_iff
def a0:=@List.getElem?_eq_getElem
def bO:=@Nat.zero_add
def Bl:=@Go.RowKit.Below.heap_alloc
def dH:=@Nat.le_succ
def Bm:=@List.take_append_of_le_length
def gZ:=@List.take_of_length_le
def Ey:=@List.drop_of_length_le
def fg:=@List.length_append
def lS:=@List.length_take
def eT:=@List.length_cons
def gM:=@List.length_nil
def Ez:=@List.drop_drop
def pJ:=@List.nil_append
def lT:=@List.append_assoc
def tE:=@List.getElem?_drop
def fh:=@Go.Sem.run_bind
def kO:=@Nat.add_assoc
def kQ:=@List.length_drop
def iS:=@Option.bind_eq_some_iff
def pK:=@Option.map_eq_some_iff
def fo:=@Go.Result.andThen_ok
def bC:=@if_true
def kR:=@Go.Sem.run_pure
def m1:=@Array.ext'
def yu:=@List.getElem_of_mem
def hM:=@List.all_eq_true
def cL:=@List.getElem_mem
def Bn:=@Bool.eq_iff_iff
def oW:=@beq_iff_eq
def sk:=@Bool.true_eq_false
def bH:=@if_false
def kS:=@Bool.or_eq_false_iff
def lU:=@Nat.sub_self
def jo:=@Option.map_some
def jH:=@congrArg
def dN:=@Nat.zero_le
def nf:=@Nat.add_mul
def I9:=@Array.toList_setIfInBounds
def ry:=@List.take_add_one
def EA:=@Decidable.byContradiction
def tF:=@Nat.add_zero
def wW:=@Array.toArray_toList
def wX:=@Nat.succ_mul
def EB:=@Array.toList_map
def fO:=@List.getElem?_map
def EC:=@List.getElem?_range
def jI:=@List.append_nil
def yw:=@Nat.mul_le_mul_right
def ED:=@List.take_append_drop
def yx:=@Go.IntWalk.i64_in
def cO:=And.intro @aJ.{0} @gY.{0,0}
def mC:=And.intro @eT.{0} @gM.{0}
end Go.Ab
namespace Go.Ab
set_option maxRecDepth 20000
open Go Go.RowKit
structure Gh where
 β:Nat->Option (Nat×Nat×Nat)
 F:Nat->Nat->qQ
 ρ:Nat->Int
structure Bs where
 cO:Nat
 ρ:Nat->Int
 bG:Cfg
variable{G V L:Gh}{c x a y:AV}{v Y g K:Value}{cs z I:qs}{vs:qE}{w w':World}{B:Bs}{H H' X:Hp}{J:Type}{b o j i:Nat}{U O:Operand}{P:Program}{s:Sem Value}{d:TypeDesc}{t C:TypeId}{k:IntKind}{D:BinOp->Sx->Sx->qF}{lo:qB}
def oX(D:BinOp->Sx->Sx->qF)(ρ:Nat->Int):Prop:=∀U k a b r,D U a b=some r->jZ U k (a.eval ρ) (b.eval ρ)=some (.bool r)
inductive VR (G:Gh):AV->Value->Prop
 |int (k:IntKind) (n:Int):VR G (.int k n) (.int k n)
 |sx (k:IntKind) (e:Sx):VR G (.sx k e) (.int k (e.eval G.ρ))
 |bool (b:Bool):VR G (.bool b) (.bool b)
 |ai (s:ByteArray) (l:qw) (h:s.data.toList=l):VR G (.ai l) (.string s)
 |bl:VR G .bl (.pointer none)
 |a7:VR G .a7 (.map none)
 |bu:VR G .bu .nilFunc
 |ah:VR G .ah (.slice none 0 0)
 |ptr {r off b o x:Nat} (h:G.β r=some (b,o,x)):VR G (.ptr r off) (.pointer (some ⟨b,o+off,none⟩))
 |a8 {cs:qs}{b o:Nat} (vs:Nat->Value) (hF:∀j,j<cs.length->G.F b (o+j)=some (vs j))
  (hv:∀(j:Nat) (c:AV),cs[j]?=some c->VR G c (vs j)):VR G (.a8 cs) (.pointer (some ⟨b,o,none⟩))
 |sl {r off len z b o x cap:Nat} (h:G.β r=some (b,o,x)) (hl:len<=cap) (hc:off+cap*z<=x) :
  VR G (.sl r off len z) (.slice (some ⟨b,o+off,none⟩) len cap)
 |ao {xs:List qs}{b o cap z:Nat} (vs:Nat->Nat->Value) (hz:∀(i:Nat) (row:qs),xs[i]?=some row->row.length=z)
  (hF:∀i j,i<xs.length->j<z->G.F b (o+i*z+j)=some (vs i j))
  (hv:∀(i j:Nat) (row:qs) (c:AV),xs[i]?=some row->row[j]?=some c->VR G c (vs i j)) (hc:xs.length<=cap) :
  VR G (.ao xs) (.slice (some ⟨b,o,none⟩) xs.length cap)
 |bU (a:Option Addr) (cap:Nat):VR G (.ao []) (.slice a 0 cap)
 |map {r b o x:Nat} (h:G.β r=some (b,o,x)):VR G (.map r) (.map (some b))
 |bb {f:Nat}{cs:qs}{vs:qE} (hl:cs.length=vs.length) (hv:∀(i:Nat) c v,cs[i]?=some c->vs[i]?=some v->VR G c v) :
  VR G (.bb f cs) (.func (.func f) #[] vs.toArray)
 |agg {cs:qs}{vs:qE} (hl:cs.length=vs.length) (hv:∀(i:Nat) c v,cs[i]?=some c->vs[i]?=some v->VR G c v) :
  VR G (.agg cs) (.agg vs.toArray)
 |aS {cs:qs}{vs:qE} (hl:cs.length=vs.length) (hv:∀(i:Nat) c v,cs[i]?=some c->vs[i]?=some v->VR G c v) :
  VR G (.aS cs) (.tuple vs.toArray)
def cp(G:Gh)(cs:qs)(vs:qE):Prop:=cs.length=vs.length/\∀(i:Nat) c v,cs[i]?=some c->vs[i]?=some v->VR G c v
def cp.nil(G:Gh):cp G [] []:=⟨rfl,az⟩
def rz:=@cp.nil
def cp.cons(h:VR G c v)(M:cp G cs vs):cp G (c::cs) (v::vs):=by
 refine⟨by simp[M.1],fun i m z hc V=>?_⟩;cases i with
 |zero=>simp at hc V;subst hc V;exact h
 |succ i=>exact M.2 i m z Bj tD
def mD:=@cp.cons
def cp.aX(h:cp G (c::cs) (v::vs)):VR G c v/\cp G cs vs:=
 ⟨h.2 0 c v rfl rfl,by simpa using h.1,fun i m z hc V=>h.2 (i+1) m z Bj tD⟩
def cp.append{j:qs}{us:qE}(h:cp G cs vs)(o:cp G j us):cp G (cs++j) (vs++us):=by
 refine⟨by simp[h.1,o.1],fun i c v hc V=>?_⟩;have K:=h.1;by_cases z:i<cs.length
 .rw[iw z]at hc;rw[iw ac]at V;exact h.2 i c v hc V
 .rw[kN ac]at hc;rw[kN ac]at V;rw[<-K]at V;exact o.2 _ c v hc V
def cp.drop(h:cp G cs vs)(n:Nat):cp G (cs.drop n) (vs.drop n):=
 ⟨by simp[h.1],fun i c v hc V=>h.2 (n+i) c v Bj tD⟩
def cp.take(h:cp G cs vs)(n:Nat):cp G (cs.take n) (vs.take n):=by
 refine⟨by simp[h.1],fun i c v hc V=>?_⟩;rw[rx]at hc V;split at hc
 .rename_i z;rw[ay z]at V;exact h.2 i c v hc V
 .simp at hc
structure Ext (G G':Gh):Prop where
 β:∀r p,G.β r=some p->G'.β r=some p
 F:∀b o v,G.F b o=some v->G'.F b o=some v
 ρ:G'.ρ=G.ρ
def Ext.refl(G:Gh):Ext G G:=⟨fun _ _ h=>h,fun _ _ _ h=>h,rfl⟩
def wY:=@Ext.refl
def Ext.trans{a b c:Gh}(h:Ext a b)(k:Ext b c):Ext a c:=⟨fun r p hp=>k.β r p (h.β r p hp),fun x y v V=>k.F x y v (h.F x y v V),k.ρ.trans h.ρ⟩
def VR.mono(e:Ext G V)(h:VR G c v):VR V c v:=by
 induction h with
 |int k n=>exact .int k n
 |sx k x=>rw[<-e.ρ];exact .sx k x
 |bool b=>exact .bool b
 |ai s l h=>exact .ai s l h
 |bl=>exact .bl
 |a7=>exact .a7
 |bu=>exact .bu
 |ah=>exact .ah
 |ptr h=>exact .ptr (e.β _ _ h)
 |a8 vs U _ ih=>exact .a8 vs (fun j m=>e.F _ _ _ (U j m)) ih
 |sl h K hc=>exact .sl (e.β _ _ h) K hc
 |ao vs I U _ hc ih=>exact .ao vs I (fun i j z m=>e.F _ _ _ (U i j z m)) ih hc
 |bU a Z=>exact .bU a Z
 |map h=>exact .map (e.β _ _ h)
 |bb K _ ih=>exact .bb K ih
 |agg K _ ih=>exact .agg K ih
 |aS K _ ih=>exact .aS K ih
def cp.mono(e:Ext G V){c:qs}{v:qE}(h:cp G c v):cp V c v:=⟨h.1,fun i a b j o=>(h.2 i a b j o).mono e⟩
theorem VR.bz(h:VR G c v):v.oneCell'=c.one:=by cases h<;>rfl
def VR.cells{G:Gh}{c:AV}{v:Value}(h:VR G c v):cp G c.cells v.cells.toList:=by
 cases h with
 |agg K V=>exact⟨by simpa [AV.cells,Value.cells]using K,by simpa [AV.cells,Value.cells]using V⟩
 |_=>exact mD (by constructor<;>assumption) (rz _)
def jp(G:Gh)(w:World)(b o:Nat)(cs:qs):Prop:=∀(j:Nat) (c:AV),cs[j]?=some c->∃v,w.cell? ⟨b,o+j,none⟩=some v/\VR G c v
def eZ(x:Nat)(cs:qs):Bool->Nat
 |true=>x
 |false=>cs.length
def sm(G:Gh)(g:qL)(ms:List MapEntry):Prop:=
 g.length=ms.length/\∀(i:Nat) e m,g[i]?=some e->ms[i]?=some m->VR G e.1 m.key/\VR G e.2 m.val
structure R (B:Bs) (H:Hp) (w:World) (G:Gh):Prop where
 bw:B.cO<=w.heap.size
 b3:∀r p,G.β r=some p->r<H.next
 lt:∀r b o x,G.β r=some (b,o,x)->B.cO<=b/\b<w.heap.size
 cells:∀r b o x cs imm tip,G.β r=some (b,o,x)->H.get r=some (.cells cs imm tip)->jp G w b o cs
 au:∀r b o x cs imm tip,G.β r=some (b,o,x)->H.get r=some (.cells cs imm tip)->∀j,j<imm->j<cs.length->∃v,G.F b (o+j)=some v
 ext:∀r b o x cs imm tip,G.β r=some (b,o,x)->H.get r=some (.cells cs imm tip)->cs.length<=eZ x cs tip
 bh:∀r b o x cs imm tip,G.β r=some (b,o,x)->H.get r=some (.cells cs imm tip)->∀j,imm<=j->j<eZ x cs tip ->
  (∃v,w.cell? ⟨b,o+j,none⟩=some v)/\w.frozen? ⟨b,o+j,none⟩=false/\G.F b (o+j)=none
 apart:∀r b o x cs imm tip r' b' o' x' cs' imm' tip',G.β r=some (b,o,x)->H.get r=some (.cells cs imm tip) ->
  G.β r'=some (b',o',x')->H.get r'=some (.cells cs' imm' tip')->r≠r' ->
  ∀j j',imm<=j->j<eZ x cs tip->imm'<=j'->j'<eZ x' cs' tip'->b=b'->o+j≠o'+j'
 map:∀r b o x es,G.β r=some (b,o,x)->H.get r=some (.map es)->∃ms clock,w.heap[b]?=some (.map ms clock)/\sm G es ms.toList
 aN:∀r b o x es r' b' o' x',G.β r=some (b,o,x)->H.get r=some (.map es)->G.β r'=some (b',o',x')->(H.get r').isSome->r≠r'->b≠b'
 b0:∀b o v,G.F b o=some v->w.cell? ⟨b,o,none⟩=some v
 val:G.ρ=B.ρ
 cj:oX B.bG.b7 B.ρ
 bm:∀r b o x cs imm tip,G.β r=some (b,o,x)->H.get r=some (.cells cs imm tip)->cs.length<=x
structure Fr (G:Gh) (w w':World):Prop where
 os:w'.os=w.os
 tape:w'.tape=w.tape
 output:w'.output=w.output
 size:w.heap.size<=w'.heap.size
 block:∀k,k<w.heap.size->(∀r b o x,G.β r=some (b,o,x)->b≠k)->w'.heap[k]?=w.heap[k]?
def Fr.refl(G:Gh)(w:World):Fr G w w:=⟨rfl,rfl,rfl,aO _,fun _ _ _=>rfl⟩
def yy:=@Fr.refl
def so(G V:Gh)(w:World):Prop:=∀r b o x,V.β r=some (b,o,x)->G.β r=some (b,o,x)\/w.heap.size<=b\/∃J U Y,G.β J=some (b,U,Y)
def Fr.trans{a b c:World}(h:Fr G a b)(k:Fr V b c)(n:so G V a):Fr G a c:=
 ⟨k.os.trans h.os,k.tape.trans h.tape,k.output.trans h.output,dq h.size k.size,fun i z C=>
  (k.block i (mZ z h.size) (fun r b o x hr j=>by
    rcases n r b o x hr with Z|Z|⟨J,U,Y,Z⟩
    .exact C r b o x Z j
    .omega
    .exact C J b U Y Z j)).trans (h.block i z C)⟩
def so.refl(G:Gh)(w:World):so G G w:=fun _ _ _ _ h=>.inl h
def u9:=@so.refl
def so.trans(h:so G V w)(k:so V L w')(M:w.heap.size<=w'.heap.size):so G L w:=fun r b o x hr=>by
 rcases k r b o x hr with i|i|⟨J,U,Y,i⟩
 .exact h r b o x i
 .exact .inr (.inl ac)
 .rcases h J b U Y i with g|g|g
  .exact .inr (.inr ⟨J,U,Y,g⟩)
  .exact .inr (.inl g)
  .exact .inr (.inr g)
structure Step (B:Bs) (nx:Nat) (G:Gh) (w:World) (H':Hp) (w':World) (G':Gh):Prop where
 r:R B H' w' G'
 ext:Ext G G'
 fr:Fr G w w'
 new:so G G' w
 bP:∀r p,G'.β r=some p->G.β r=some p\/nx<=r
 mono:nx<=H'.next
 b4:∀b o v,G'.F b o=some v->G.F b o=some v\/B.cO<=b
variable{r:Nat}
def Step.refl(h:R B H w G):Step B H.next G w H w G:=⟨h,wY _,yy _ _,u9 _ _,fun _ _ h=>.inl h,aO _,fun _ _ _ h=>.inl h⟩
def j9:=@Step.refl
def Step.trans{V:Nat}{K:Hp}{Z:Gh}{M:World}(h:Step B V G w H' w' Z)(k:Step B H'.next Z w' K M L):Step B V G w K M L:=
 ⟨k.r,h.ext.trans k.ext,h.fr.trans k.fr h.new,h.new.trans k.new h.fr.size,fun r p hr=>by
  rcases k.bP r p hr with i|i
  .exact h.bP r p i
  .exact .inr (dq h.mono i),dq h.mono k.mono,fun b o v Y=>by
  rcases k.b4 b o v Y with i|i
  .exact h.b4 b o v i
  .exact .inr i⟩
structure TR (N:Nat) (G:Gh) (E:aB) (a:Act):Prop where
 size:a.tmps.size=N
 bp:∀t,VR G (E.at t) (a.tmps.getD t undef)
def TR.mono{N:Nat}{E:aB}{a:Act}(e:Ext G V)(h:TR N G E a):TR N V E a:=⟨h.size,fun t=>(h.bp t).mono e⟩
def VR.undef(G:Gh):VR G ed Go.undef:=.aS (cs:=[]) (vs:=[]) rfl az
def yz:=@VR.undef
@[simp] theorem sq {α:Type} (x y:α):lB true x y=x:=rfl
@[simp] theorem ng {α:Type} (x y:α):lB false x y=y:=rfl
theorem yA(k:Nat):(T.e:T J).get k=none:=rfl
theorem va(v:Option J)(l r:T J)(k:Nat):
 (T.n v l r).get k=lB (Nat.beq k 0) v (lB (Nat.beq (Nat.mod k 2) 1) (l.get (Nat.div k 2)) (r.get (Nat.sub (Nat.div k 2) 1))):=rfl
theorem Sv(v:Option J)(f:Nat)(t:T J)(k:Nat):uO v (f+1) t k=T.casesOn t
 (lB (Nat.beq k 0) (.n v .e .e) (lB (Nat.beq (Nat.mod k 2) 1) (.n none (uO v f .e (Nat.div k 2)) .e) (.n none .e (uO v f .e (Nat.sub (Nat.div k 2) 1)))))
 (fun u l r=>lB (Nat.beq k 0) (.n v l r) (lB (Nat.beq (Nat.mod k 2) 1) (.n u (uO v f l (Nat.div k 2)) r) (.n u l (uO v f r (Nat.sub (Nat.div k 2) 1))))):=rfl
def Sw(v:Option J):∀(f:Nat) (t:T J) (k j:Nat),k<f->(uO v f t k).get j=if j=k then v else t.get j:=by
 intro f;induction f with
 |zero=>intro t k j h;omega
 |succ f ih=>
  intro t k j h;have hd:∀n:Nat,Nat.div n 2=n/2:=fun _=>rfl;have Y:∀n:Nat,Nat.mod n 2=n%2:=fun _=>rfl;have M:∀n:Nat,Nat.sub n 1=n-1:=fun _=>rfl;have O:∀n m:Nat,Nat.beq n m=decide (n=m):=fun n m=>by
   cases h:Nat.beq n m with
   |true=>have e:=jn h;simp[e]
   |false=>have e:=Ew h;simp[e]
  rw[Sv];cases t with
  |e=>
   simp only[];by_cases I:k=0
   .subst I;simp only[O,oV,sq,va,yA];by_cases V:j=0<;>simp[V] ;cases decide (j.mod 2=1)<;>rfl
   .simp only[O,I,j7,ng];by_cases Z:Nat.mod k 2=1
    .simp only[Z,oV,sq,va,O];by_cases U:j=0
     .subst U;simp[yA];omega
     .simp only[U,j7,ng];by_cases z:Nat.mod j 2=1
      .simp only[z,oV,sq];rw[ih _ _ _ (by rw[hd];omega)];rw[hd,hd,Y]at *;by_cases e:j=k
       .subst e;simp
       .rw[af ac,af e];rfl
      .simp only[z,j7,ng,yA];rw[af (by rintro rfl;exact z Z)]
    .simp only[Z,j7,ng,va,O];by_cases U:j=0
     .subst U;simp[yA];omega
     .simp only[U,j7,ng];by_cases z:Nat.mod j 2=1
      .simp only[z,oV,sq,yA];rw[af (by rintro rfl;exact Z z)]
      .simp only[z,j7,ng];rw[ih _ _ _ (by rw[hd,M];omega)];rw[hd,hd,M,M];rw[Y]at Z z;by_cases e:j=k
       .subst e;simp
       .rw[af ac,af e];rfl
  |n u l r=>
   simp only[];by_cases I:k=0
   .subst I;simp only[O,oV,sq,va];by_cases V:j=0<;>simp[V]
   .simp only[O,I,j7,ng];by_cases Z:Nat.mod k 2=1
    .simp only[Z,oV,sq,va,O];by_cases U:j=0
     .subst U;simp;omega
     .simp only[U,j7,ng];by_cases z:Nat.mod j 2=1
      .simp only[z,oV,sq];rw[ih _ _ _ (by rw[hd];omega)];rw[Y]at Z z;rw[hd,hd];by_cases e:j=k
       .subst e;simp
       .rw[af ac,af e]
      .simp only[z,j7,ng];rw[af (by rintro rfl;exact z Z)]
    .simp only[Z,j7,ng,va,O];by_cases U:j=0
     .subst U;simp;omega
     .simp only[U,j7,ng];by_cases z:Nat.mod j 2=1
      .simp only[z,oV,sq];rw[af (by rintro rfl;exact Z z)]
      .simp only[z,j7,ng];rw[ih _ _ _ (by rw[hd,M];omega)];rw[Y]at Z z;rw[hd,hd,M,M];by_cases e:j=k
       .subst e;simp
       .rw[af ac,af e]
def T.get_set{J:Type}(t:T J)(k j:Nat)(v:Option J):(t.set k v).get j=if j=k then v else t.get j:=Sw v (k+1) t k j ac
def Bo:=@T.get_set
def Hp.get_set(h:Hp)(r j:Nat)(b:HB):(h.set r b).get j=if j=r then some b else h.get j:=Bo _ _ _ _
def a1:=@Hp.get_set
def hO(h:Hp)(r j:Nat):(h.aP r).get j=if j=r then none else h.get j:=Bo _ _ _ _
def aQ(h:Hp)(j:Nat)(b:HB):(h.alloc b).get j=if j=h.next then some b else h.get j:=Bo _ _ _ _
@[simp] theorem bE (h:Hp) (r:Nat) (b:HB):(h.set r b).next=h.next:=rfl
@[simp] theorem tG (h:Hp) (r:Nat):(h.aP r).next=h.next:=rfl
@[simp] theorem bj (h:Hp) (b:HB):(h.alloc b).next=h.next+1:=rfl
theorem wZ(E:aB)(d t:Nat)(v:AV):aB.at (T.set E d (some v)) t=if t=d then v else E.at t:=by
 unfold aB.at;rw[Bo];split<;>rfl
def TR.put{N:Nat}{G:Gh}{E Y:aB}{a:Act}(h:TR N G E a){U:Option Tmp}{c:AV}{v:Value}(O:VR G c v)(Z:fE N E U c=some Y):TR N G Y (a.put U v):=by
 cases U with
 |none=>simp[fE]at Z;subst Z;exact h
 |some d=>
  simp only[fE]at Z;split at Z
  .rename_i hd;simp only[aJ]at Z;subst Z;have V:d<N:=by simpa [j8]using hd
   refine⟨by simp[Act.put,h.size],fun t=>?_⟩;rw[wZ];simp only[Act.put];by_cases e:t=d
   .subst e;rw[ay rfl];simpa [Array.getD,h.size,V]using O
   .rw[af e];have:=h.bp t;simpa [jG,u7,Ne.symm e]using this
  .simp at Z
def oY(h:w.cell? ⟨b,o,none⟩=some v):b<w.heap.size:=World.block_lt_of_cell? w ⟨b,o,none⟩ h
def R.congr(h:R B H w G)(z:H'.next=H.next)(m:∀r,(G.β r).isSome->H'.get r=H.get r):R B H' w G:=by
 have k:∀r p,G.β r=some p->H'.get r=H.get r:=fun r p hr=>m r (by simp[hr]);exact{
  bw:=h.bw
  b3:=fun r p hr=>by rw[z];exact h.b3 r p hr
  lt:=h.lt
  cells:=fun r b o x Y imm L hr hc=>h.cells r b o x Y imm L hr lR
  au:=fun r b o x Y imm L hr hc=>h.au r b o x Y imm L hr lR
  ext:=fun r b o x Y imm L hr hc=>h.ext r b o x Y imm L hr lR
  bm:=fun r b o x Y imm L hr hc=>h.bm r b o x Y imm L hr lR
  bh:=fun r b o x Y imm L hr hc=>h.bh r b o x Y imm L hr lR
  apart:=fun r b o x Y imm L J I U O M Z V hr hc K C=>h.apart r b o x Y imm L J I U O M Z V hr lR K (by rw[<-k J _ K];exact C)
  map:=fun r b o x g hr hc=>h.map r b o x g hr lR
  aN:=fun r b o x g J I U O hr hc K j=>h.aN r b o x g J I U O hr lR K (by rw[<-k J _ K];exact j)
  b0:=h.b0
  val:=h.val
  cj:=h.cj}
def R.aP{B:Bs}{H:Hp}{w:World}{G:Gh}(h:R B H w G)(b9:Nat):R B (H.aP b9) w G:=by
 have k:∀j b,(H.aP b9).get j=some b->H.get j=some b:=fun j b m=>by
  rw[hO]at m;split at m
  .simp at m
  .exact m
 exact{
  bw:=h.bw
  b3:=h.b3
  lt:=h.lt
  cells:=fun r b o x Y imm L hr hc=>h.cells r b o x Y imm L hr (k _ _ hc)
  au:=fun r b o x Y imm L hr hc=>h.au r b o x Y imm L hr (k _ _ hc)
  ext:=fun r b o x Y imm L hr hc=>h.ext r b o x Y imm L hr (k _ _ hc)
  bm:=fun r b o x Y imm L hr hc=>h.bm r b o x Y imm L hr (k _ _ hc)
  bh:=fun r b o x Y imm L hr hc=>h.bh r b o x Y imm L hr (k _ _ hc)
  apart:=fun r b o x Y imm L J I U O M Z V hr hc K C=>h.apart r b o x Y imm L J I U O M Z V hr (k _ _ hc) K (k _ _ C)
  map:=fun r b o x g hr hc=>h.map r b o x g hr (k _ _ hc)
  aN:=fun r b o x g J I U O hr hc K z=>h.aN r b o x g J I U O hr (k _ _ hc) K (by
   cases i:(H.aP b9).get J with
   |none=>simp[i]at z
   |some b=>rw[k _ _ i];rfl)
  b0:=h.b0
  val:=h.val
  cj:=h.cj}
def Gh.add(G:Gh)(r:Nat)(p:Nat×Nat×Nat):Gh:={β:=fun k=>if k=r then some p else G.β k,F:=G.F,ρ:=G.ρ}
def sr(G:Gh)(r:Nat)(p:Nat×Nat×Nat):(G.add r p).β r=some p:=by simp[Gh.add]
def EE{p:Nat×Nat×Nat}(h:∀q,G.β r=some q->False):Ext G (G.add r p):=
 ⟨fun k q j=>by
  simp only[Gh.add];split
  .rename_i e;subst e;exact(h q j).elim
  .exact j,fun _ _ _ h=>h,rfl⟩
def jp.mono(e:Ext G V)(h:jp G w b o cs):jp V w b o cs:=
 fun j c m=>let ⟨v,i,g⟩:=h j c m;⟨v,i,g.mono e⟩
def sm.mono{g:qL}{ms:List MapEntry}(e:Ext G V)(h:sm G g ms):sm V g ms:=
 ⟨h.1,fun i a b j o=>⟨(h.2 i a b j o).1.mono e,(h.2 i a b j o).2.mono e⟩⟩
def Ja{nx b9:Nat}(h:R B X w G)(hno:∀q,G.β b9=some q->False)(hlt0:b9<X.next)(Z:X.get b9=some (.cells cs 0 true))(hnx:nx<=b9)
 (hv:cp G cs vs) (g:qE) (e:TypeId) :
 Step B nx G w X (w.alloc (.cells (vs++g).toArray e)) (G.add b9 (w.heap.size,0,vs.length+g.length)):=by
 have U:Ext G (G.add b9 (w.heap.size,0,vs.length+g.length)):=EE hno;have I:∀k C i,k<w.heap.size->C=k->(w.alloc (.cells (vs++g).toArray e)).cell? ⟨C,i,none⟩=w.cell? ⟨C,i,none⟩:=fun k C i hk hb=>World.cell?_alloc_lt _ _ _ (by simpa [hb]using hk);have hnew:∀j,(w.alloc (.cells (vs++g).toArray e)).cell? ⟨w.heap.size,j,none⟩=(vs++g)[j]?:=fun j=>by
  rw[World.cell?_alloc_new];simp
 have Y:∀r p,(G.add b9 (w.heap.size,0,vs.length+g.length)).β r=some p->(r=b9/\p=(w.heap.size,0,vs.length+g.length))\/(r≠b9/\G.β r=some p):=fun r p hr=>by
  simp only[Gh.add]at hr;split at hr
  .rename_i e;exact .inl ⟨e,by simpa using hr.symm⟩
  .rename_i e;exact .inr ⟨e,hr⟩
 refine⟨?_,U,⟨rfl,rfl,rfl,az,fun k hk _=>?_⟩,fun r b o x hr=>?_,fun r p hr=>(Y r p hr).elim (fun e=>.inr (by rw[e.1];exact hnx)) (fun e=>.inl e.2),ac,fun _ _ _ h=>.inl h⟩
 .exact{
   bw:=by have:=h.bw;simp;omega
   b3:=fun r p hr=>by
    rcases Y r p hr with⟨rfl,_⟩|⟨_,K⟩
    .exact hlt0
    .exact h.b3 r p K
   lt:=fun r b o x hr=>by
    rcases Y r _ hr with⟨rfl,hp⟩|⟨_,K⟩
    .simp only[gY]at hp;obtain⟨rfl,rfl,rfl⟩:=hp;exact⟨h.bw,az⟩
    .have:=h.lt r b o x K;exact⟨this.1,ca⟩
   cells:=fun r b o x V imm L hr hc=>by
    rcases Y r _ hr with⟨rfl,hp⟩|⟨J,K⟩
    .simp only[gY]at hp;obtain⟨rfl,rfl,rfl⟩:=hp;rw[Z]at hc;simp only[aJ,HB.cells.injEq]at hc;obtain⟨rfl,rfl,rfl⟩:=hc;intro j c m;have z:j<cs.length:=(eS.1 m).1;have hjv:j<vs.length:=by have:=hv.1;omega
     refine⟨vs[j],?_,(hv.2 j c _ m (a0 hjv)).mono U⟩;rw[bO,hnew,iw hjv,a0 hjv]
    .intro j c m;obtain⟨v,h1,h2⟩:=h.cells r b o x V imm L K hc j c m;exact⟨v,by rw[I _ _ _ (oY h1) rfl];exact h1,h2.mono U⟩
   au:=fun r b o x V imm L hr hc j m z=>by
    rcases Y r _ hr with⟨rfl,hp⟩|⟨J,K⟩
    .rw[Z]at hc;simp only[aJ,HB.cells.injEq]at hc;obtain⟨rfl,rfl,rfl⟩:=hc;omega
    .exact h.au r b o x V imm L K hc j m z
   ext:=fun r b o x V imm L hr hc=>by
    rcases Y r _ hr with⟨rfl,hp⟩|⟨J,K⟩
    .simp only[gY]at hp;obtain⟨rfl,rfl,rfl⟩:=hp;rw[Z]at hc;simp only[aJ,HB.cells.injEq]at hc;obtain⟨rfl,rfl,rfl⟩:=hc;have:=hv.1;simp only[eZ];omega
    .exact h.ext r b o x V imm L K hc
   bm:=fun r b o x V imm L hr hc=>by
    rcases Y r _ hr with⟨rfl,hp⟩|⟨J,K⟩
    .simp only[gY]at hp;obtain⟨rfl,rfl,rfl⟩:=hp;rw[Z]at hc;simp only[aJ,HB.cells.injEq]at hc;obtain⟨rfl,rfl,rfl⟩:=hc;have:=hv.1;omega
    .exact h.bm r b o x V imm L K hc
   bh:=fun r b o x V imm L hr hc j m z=>by
    rcases Y r _ hr with⟨rfl,hp⟩|⟨J,K⟩
    .simp only[gY]at hp;obtain⟨rfl,rfl,rfl⟩:=hp;rw[Z]at hc;simp only[aJ,HB.cells.injEq]at hc;obtain⟨rfl,rfl,rfl⟩:=hc;simp only[eZ]at z;refine⟨⟨(vs++g)[j]' ca,?_⟩,?_,?_⟩
     .rw[bO,hnew,a0]
     .simp
     .cases hf:G.F w.heap.size (0+j)with
      |none=>exact hf
      |some v=>have:=oY (h.b0 _ _ _ hf);omega
    .obtain⟨⟨v,h1⟩,h2,h3⟩:=h.bh r b o x V imm L K hc j m z;exact⟨⟨v,by rw[I _ _ _ (oY h1) rfl];exact h1⟩,by rw[World.frozen?_alloc_old _ _ _ (by have:=oY h1;simp;omega)];exact h2,h3⟩
   apart:=fun r b o x cs1 imm L r' C i x' cs2 imm' tip' hr hc K hc' J j j' m z hj' hjl' he=>by
    rcases Y r _ hr with⟨rfl,hp⟩|⟨hn1,O⟩
    .simp only[gY]at hp;obtain⟨rfl,rfl,rfl⟩:=hp;rcases Y r' _ K with⟨rfl,hp⟩|⟨hn2,M⟩
     .exact(J rfl).elim
     .have:=(h.lt r' C i x' M).2;omega
    .rcases Y r' _ K with⟨rfl,hp⟩|⟨hn2,M⟩
     .simp only[gY]at hp;obtain⟨rfl,rfl,rfl⟩:=hp;have:=(h.lt r b o x O).2;omega
     .exact h.apart r b o x cs1 imm L r' C i x' cs2 imm' tip' O hc M hc' J j j' m z hj' hjl' he
   map:=fun r b o x es hr hc=>by
    rcases Y r _ hr with⟨rfl,hp⟩|⟨J,K⟩
    .rw[Z]at hc;simp at hc
    .obtain⟨ms,clock,h1,h2⟩:=h.map r b o x es K hc;refine⟨ms,clock,?_,h2.mono U⟩;rw[Bl _ _ _ (h.lt r b o x K).2];exact h1
   aN:=fun r b o x es r' C i x' hr hc K hs J=>by
    rcases Y r _ hr with⟨rfl,hp⟩|⟨hn1,O⟩
    .rw[Z]at hc;simp at hc
    .rcases Y r' _ K with⟨rfl,hp⟩|⟨hn2,M⟩
     .simp only[gY]at hp;obtain⟨rfl,rfl,rfl⟩:=hp;have:=(h.lt r b o x O).2;omega
     .exact h.aN r b o x es r' C i x' O hc M hs J
   b0:=fun b o v hf=>by
    have:=h.b0 b o v hf;rw[I _ _ _ (oY this) rfl];exact this
   val:=h.val
   cj:=h.cj}
 .exact Bl _ _ _ hk
 .rcases Y r _ hr with⟨rfl,hp⟩|⟨_,K⟩
  .simp only[gY]at hp;obtain⟨rfl,rfl,rfl⟩:=hp;exact .inr (.inl (aO _))
  .exact .inl K
def Jb{nx b9:Nat}(h:R B X w G)(hno:∀q,G.β b9=some q->False)(hlt0:b9<X.next)(Z:X.get b9=some (.map []))(hnx:nx<=b9):
 Step B nx G w X (w.alloc (.map #[] 0)) (G.add b9 (w.heap.size,0,0)):=by
 have O:Ext G (G.add b9 (w.heap.size,0,0)):=EE hno;have M:∀k I C,k<w.heap.size->I=k->(w.alloc (.map #[] 0)).cell? ⟨I,C,none⟩=w.cell? ⟨I,C,none⟩:=fun k I C hk hb=>World.cell?_alloc_lt _ _ _ (by simpa [hb]using hk);have Y:∀r p,(G.add b9 (w.heap.size,0,0)).β r=some p->(r=b9/\p=(w.heap.size,0,0))\/(r≠b9/\G.β r=some p):=fun r p hr=>by
  simp only[Gh.add]at hr;split at hr
  .rename_i e;exact .inl ⟨e,by simpa using hr.symm⟩
  .rename_i e;exact .inr ⟨e,hr⟩
 refine⟨?_,O,⟨rfl,rfl,rfl,az,fun k hk _=>?_⟩,fun r b o x hr=>?_,fun r p hr=>(Y r p hr).elim (fun e=>.inr (by rw[e.1];exact hnx)) (fun e=>.inl e.2),ac,fun _ _ _ h=>.inl h⟩
 .exact{
   bw:=by have:=h.bw;simp;omega
   b3:=fun r p hr=>by
    rcases Y r p hr with⟨rfl,_⟩|⟨_,K⟩
    .exact hlt0
    .exact h.b3 r p K
   lt:=fun r b o x hr=>by
    rcases Y r _ hr with⟨rfl,hp⟩|⟨_,K⟩
    .simp only[gY]at hp;obtain⟨rfl,rfl,rfl⟩:=hp;exact⟨h.bw,az⟩
    .have:=h.lt r b o x K;exact⟨this.1,ca⟩
   cells:=fun r b o x V imm L hr hc=>by
    rcases Y r _ hr with⟨rfl,hp⟩|⟨J,K⟩
    .rw[Z]at hc;simp at hc
    .intro j c m;obtain⟨v,i,h2⟩:=h.cells r b o x V imm L K hc j c m;exact⟨v,by rw[M _ _ _ (oY i) rfl];exact i,h2.mono O⟩
   au:=fun r b o x V imm L hr hc j m z=>by
    rcases Y r _ hr with⟨rfl,hp⟩|⟨J,K⟩
    .rw[Z]at hc;simp at hc
    .exact h.au r b o x V imm L K hc j m z
   ext:=fun r b o x V imm L hr hc=>by
    rcases Y r _ hr with⟨rfl,hp⟩|⟨J,K⟩
    .rw[Z]at hc;simp at hc
    .exact h.ext r b o x V imm L K hc
   bm:=fun r b o x V imm L hr hc=>by
    rcases Y r _ hr with⟨rfl,hp⟩|⟨J,K⟩
    .rw[Z]at hc;simp at hc
    .exact h.bm r b o x V imm L K hc
   bh:=fun r b o x V imm L hr hc j m z=>by
    rcases Y r _ hr with⟨rfl,hp⟩|⟨J,K⟩
    .rw[Z]at hc;simp at hc
    .obtain⟨⟨v,i⟩,h2,h3⟩:=h.bh r b o x V imm L K hc j m z;exact⟨⟨v,by rw[M _ _ _ (oY i) rfl];exact i⟩,by rw[World.frozen?_alloc_old _ _ _ (by have:=oY i;simp;omega)];exact h2,h3⟩
   apart:=fun r b o x cs1 imm L r' I C x' cs2 imm' tip' hr hc K hc' J j j' m z hj' hjl' he=>by
    rcases Y r _ hr with⟨rfl,hp⟩|⟨hn1,g⟩
    .rw[Z]at hc;simp at hc
    .rcases Y r' _ K with⟨rfl,hp⟩|⟨hn2,U⟩
     .rw[Z]at hc';simp at hc'
     .exact h.apart r b o x cs1 imm L r' I C x' cs2 imm' tip' g hc U hc' J j j' m z hj' hjl' he
   map:=fun r b o x es hr hc=>by
    rcases Y r _ hr with⟨rfl,hp⟩|⟨J,K⟩
    .simp only[gY]at hp;obtain⟨rfl,rfl,rfl⟩:=hp;rw[Z]at hc;simp only[aJ,HB.map.injEq]at hc;subst hc;exact⟨#[],0,by show(w.heap.push _)[w.heap.size]?=_;simp,rfl,az⟩
    .obtain⟨ms,clock,i,h2⟩:=h.map r b o x es K hc;refine⟨ms,clock,?_,h2.mono O⟩;rw[Bl _ _ _ (h.lt r b o x K).2];exact i
   aN:=fun r b o x es r' I C x' hr hc K hs J=>by
    rcases Y r _ hr with⟨rfl,hp⟩|⟨hn1,g⟩
    .simp only[gY]at hp;obtain⟨rfl,rfl,rfl⟩:=hp;rcases Y r' _ K with⟨rfl,hp⟩|⟨hn2,U⟩
     .exact(J rfl).elim
     .have:=(h.lt r' I C x' U).2;omega
    .rcases Y r' _ K with⟨rfl,hp⟩|⟨hn2,U⟩
     .simp only[gY]at hp;obtain⟨rfl,rfl,rfl⟩:=hp;have:=(h.lt r b o x g).2;omega
     .exact h.aN r b o x es r' I C x' g hc U hs J
   b0:=fun b o v hf=>by
    have:=h.b0 b o v hf;rw[M _ _ _ (oY this) rfl];exact this
   val:=h.val
   cj:=h.cj}
 .exact Bl _ _ _ hk
 .rcases Y r _ hr with⟨rfl,hp⟩|⟨_,K⟩
  .simp only[gY]at hp;obtain⟨rfl,rfl,rfl⟩:=hp;exact .inr (.inl (aO _))
  .exact .inl K
def R.more(h:R B H w G)(z:H.next<=X.next)(m:∀r,r<H.next->X.get r=H.get r):R B X w G:=by
 have k:∀r p,G.β r=some p->X.get r=H.get r:=fun r p hr=>m r (h.b3 r p hr);exact{
  bw:=h.bw
  b3:=fun r p hr=>mZ (h.b3 r p hr) z
  lt:=h.lt
  cells:=fun r b o x Y imm L hr hc=>h.cells r b o x Y imm L hr lR
  au:=fun r b o x Y imm L hr hc=>h.au r b o x Y imm L hr lR
  ext:=fun r b o x Y imm L hr hc=>h.ext r b o x Y imm L hr lR
  bm:=fun r b o x Y imm L hr hc=>h.bm r b o x Y imm L hr lR
  bh:=fun r b o x Y imm L hr hc=>h.bh r b o x Y imm L hr lR
  apart:=fun r b o x Y imm L J I U O M Z V hr hc K C=>h.apart r b o x Y imm L J I U O M Z V hr lR K (by rw[<-k J _ K];exact C)
  map:=fun r b o x g hr hc=>h.map r b o x g hr lR
  aN:=fun r b o x g J I U O hr hc K j=>h.aN r b o x g J I U O hr lR K (by rw[<-k J _ K];exact j)
  b0:=h.b0
  val:=h.val
  cj:=h.cj}
def R.alloc(h:R B H w G)(i:HB):R B (H.alloc i) w G:=
 h.more (dH _) (fun r hr=>eG)
def Bp(h:R B H w G)(V:cp G cs vs)(g:qE)(e:TypeId):
 Step B H.next G w (H.alloc (.cells cs 0 true)) (w.alloc (.cells (vs++g).toArray e)) (G.add H.next (w.heap.size,0,vs.length+g.length)):=
 Ja (h.alloc _) (fun q K=>Et) az gD (aO _) V g e
def Sy(h:R B H w G):
 Step B H.next G w (H.alloc (.map [])) (w.alloc (.map #[] 0)) (G.add H.next (w.heap.size,0,0)):=
 Jb (h.alloc _) (fun q K=>Et) az gD (aO _)
inductive zf5 (G:Gh):HB->Obj->Nat->Prop
 |cells (cs:qs) (vs spare:qE) (e:TypeId) (hv:cp G cs vs):zf5 G (.cells cs 0 true) (.cells (vs++spare).toArray e) (vs.length+spare.length)
 |map:zf5 G (.map []) (.map #[] 0) 0
def Jc{U b9:Nat}{i:HB}{J:Obj}{ext:Nat}(h:R B X w G)(Z:∀q,G.β b9=some q->False)(Y:b9<X.next)(O:X.get b9=some i)(V:U<=b9)(M:zf5 G i J ext):
 Step B U G w X (w.alloc J) (G.add b9 (w.heap.size,0,ext)):=by
 cases M with
 |cells K vs g e L=>exact Ja h Z Y O V L g e
 |map=>exact Jb h Z Y O V
def pL(P:Program)(G:Gh)(w:World){Z:Type}(s:Sem Z)(f:Value->Z)(c:AV)(H H':Hp):Prop:=
 ∃i J ext v,H'=H.alloc i/\s.run P w=.ok (f v) (w.alloc J)/\zf5 G i J ext/\∀V:Gh,V.β H.next=some (w.heap.size,0,ext)->VR V c v
def pL.sim(h:R B H w G)(O:pL P G w s id c H H'):∃v J V,s.run P w=.ok v J/\VR V c v/\Step B H.next G w H' J V:=by
 obtain⟨i,Z,ext,v,rfl,Y,g,m⟩:=O;exact⟨v,_,_,Y,m _ (sr _ _ _),Jc (h.alloc _) (fun q K=>Et) az gD (aO _) g⟩
def pL.next(O:pL P G w s id c H H'):pL P G w (do pure (.value (<-s)):Sem Next) Next.value c H H':=by
 obtain⟨i,J,ext,v,Z,Y,g,m⟩:=O;exact⟨i,J,ext,v,Z,by simp[Y],g,m⟩
def Sz{I U:Nat}(h:b=I->o≠U):(⟨b,o,none⟩:Addr)≠⟨I,U,none⟩:=fun e=>by
 simp only[Addr.mk.injEq]at e;exact h e.1 e.2.1
theorem SA(h:R B H w G){x:Nat}{cs':qs}{imm:Nat}{tip:Bool}(hr:G.β r=some (b,o,x))(hc:H.get r=some (.cells cs imm tip))
  (hj:imm<=j) (hjl:j<eZ x cs tip) 
 (hcs:∀(i:Nat) c,cs'[i]?=some c->(i=j/\VR G c v)\/(i≠j/\cs[i]?=some c)) (hl:cs'.length<=eZ x cs tip) (hl':tip=false->cs'.length=cs.length) :
 Step B H.next G w (H.set r (.cells cs' imm tip)) (w.setCell ⟨b,o+j,none⟩ v) G:=by
 obtain⟨⟨u,hu⟩,hfz,hF⟩:=h.bh r b o x cs imm tip hr hc j hj hjl;have hsame:(w.setCell ⟨b,o+j,none⟩ v).cell? ⟨b,o+j,none⟩=some v:=World.cell?_setCell_same _ _ _ hu;have V:∀b' o',(b'=b->o'≠o+j)->(w.setCell ⟨b,o+j,none⟩ v).cell? ⟨b',o',none⟩=w.cell? ⟨b',o',none⟩:=fun b' o' hne=>
  World.cell?_setCell_other _ _ _ _ (Sz fun e e'=>hne e.symm e'.symm)
 have z:eZ x cs' tip=eZ x cs tip:=by
  cases tip with
  |true=>rfl
  |false=>exact hl' rfl
 have U:∀k,k≠r->(H.set r (.cells cs' imm tip)).get k=H.get k:=fun k hk=>by rw[a1,af hk]
 have M:(H.set r (.cells cs' imm tip)).get r=some (.cells cs' imm tip):=gL;have hkeep:∀b' o' v',G.F b' o'=some v'->(b'=b->o'≠o+j):=fun b' o' v' hf e e'=>by subst e;subst e';rw[hF]at hf;simp at hf
 have hcell:∀b' o',(∃v',w.cell? ⟨b',o',none⟩=some v')->∃v',(w.setCell ⟨b,o+j,none⟩ v).cell? ⟨b',o',none⟩=some v':=fun b' o' ⟨v',hv'⟩=>by
  by_cases e:b'=b/\o'=o+j
  .obtain⟨rfl,rfl⟩:=e;exact⟨v,hsame⟩
  .exact⟨v',by rw[V b' o' (fun e1 e2=>e ⟨e1,e2⟩)];exact hv'⟩
 refine⟨?_,wY _,⟨rfl,rfl,rfl,az,fun k hk hn=>?_⟩,u9 _ _,fun _ _ h=>.inl h,aO _,fun _ _ _ h=>.inl h⟩
 .exact{
   bw:=by have:=h.bw;simpa using this
   b3:=h.b3
   lt:=fun r b o x hr=>by have:=h.lt r b o x hr;simpa using this
   cells:=fun aK m O J L Z Y g K=>by
    by_cases e:aK=r
    .subst e;rw[hr]at g;simp only[cO]at g;obtain⟨rfl,rfl,rfl⟩:=g;rw[M]at K;simp only[aJ,HB.cells.injEq]at K;obtain⟨rfl,rfl,rfl⟩:=K;intro i c hi;rcases hcs i c hi with⟨rfl,hv⟩|⟨hne,hi'⟩
     .exact⟨v,hsame,hv⟩
     .obtain⟨v',h1,h2⟩:=h.cells aK b o x cs imm tip hr hc i c hi';exact⟨v',by rw[V _ _ (fun _=>ac)];exact h1,h2⟩
    .rw[U aK e]at K;intro i c hi;obtain⟨v',h1,h2⟩:=h.cells aK m O J L Z Y g K i c hi;refine⟨v',?_,h2⟩;rw[V]
     .exact h1
     .have I:i<L.length:=(eS.1 hi).1;have hex:=h.ext aK m O J L Z Y g K;by_cases hi1:Z<=i
      .exact h.apart aK m O J L Z Y r b o x cs imm tip g K hr hc e i j hi1 ac hj hjl
      .obtain⟨u',hu'⟩:=h.au aK m O J L Z Y g K i ac I;exact hkeep _ _ _ hu'
   au:=fun aK m O J L Z Y g K i hi I=>by
    by_cases e:aK=r
    .subst e;rw[hr]at g;simp only[cO]at g;obtain⟨rfl,rfl,rfl⟩:=g;rw[M]at K;simp only[aJ,HB.cells.injEq]at K;obtain⟨rfl,rfl,rfl⟩:=K;rcases hcs i _ (a0 I)with⟨rfl,_⟩|⟨_,hi'⟩
     .omega
     .exact h.au aK b o x cs imm tip hr hc i hi (eS.1 hi').1
    .rw[U aK e]at K;exact h.au aK m O J L Z Y g K i hi I
   ext:=fun aK m O J L Z Y g K=>by
    by_cases e:aK=r
    .subst e;rw[hr]at g;simp only[cO]at g;obtain⟨rfl,rfl,rfl⟩:=g;rw[M]at K;simp only[aJ,HB.cells.injEq]at K;obtain⟨rfl,rfl,rfl⟩:=K;rw[z];exact hl
    .rw[U aK e]at K;exact h.ext aK m O J L Z Y g K
   bm:=fun aK m O J L Z Y g K=>by
    by_cases e:aK=r
    .subst e;rw[hr]at g;simp only[cO]at g;obtain⟨rfl,rfl,rfl⟩:=g;rw[M]at K;simp only[aJ,HB.cells.injEq]at K;obtain⟨rfl,rfl,rfl⟩:=K;rcases Bool.eq_false_or_eq_true tip with e1|e1
     .subst e1;exact hl
     .rw[hl' e1];exact h.bm _ _ _ _ _ _ _ hr hc
    .rw[U aK e]at K;exact h.bm aK m O J L Z Y g K
   bh:=fun aK m O J L Z Y g K i hi I=>by
    by_cases e:aK=r
    .subst e;rw[hr]at g;simp only[cO]at g;obtain⟨rfl,rfl,rfl⟩:=g;rw[M]at K;simp only[aJ,HB.cells.injEq]at K;obtain⟨rfl,rfl,rfl⟩:=K;rw[z]at I;obtain⟨h1,h2,h3⟩:=h.bh aK b o x cs imm tip hr hc i hi I;exact⟨hcell _ _ h1,by rw[World.frozen?_setCell];exact h2,h3⟩
    .rw[U aK e]at K;obtain⟨h1,h2,h3⟩:=h.bh aK m O J L Z Y g K i hi I;exact⟨hcell _ _ h1,by rw[World.frozen?_setCell];exact h2,h3⟩
   apart:=fun aK m O J L Z Y bB b2 o2 x2 cs2 imm2 tip2 g K hr2 hc2 hne i i' hi I hi' hil'=>by
    have key:∀k bk ok xk csk immk C,G.β k=some (bk,ok,xk)->(H.set r (.cells cs' imm tip)).get k=some (.cells csk immk C) ->
     ∃cs0,H.get k=some (.cells cs0 immk C)/\eZ xk cs0 C=eZ xk csk C:=fun k bk ok xk csk immk C hk hck=>by
     by_cases e:k=r
     .subst e;rw[hr]at hk;simp only[cO]at hk;obtain⟨rfl,rfl,rfl⟩:=hk;rw[M]at hck;simp only[aJ,HB.cells.injEq]at hck;obtain⟨rfl,rfl,rfl⟩:=hck;exact⟨cs,hc,z.symm⟩
     .rw[U k e]at hck;exact⟨csk,hck,rfl⟩
    obtain⟨c1,g1,e1⟩:=key aK m O J L Z Y g K;obtain⟨c2,g2,e2⟩:=key bB b2 o2 x2 cs2 imm2 tip2 hr2 hc2;exact h.apart aK m O J c1 Z Y bB b2 o2 x2 c2 imm2 tip2 g g1 hr2 g2 hne i i' hi ac hi' ac
   map:=fun aK m O J es g K=>by
    by_cases e:aK=r
    .subst e;rw[M]at K;simp at K
    .rw[U aK e]at K;obtain⟨ms,clock,h1,h2⟩:=h.map aK m O J es g K;refine⟨ms,clock,?_,h2⟩;have hb:m≠b:=fun eb=>by
      subst eb;unfold World.cell? at hu;rw[h1]at hu;simp at hu
     rw[Below.heap_setCell _ _ _ _ hb];exact h1
   aN:=fun aK m O J es bB b2 o2 x2 g K hr2 hs hne=>by
    by_cases e:aK=r
    .subst e;rw[M]at K;simp at K
    .rw[U aK e]at K;refine h.aN aK m O J es bB b2 o2 x2 g K hr2 ?_ hne;by_cases e2:bB=r
     .subst e2;rw[hc];rfl
     .rw[U bB e2]at hs;exact hs
   b0:=fun b' o' v' hf=>by rw[V _ _ (hkeep _ _ _ hf)];exact h.b0 _ _ _ hf
   val:=h.val
   cj:=h.cj}
 .exact Below.heap_setCell _ _ _ _ (fun e=>hn r b o x hr e.symm)
def SB(P:Program)(h:R B H w G){x:Nat}{imm:Nat}{tip:Bool}(hr:G.β r=some (b,o,x))(Z:H.get r=some (.cells cs imm tip))
  (m:imm<=j) (z:j<eZ x cs tip)  (V:v.oneCell'=true) :
 (store ⟨b,o+j,none⟩ v).run P w=.ok () (w.setCell ⟨b,o+j,none⟩ v):=by
 obtain⟨⟨u,Y⟩,C,_⟩:=h.bh r b o x cs imm tip hr Z j m z;rw[run_store P w _ v _ V,Y];simp[C]
def SD(cs:qs)(off:Nat)(c:AV)(I:qs)(h:off<=cs.length):splice cs off (c::I)=splice (splice cs off [c]) (off+1) I:=by
 unfold splice;have i:(List.take off cs++[c]++List.drop (off+[c].length) cs).take (off+1)=List.take off cs++[c]:=by
  rw[Bm ca,gZ ca]
 have g:(List.take off cs++[c]++List.drop (off+[c].length) cs).drop (off+1+I.length)=List.drop (off+(I.length+1)) cs:=by
  rw[List.drop_append,Ey ca];simp only[fg,lS,mC,Ez,pJ]
  congr 1
  omega
 rw[i,g];simp
def SE(cs:qs)(off:Nat):splice cs off []=cs:=by simp[splice]
def SF(cs:qs)(off:Nat)(I:qs)(h:off+I.length<=cs.length):(splice cs off I).length=cs.length:=by simp[splice];omega
def SG(cs:qs)(off:Nat)(I:qs)(h:off<=cs.length):(splice cs off I).length=max cs.length (off+I.length):=by simp[splice];omega
def Jd(cs I:qs):splice cs cs.length I=cs++I:=by simp[splice]
def splice_one(c:AV)(m:j<=cs.length){d:AV}(h:(splice cs j [c])[i]?=some d):(i=j/\d=c)\/(i≠j/\cs[i]?=some d):=by
 unfold splice at h;by_cases z:i<j
 .rw[lT,iw ca,rx,ay z]at h;exact .inr ⟨ac,h⟩
 .by_cases e:i=j
  .subst e;rw[lT,kN ca]at h;have Y:i-(List.take i cs).length=0:=ca;rw[Y]at h;simp at h;exact .inl ⟨rfl,h.symm⟩
  .rw[kN ca]at h;rw[tE]at h;refine .inr ⟨e,?_⟩;rw[<-h]
   congr 1
   simp;omega
def oc(b o i:Nat):(⟨b,o,none⟩:Addr).add i=⟨b,o+i,none⟩:=by
 unfold Addr.add;split
 .rename_i e;subst e;rfl
 .rfl
def Step.congr{Z:Nat}(h:Step B Z G w H w' V)(C:H'.next=H.next)(J:∀r,(V.β r).isSome->H'.get r=H.get r):Step B Z G w H' w' V:=
 ⟨h.r.congr C J,h.ext,h.fr,h.new,h.bP,by rw[C];exact h.mono,h.b4⟩
theorem EF(P:Program){x:Nat}{imm:Nat}{tip:Bool}(hr:G.β r=some (b,o,x))(off:Nat):∀(I:qs) (vs:qE) (Y:qs) (i:Nat) (H:Hp) (w:World),R B H w G ->
 H.get r=some (.cells Y imm tip)->cp G I vs->(∀v∈vs,v.oneCell'=true)->imm<=off+i->off+i<=Y.length->off+i+I.length<=eZ x Y tip->(tip=false->off+i+I.length<=Y.length) ->
 ∃m,(storeCells ⟨b,o+off,none⟩ vs i).run P w=.ok () m/\Step B H.next G w (H.set r (.cells (splice Y (off+i) I) imm tip)) m G:=by
 intro I;induction I with
 |nil=>
  intro vs Y i H w L hc g V hi C M _;have O:vs=[]:=by have:=g.1;simpa using this.symm
  subst O;refine⟨w,rfl,(j9 L).congr rfl fun k _=>?_⟩;rw[a1,SE];split
  .rename_i e;subst e;rw[hc]
  .rfl
 |cons c I ih=>
  intro vs Y i H w L hc g V hi C M z;cases vs with
  |nil=>have:=g.1;simp at this
  |cons v vs=>
   obtain⟨hv1,O⟩:=g.aX;simp only[eT]at M z;have Z:(splice Y (off+i) [c]).length=max Y.length (off+i+1):=SG _ _ _ C;have hext:=L.ext r b o x Y imm tip hr hc;have K:=SA L hr hc (j:=off+i) (cs':=splice Y (off+i) [c]) (v:=v) hi ac
    (fun k d hk=>by
      rcases splice_one c C hk with⟨e1,e2⟩|h2
      .subst e2;exact .inl ⟨e1,hv1⟩
      .exact .inr h2)
    (by rw[Z];cases tip with
        |true=>simp only[eZ]at *;omega
        |false=>have:=z rfl;simp only[eZ]at *;omega)
    (fun ht=>by have:=z ht;rw[Z];omega)
   have J:=SB P L hr hc (j:=off+i) hi ac (v:=v) (V v az);have hg1:(H.set r (.cells (splice Y (off+i) [c]) imm tip)).get r=some (.cells (splice Y (off+i) [c]) imm tip):=gL;have U:eZ x (splice Y (off+i) [c]) tip=eZ x Y tip:=by
    cases tip with
    |true=>rfl
    |false=>have:=z rfl;simp only[eZ];omega
   obtain⟨m,hw',hs'⟩:=ih vs (splice Y (off+i) [c]) (i+1) _ _ K.r hg1 O (fun u hu=>V u (by simp[hu])) ac (by rw[Z];omega) (by rw[U];omega) (fun ht=>by have:=z ht;rw[Z];omega);refine⟨m,?_,(K.trans hs').congr rfl fun k _=>?_⟩
   .simp only[storeCells,fh];rw[oc,kO,J];exact hw'
   .rw[a1,a1,a1,SD _ _ _ _ C];split
    .rfl
    .rfl
def Je(h:R B H w G){x:Nat}{imm:Nat}(hr:G.β r=some (b,o,x))(hc:H.get r=some (.cells cs imm true)){off:Nat}(hoff:off<=cs.length):
 Step B H.next G w ((H.aP r).alloc (.cells (cs.drop off) (imm-off) true)) w (G.add H.next (b,o+off,x-off)):=by
 have hno:∀q,G.β H.next=some q->False:=fun q hq=>by have:=h.b3 _ _ hq;omega
 have hext:Ext G (G.add H.next (b,o+off,x-off)):=EE hno;have hrn:r≠H.next:=fun e=>by subst e;exact hno _ hr
 have K:∀k p,(G.add H.next (b,o+off,x-off)).β k=some p->(k=H.next/\p=(b,o+off,x-off))\/(k≠H.next/\G.β k=some p):=fun k p M=>by
  simp only[Gh.add]at M;split at M
  .rename_i e;exact .inl ⟨e,by simpa using M.symm⟩
  .rename_i e;exact .inr ⟨e,M⟩
 have U:∀k q,k≠H.next->((H.aP r).alloc (.cells (cs.drop off) (imm-off) true)).get k=some q->k≠r/\H.get k=some q:=fun k q M hq=>by
  rw[aQ,tG,af M,hO]at hq;split at hq
  .simp at hq
  .rename_i e;exact⟨e,hq⟩
 have Z:((H.aP r).alloc (.cells (cs.drop off) (imm-off) true)).get H.next=some (.cells (cs.drop off) (imm-off) true):=by rw[aQ,tG,ay rfl]
 have hlen:=h.ext r b o x cs imm true hr hc;simp only[eZ]at hlen;refine⟨?_,hext,yy _ _,fun k b' o' x' M=>?_,fun k p M=>(K k p M).elim (fun e=>.inr (by rw[e.1];exact aO _)) (fun e=>.inl e.2),az,fun _ _ _ h=>.inl h⟩
 .exact{
   bw:=h.bw
   b3:=fun k p M=>by
    rcases K k p M with⟨rfl,_⟩|⟨_,V⟩
    .simp
    .have:=h.b3 k p V;simp;omega
   lt:=fun k b' o' x' M=>by
    rcases K k _ M with⟨rfl,hp⟩|⟨_,V⟩
    .simp only[gY]at hp;obtain⟨rfl,rfl,rfl⟩:=hp;exact h.lt r _ _ _ hr
    .exact h.lt k b' o' x' V
   cells:=fun k b' o' x' C Y O M L=>by
    rcases K k _ M with⟨rfl,hp⟩|⟨J,V⟩
    .simp only[gY]at hp;obtain⟨rfl,rfl,rfl⟩:=hp;rw[Z]at L;simp only[aJ,HB.cells.injEq]at L;obtain⟨rfl,rfl,rfl⟩:=L;intro j c hj;rw[tE]at hj;obtain⟨v,h1,h2⟩:=h.cells r _ _ _ _ _ _ hr hc (off+j) c hj;exact⟨v,by rw[kO];exact h1,h2.mono hext⟩
    .obtain⟨_,I⟩:=U k _ J L;exact(h.cells k b' o' x' C Y O V I).mono hext
   au:=fun k b' o' x' C Y O M L j hj hjl=>by
    rcases K k _ M with⟨rfl,hp⟩|⟨J,V⟩
    .simp only[gY]at hp;obtain⟨rfl,rfl,rfl⟩:=hp;rw[Z]at L;simp only[aJ,HB.cells.injEq]at L;obtain⟨rfl,rfl,rfl⟩:=L;rw[kQ]at hjl;rw[kO];exact h.au r _ _ _ _ _ _ hr hc (off+j) ac ac
    .obtain⟨_,I⟩:=U k _ J L;exact h.au k b' o' x' C Y O V I j hj hjl
   ext:=fun k b' o' x' C Y O M L=>by
    rcases K k _ M with⟨rfl,hp⟩|⟨J,V⟩
    .simp only[gY]at hp;obtain⟨rfl,rfl,rfl⟩:=hp;rw[Z]at L;simp only[aJ,HB.cells.injEq]at L;obtain⟨rfl,rfl,rfl⟩:=L;simp only[eZ,kQ];omega
    .obtain⟨_,I⟩:=U k _ J L;exact h.ext k b' o' x' C Y O V I
   bm:=fun k b' o' x' C Y O M L=>by
    rcases K k _ M with⟨rfl,hp⟩|⟨J,V⟩
    .simp only[gY]at hp;obtain⟨rfl,rfl,rfl⟩:=hp;rw[Z]at L;simp only[aJ,HB.cells.injEq]at L;obtain⟨rfl,rfl,rfl⟩:=L;simp only[kQ];omega
    .obtain⟨_,I⟩:=U k _ J L;exact h.bm k b' o' x' C Y O V I
   bh:=fun k b' o' x' C Y O M L j hj hjl=>by
    rcases K k _ M with⟨rfl,hp⟩|⟨J,V⟩
    .simp only[gY]at hp;obtain⟨rfl,rfl,rfl⟩:=hp;rw[Z]at L;simp only[aJ,HB.cells.injEq]at L;obtain⟨rfl,rfl,rfl⟩:=L;simp only[eZ]at hjl;rw[kO];exact h.bh r _ _ _ _ _ _ hr hc (off+j) ac yr
    .obtain⟨_,I⟩:=U k _ J L;exact h.bh k b' o' x' C Y O V I j hj hjl
   apart:=fun k1 b1 o1 x1 cs1 imm1 tip1 k2 b2 o2 x2 cs2 imm2 tip2 hk1 z hk2 hc2 J j1 j2 hj1 hl1 hj2 hl2 he=>by
    rcases K k1 _ hk1 with⟨rfl,hp⟩|⟨hn1,i⟩
    .simp only[gY]at hp;obtain⟨rfl,rfl,rfl⟩:=hp;rw[Z]at z;simp only[aJ,HB.cells.injEq]at z;obtain⟨rfl,rfl,rfl⟩:=z;simp only[eZ]at hl1;rcases K k2 _ hk2 with⟨rfl,hp⟩|⟨hn2,g⟩
     .exact(J rfl).elim
     .obtain⟨hr2,hc2'⟩:=U k2 _ hn2 hc2;rw[kO];exact h.apart r _ _ _ _ _ _ k2 b2 o2 x2 cs2 imm2 tip2 hr hc g hc2' (Ne.symm hr2) (off+j1) j2 ac yr hj2 hl2 he
    .obtain⟨hr1,m⟩:=U k1 _ hn1 z;rcases K k2 _ hk2 with⟨rfl,hp⟩|⟨hn2,g⟩
     .simp only[gY]at hp;obtain⟨rfl,rfl,rfl⟩:=hp;rw[Z]at hc2;simp only[aJ,HB.cells.injEq]at hc2;obtain⟨rfl,rfl,rfl⟩:=hc2;simp only[eZ]at hl2;rw[kO];exact h.apart k1 b1 o1 x1 cs1 imm1 tip1 r _ _ _ _ _ _ i m hr hc hr1 j1 (off+j2) hj1 hl1 ac yr he
     .obtain⟨hr2,hc2'⟩:=U k2 _ hn2 hc2;exact h.apart k1 b1 o1 x1 cs1 imm1 tip1 k2 b2 o2 x2 cs2 imm2 tip2 i m g hc2' J j1 j2 hj1 hl1 hj2 hl2 he
   map:=fun k b' o' x' es M L=>by
    rcases K k _ M with⟨rfl,hp⟩|⟨J,V⟩
    .rw[Z]at L;simp at L
    .obtain⟨_,I⟩:=U k _ J L;obtain⟨ms,clock,h1,h2⟩:=h.map k b' o' x' es V I;exact⟨ms,clock,h1,h2.mono hext⟩
   aN:=fun k1 b1 o1 x1 es k2 b2 o2 x2 hk1 z hk2 hs J=>by
    rcases K k1 _ hk1 with⟨rfl,hp⟩|⟨hn1,i⟩
    .rw[Z]at z;simp at z
    .obtain⟨hr1,m⟩:=U k1 _ hn1 z;rcases K k2 _ hk2 with⟨rfl,hp⟩|⟨hn2,g⟩
     .simp only[gY]at hp;obtain⟨rfl,rfl,rfl⟩:=hp;exact h.aN k1 b1 o1 x1 es r _ _ _ i m hr (by rw[hc];rfl) hr1
     .cases hh:((H.aP r).alloc (.cells (cs.drop off) (imm-off) true)).get k2 with
      |none=>simp[hh]at hs
      |some q=>
       obtain⟨_,hq⟩:=U k2 q hn2 hh;exact h.aN k1 b1 o1 x1 es k2 b2 o2 x2 i m g (by rw[hq];rfl) J
   b0:=h.b0
   val:=h.val
   cj:=h.cj}
 .rcases K k _ M with⟨rfl,hp⟩|⟨_,V⟩
  .simp only[gY]at hp;obtain⟨rfl,rfl,rfl⟩:=hp;exact .inr (.inr ⟨r,o,x,hr⟩)
  .exact .inl V
def Gh.aD(G:Gh)(w:World)(b o n:Nat):Gh:={β:=G.β,F:=fun I U=>match G.F I U with
 |some v=>some v
 |none=>if I=b/\o<=U/\U<o+n then w.cell? ⟨I,U,none⟩else none,ρ:=G.ρ}
def SH(G:Gh)(w:World)(b o n:Nat):Ext G (G.aD w b o n):=⟨fun _ _ h=>h,fun I U v h=>by simp[Gh.aD,h],rfl⟩
def yB(h:R B H w G){x:Nat}{imm:Nat}{tip:Bool}(hr:G.β r=some (b,o,x))(hc:H.get r=some (.cells cs imm tip)){n:Nat}(himm:imm<=n)(hn:n<=cs.length)(O:Bool)(ht:O=true->tip=true):
 Step B H.next G w (H.set r (.cells cs n O)) w (G.aD w b o n):=by
 have i:Ext G (G.aD w b o n):=SH _ _ _ _ _;have K:∀k,k≠r->(H.set r (.cells cs n O)).get k=H.get k:=fun k J=>by rw[a1,af J]
 have M:(H.set r (.cells cs n O)).get r=some (.cells cs n O):=gL;have hex:=h.ext r b o x cs imm tip hr hc;have hreach:∀j,n<=j->j<eZ x cs O->j<eZ x cs tip:=fun j hj z=>by
  cases O with
  |true=>rw[ht rfl];exact z
  |false=>simp only[eZ]at z;omega
 have hF:∀I U v,(G.aD w b o n).F I U=some v->w.cell? ⟨I,U,none⟩=some v:=fun I U v hf=>by
  simp only[Gh.aD]at hf;split at hf
  .rename_i u hu;simp only[aJ]at hf;subst hf;exact h.b0 _ _ _ hu
  .split at hf
   .exact hf
   .simp at hf
 have hFin:∀j,j<n->∃v,(G.aD w b o n).F b (o+j)=some v:=fun j hj=>by
  obtain⟨v,h1,_⟩:=h.cells r b o x cs imm tip hr hc j _ (a0 ac);simp only[Gh.aD];split
  .rename_i u _;exact⟨u,rfl⟩
  .rw[ay ⟨by trivial,ac,ac⟩];exact⟨v,h1⟩
 have hFout:∀I U,G.F I U=none->(I=b->U<o\/o+n<=U)->(G.aD w b o n).F I U=none:=fun I U hf hne=>by
  simp only[Gh.aD,hf];rw[af];rintro⟨e1,e2,e3⟩;have:=hne e1;omega
 refine⟨?_,i,yy _ _,u9 _ _,fun _ _ h=>.inl h,aO _,fun I U v' hv=>?_⟩;rotate_left
 .simp only[Gh.aD]at hv;split at hv
  .rename_i v'' hF';exact .inl (by rw[hF'];exact hv)
  .split at hv
   .rename_i hc';exact .inr (by rw[hc'.1];exact(h.lt r b o x hr).1)
   .simp at hv
 exact{
  bw:=h.bw
  b3:=h.b3
  lt:=h.lt
  cells:=fun k I U m C Y Z J L=>by
   by_cases e:k=r
   .subst e;have V:G.β k=some (I,U,m):=J;rw[hr]at V;simp only[cO]at V;obtain⟨rfl,rfl,rfl⟩:=V;rw[M]at L;simp only[aJ,HB.cells.injEq]at L;obtain⟨rfl,rfl,rfl⟩:=L;exact(h.cells k _ _ _ _ _ _ hr hc).mono i
   .rw[K k e]at L;exact(h.cells k I U m C Y Z J L).mono i
  au:=fun k I U m C Y Z J L j hj z=>by
   by_cases e:k=r
   .subst e;have V:G.β k=some (I,U,m):=J;rw[hr]at V;simp only[cO]at V;obtain⟨rfl,rfl,rfl⟩:=V;rw[M]at L;simp only[aJ,HB.cells.injEq]at L;obtain⟨rfl,rfl,rfl⟩:=L;exact hFin j hj
   .rw[K k e]at L;obtain⟨v,hv⟩:=h.au k I U m C Y Z J L j hj z;exact⟨v,i.F _ _ _ hv⟩
  ext:=fun k I U m C Y Z J L=>by
   by_cases e:k=r
   .subst e;have V:G.β k=some (I,U,m):=J;rw[hr]at V;simp only[cO]at V;obtain⟨rfl,rfl,rfl⟩:=V;rw[M]at L;simp only[aJ,HB.cells.injEq]at L;obtain⟨rfl,rfl,rfl⟩:=L;cases O with
    |true=>rw[ht rfl]at hex;exact hex
    |false=>exact aO _
   .rw[K k e]at L;exact h.ext k I U m C Y Z J L
  bm:=fun k I U m C Y Z J L=>by
   by_cases e:k=r
   .subst e;have V:G.β k=some (I,U,m):=J;rw[hr]at V;simp only[cO]at V;obtain⟨rfl,rfl,rfl⟩:=V;rw[M]at L;simp only[aJ,HB.cells.injEq]at L;obtain⟨rfl,rfl,rfl⟩:=L;exact h.bm _ _ _ _ _ _ _ hr hc
   .rw[K k e]at L;exact h.bm k I U m C Y Z J L
  bh:=fun k I U m C Y Z J L j hj z=>by
   by_cases e:k=r
   .subst e;have V:G.β k=some (I,U,m):=J;rw[hr]at V;simp only[cO]at V;obtain⟨rfl,rfl,rfl⟩:=V;rw[M]at L;simp only[aJ,HB.cells.injEq]at L;obtain⟨rfl,rfl,rfl⟩:=L;have h1:=hreach j hj z;obtain⟨g1,g2,g3⟩:=h.bh k _ _ _ _ _ _ hr hc j ac h1;exact⟨g1,g2,hFout _ _ g3 (fun _=>ac)⟩
   .rw[K k e]at L;obtain⟨g1,g2,g3⟩:=h.bh k I U m C Y Z J L j hj z;refine⟨g1,g2,hFout _ _ g3 (fun eb=>?_)⟩;by_cases hin:o<=U+j/\U+j<o+n
    .exfalso;have hj0:U+j-o<cs.length:=ac;have hj1:U+j-o<eZ x cs tip:=ac;by_cases hi:imm<=U+j-o
     .exact h.apart k I U m C Y Z r b o x cs imm tip J L hr hc e j (U+j-o) hj z hi hj1 eb ac
     .obtain⟨v,hv⟩:=h.au r b o x cs imm tip hr hc (U+j-o) ac hj0;rw[show o+(U+j-o)=U+j by omega,<-eb,g3]at hv;simp at hv
    .omega
  apart:=fun k1 b1 o1 x1 cs1 imm1 Z k2 b2 o2 x2 cs2 imm2 tip2 hk1 hc1 hk2 hc2 hne j1 j2 hj1 hl1 hj2 hl2 he=>by
   have key:∀k bk ok xk csk g tipk j,G.β k=some (bk,ok,xk)->(H.set r (.cells cs n O)).get k=some (.cells csk g tipk)->g<=j->j<eZ xk csk tipk ->
    ∃cs0 imm0 tip0,H.get k=some (.cells cs0 imm0 tip0)/\imm0<=j/\j<eZ xk cs0 tip0:=fun k bk ok xk csk g tipk j J L hj z=>by
    by_cases e:k=r
    .subst e;have V:G.β k=some (bk,ok,xk):=J;rw[hr]at V;simp only[cO]at V;obtain⟨rfl,rfl,rfl⟩:=V;rw[M]at L;simp only[aJ,HB.cells.injEq]at L;obtain⟨rfl,rfl,rfl⟩:=L;exact⟨cs,imm,tip,hc,ac,hreach j hj z⟩
    .rw[K k e]at L;exact⟨csk,g,tipk,L,hj,z⟩
   obtain⟨c1,i1,t1,g1,bK,l1⟩:=key k1 b1 o1 x1 cs1 imm1 Z j1 hk1 hc1 hj1 hl1;obtain⟨c2,i2,t2,g2,bW,l2⟩:=key k2 b2 o2 x2 cs2 imm2 tip2 j2 hk2 hc2 hj2 hl2;exact h.apart k1 b1 o1 x1 c1 i1 t1 k2 b2 o2 x2 c2 i2 t2 hk1 g1 hk2 g2 hne j1 j2 bK l1 bW l2 he
  map:=fun k I U m es J L=>by
   by_cases e:k=r
   .subst e;rw[M]at L;simp at L
   .rw[K k e]at L;obtain⟨ms,clock,h1,h2⟩:=h.map k I U m es J L;exact⟨ms,clock,h1,h2.mono i⟩
  aN:=fun k1 b1 o1 x1 es k2 b2 o2 x2 hk1 hc1 hk2 hs hne=>by
   by_cases e:k1=r
   .subst e;rw[M]at hc1;simp at hc1
   .rw[K k1 e]at hc1;refine h.aN k1 b1 o1 x1 es k2 b2 o2 x2 hk1 hc1 hk2 ?_ hne;by_cases e2:k2=r
    .subst e2;rw[hc];rfl
    .rw[K k2 e2]at hs;exact hs
  b0:=hF
  val:=h.val
  cj:=h.cj}
def SI(h:R B H w G){x:Nat}(hr:G.β r=some (b,o,x))(hx:cs.length<=x)(hc:jp G w b o cs)(hF:∀j,j<cs.length->∃v,G.F b (o+j)=some v)
 (hmap:∀aK b1 o1 x1 es,G.β aK=some (b1,o1,x1)->H.get aK=some (.map es)->b1≠b) :
 Step B H.next G w (H.set r (.cells cs cs.length false)) w G:=by
 have U:∀k,k≠r->(H.set r (.cells cs cs.length false)).get k=H.get k:=fun k V=>by rw[a1,af V]
 have C:(H.set r (.cells cs cs.length false)).get r=some (.cells cs cs.length false):=gL;have hβ:∀k I M J,k=r->G.β k=some (I,M,J)->I=b/\M=o/\J=x:=fun k I M J e V=>by
  subst e;rw[hr]at V;simp only[cO]at V;exact⟨V.1.symm,V.2.1.symm,V.2.2.symm⟩
 have g:∀K Z Y,(H.set r (.cells cs cs.length false)).get r=some (.cells K Z Y)->K=cs/\Z=cs.length/\Y=false:=fun K Z Y V=>by
  rw[C]at V;simp only[aJ,HB.cells.injEq]at V;exact⟨V.1.symm,V.2.1.symm,V.2.2.symm⟩
 refine⟨?_,wY _,yy _ _,u9 _ _,fun _ _ h=>.inl h,aO _,fun _ _ _ h=>.inl h⟩;exact{
  bw:=h.bw
  b3:=h.b3
  lt:=h.lt
  cells:=fun k I M J K Z Y V L=>by
   by_cases e:k=r
   .obtain⟨rfl,rfl,rfl⟩:=hβ k _ _ _ e V;subst e;obtain⟨rfl,rfl,rfl⟩:=g _ _ _ L;exact hc
   .rw[U k e]at L;exact h.cells k I M J K Z Y V L
  au:=fun k I M J K Z Y V L j hj z=>by
   by_cases e:k=r
   .obtain⟨rfl,rfl,rfl⟩:=hβ k _ _ _ e V;subst e;obtain⟨rfl,rfl,rfl⟩:=g _ _ _ L;exact hF j z
   .rw[U k e]at L;exact h.au k I M J K Z Y V L j hj z
  ext:=fun k I M J K Z Y V L=>by
   by_cases e:k=r
   .subst e;obtain⟨rfl,rfl,rfl⟩:=g _ _ _ L;exact aO _
   .rw[U k e]at L;exact h.ext k I M J K Z Y V L
  bm:=fun k I M J K Z Y V L=>by
   by_cases e:k=r
   .subst e;obtain⟨rfl,rfl,rfl⟩:=g _ _ _ L;obtain⟨_,_,rfl⟩:=hβ _ _ _ _ rfl V;exact hx
   .rw[U k e]at L;exact h.bm k I M J K Z Y V L
  bh:=fun k I M J K Z Y V L j hj z=>by
   by_cases e:k=r
   .subst e;obtain⟨rfl,rfl,rfl⟩:=g _ _ _ L;simp only[eZ]at z;omega
   .rw[U k e]at L;exact h.bh k I M J K Z Y V L j hj z
  apart:=fun k1 b1 o1 x1 cs1 imm1 tip1 k2 b2 o2 x2 cs2 imm2 tip2 m O i hc2 hne j1 j2 hj1 hl1 hj2 hl2 he=>by
   by_cases e1:k1=r
   .subst e1;obtain⟨rfl,rfl,rfl⟩:=g _ _ _ O;simp only[eZ]at hl1;omega
   .by_cases e2:k2=r
    .subst e2;obtain⟨rfl,rfl,rfl⟩:=g _ _ _ hc2;simp only[eZ]at hl2;omega
    .rw[U k1 e1]at O;rw[U k2 e2]at hc2;exact h.apart k1 b1 o1 x1 cs1 imm1 tip1 k2 b2 o2 x2 cs2 imm2 tip2 m O i hc2 hne j1 j2 hj1 hl1 hj2 hl2 he
  map:=fun k I M J es V L=>by
   by_cases e:k=r
   .subst e;rw[C]at L;simp at L
   .rw[U k e]at L;exact h.map k I M J es V L
  aN:=fun k1 b1 o1 x1 es k2 b2 o2 x2 m O i hs hne=>by
   by_cases e:k1=r
   .subst e;rw[C]at O;simp at O
   .rw[U k1 e]at O;by_cases e2:k2=r
    .obtain⟨rfl,rfl,rfl⟩:=hβ k2 _ _ _ e2 i;exact hmap k1 b1 o1 x1 es m O
    .rw[U k2 e2]at hs;exact h.aN k1 b1 o1 x1 es k2 b2 o2 x2 m O i hs hne
  b0:=h.b0
  val:=h.val
  cj:=h.cj}
def vb(P:Program)(B:Bs)(H:Hp)(G:Gh)(w:World)(s:Sem Next)(c:AV)(H':Hp):Prop:=
 ∃n J V v,s.run P w=.ok n J/\(n=.value v\/(n=.skip/\v=undef))/\VR V c v/\Step B H.next G w H' J V
theorem Jf(h:x9 v=some c):VR G c v:=by
 unfold x9 at h;split at h<;>simp only[aJ,reduceCtorEq]at h<;>subst h<;>constructor;rfl
theorem Jg{G:Gh}:∀{vs:qE}{Y:qs},vs.mapM x9=some Y->cp G Y vs
 |[],Y,h=>by simp at h;subst h;exact rz G
 |v::vs,Y,h=>by
  rw[List.mapM_cons]at h;simp only[Option.bind_eq_bind,iS,Option.pure_def,aJ]at h;obtain⟨c,hc,K,g,rfl⟩:=h;exact mD (Jf hc) (Jg g)
def w1(h:wL v=some c):VR G c v:=by
 unfold wL at h;split at h
 .rename_i Y;simp only[pK]at h;obtain⟨l,K,rfl⟩:=h;have:=Jg (G:=G) K;exact .agg (vs:=Y.toList) this.1 this.2
 .exact Jf h
theorem jp.list{G:Gh}{w:World}{b:Nat}:∀{cs:qs}{o:Nat},jp G w b o cs->∃vs,cp G cs vs/\∀(j:Nat) v,vs[j]?=some v->w.cell? ⟨b,o+j,none⟩=some v
 |[],o,_=>⟨[],rz G,az⟩
 |c::cs,o,h=>by
  obtain⟨v,i,g⟩:=h 0 c rfl;obtain⟨vs,k1,k2⟩:=jp.list (cs:=cs) (o:=o+1) (fun j d m=>by
   obtain⟨u,K,Z⟩:=h (j+1) d wS;exact⟨u,by rw[show o+1+j=o+(j+1) by omega];exact K,Z⟩)
  refine⟨v::vs,mD g k1,fun j u m=>?_⟩;cases j with
  |zero=>simp at m;subst m;exact i
  |succ j=>rw[show o+(j+1)=o+1+j by omega];exact k2 j u wS
def jp.drop(h:jp G w b o cs)(n:Nat):jp G w b (o+n) (cs.drop n):=fun j c m=>by
 rw[tE]at m;rw[kO];exact h (n+j) c m
def jp.take(h:jp G w b o cs)(n:Nat):jp G w b o (cs.take n):=fun j c m=>by
 rw[rx]at m;split at m
 .exact h j c m
 .simp at m
section
variable {P:Program} {w:World} {t:TypeId}
def dT(h:P.underlying t=some d):(underlying t).run P w=.ok d w:=by simp[underlying,h]
def tH{i:TypeInfo}(h:P.info? t=some i):(typeInfo t).run P w=.ok i w:=by simp[typeInfo,h]
def Jh{s:Nat}(h:bR P t=some s):∃i,P.info? t=some i/\i.size=s:=by simpa [bR,pK]using h
def kT{s:Nat}(h:bR P t=some s):(sizeOf t).run P w=.ok s w:=by
 obtain⟨i,Z,g⟩:=Jh h;simp[sizeOf,tH Z,g]
def Ji(h:uQ P t=some c):∃i v,P.info? t=some i/\i.zero=some v/\wL v=some c:=by
 unfold uQ at h;split at h
 .rename_i x d s g Z hp al fa J Y ms j;exact⟨_,J,j,rfl,h⟩
 .simp at h
def SJ(h:uQ P t=some c):∃v,(∀w,(zeroValue t).run P w=.ok v w)/\∀G,VR G c v:=by
 obtain⟨i,v,Z,g,m⟩:=Ji h;exact⟨v,fun w=>by simp[zeroValue,tH Z,g],fun G=>w1 m⟩
def EG(h:cP P t=some z):∃i v c,P.info? t=some i/\i.zero=some v/\wL v=some c/\c.cells=z:=by
 unfold cP at h;split at h
 .rename_i c hc;simp only[aJ]at h;obtain⟨i,v,Z,g,m⟩:=Ji hc;exact⟨i,v,c,Z,g,m,h⟩
 .simp at h
def w7(h:cP P t=some z):∃v,(∀w,(zeroValue t).run P w=.ok v w)/\∀G,cp G z v.cells.toList:=by
 obtain⟨i,v,c,Z,g,m,rfl⟩:=EG h;exact⟨v,fun w=>by simp[zeroValue,tH Z,g],fun G=>(w1 m).cells⟩
def EH:TypeDesc->Bool
 | .struct _|.array _ _=>true
 |_=>false
theorem Bq(h:P.underlying t=some d):(isAgg t).run P w=.ok (EH d) w:=by
 simp only[isAgg,fh,dT h,fo];cases d<;>rfl
def Jj{off:Nat}(h:cU P t cs off=some c):
 (∃d s,P.underlying t=some d/\EH d=true/\bR P t=some s/\((cs.drop off).take s).length=s/\c=.agg ((cs.drop off).take s)) \/
 (∃d,P.underlying t=some d/\EH d=false/\cs[off]?=some c):=by
 unfold cU at h;split at h
 .rename_i f hd;split at h
  .rename_i s M;simp only[]at h;split at h
   .rename_i K;simp only[aJ]at h;exact .inl ⟨_,s,hd,rfl,M,K,h.symm⟩
   .simp at h
  .simp at h
 .rename_i n e hd;split at h
  .rename_i s M;simp only[]at h;split at h
   .rename_i K;simp only[aJ]at h;exact .inl ⟨_,s,hd,rfl,M,K,h.symm⟩
   .simp at h
  .simp at h
 .rename_i d i g hd;refine .inr ⟨d,hd,?_,h⟩;cases d<;>first|rfl|exact(i _ rfl).elim|exact(g _ _ rfl).elim
 .simp at h
def Jk{off:Nat}(Y:jp G w b o cs)(h:cU P t cs off=some c):
 ∃v,(loadVar t ⟨b,o+off,none⟩).run P w=.ok v w/\VR G c v:=by
 rcases Jj h with⟨d,s,hd,Z,V,K,rfl⟩|⟨d,hd,Z,hc⟩
 .obtain⟨vs,i,g⟩:=((Y.drop off).take s).list;refine⟨.agg vs.toArray,?_,.agg i.1 i.2⟩;simp only[loadVar,fh,Bq hd,Z,fo,bC,kT V];have M:vs.length=s:=by rw[<-i.1];exact K
  rw[<-M,run_loadCells_list _ _ vs (fun j v m=>by rw[oc];exact g j v m)];rfl
 .obtain⟨v,i,g⟩:=Y off c hc;refine⟨v,?_,g⟩;simp[loadVar,Bq hd,Z,i]
def Br{off:Nat}(V:cp G cs vs)(h:cU P t cs off=some c):
 ∃v,(part t vs.toArray off).run P w=.ok v w/\VR G c v:=by
 rcases Jj h with⟨d,s,hd,j,M,K,rfl⟩|⟨d,hd,j,hc⟩
 .have i:=(V.drop off).take s;refine⟨.agg ((vs.drop off).take s).toArray,?_,.agg i.1 i.2⟩;simp only[part,fh,Bq hd,j,fo,bC,kT M,kR]
  congr 2
  apply m1;simp
 .have z:off<cs.length:=(eS.1 hc).1;have Y:off<vs.length:=by have:=V.1;omega
  refine⟨vs[off],?_,V.2 off c _ hc (a0 Y)⟩;simp[part,Bq hd,j,Y]
end
def xc(h:R B H w G){s:Sem Next}(hr:s.run P w=.ok (.value v) w)(V:VR G c v):vb P B H G w s c H:=
 ⟨.value v,w,G,v,hr,.inl rfl,V,j9 h⟩
def lD{x:qB}(h:ret H x=some (c,H')):x=some c/\H'=H:=by
 cases x with
 |none=>simp[ret]at h
 |some v=>simp[ret]at h;exact⟨by rw[h.1],h.2.symm⟩
section
variable {P:Program} {B:Bs} {G:Gh} {H H':Hp} {w:World} (h:R B H w G) {c:AV}
include h
def Jl(Z:VR G a Y)(K:eY P H t a=some c):∃v,(Instr.loadAt t Y).run P w=.ok v w/\VR G c v:=by
 unfold eY at K;split at K
 .rename_i r I;cases Z with
  |ptr hr=>
   split at K
   .rename_i V L U hc;obtain⟨v,i,g⟩:=Jk (h.cells _ _ _ _ _ _ _ hr hc) K;exact⟨v,I8,g⟩
   .simp at K
 .rename_i V;cases Z with
  |a8 vs M J=>
   rename_i b o;have O:jp G w b o V:=fun j d m=>⟨vs j,h.b0 _ _ _ (M j (eS.1 m).1),J j d m⟩;obtain⟨v,i,g⟩:=Jk O K;exact⟨v,I8,g⟩
 .simp at K
def SK(ha:VR G a g)(hx:VR G x K)(M:mB P H t a x=some H'):
 ∃J,(Instr.storeAt t g K).run P w=.ok () J/\Step B H.next G w H' J G:=by
 unfold mB at M;split at M
 .rename_i r I;cases ha with
  |ptr hr=>
   rename_i b o ex;split at M
   .rename_i cs L O s hc C;split at M
    .rename_i Z;obtain⟨h1,h2,h3,h4⟩:=Z;simp only[aJ]at M;subst M;have V:=hx.cells;have Y:K.cells.toList.length=s:=by rw[<-V.1];exact h1
     have U:∀v∈K.cells.toList,v.oneCell'=true:=fun v hv=>by
      obtain⟨i,hi,rfl⟩:=yu hv;have z:i<x.cells.length:=by rw[V.1];exact hi
      rw[(V.2 i _ _ (a0 z) (a0 hi)).bz];exact hM.1 h4 _ (cL z)
     have hex:=h.ext r b o ex cs L O hr hc;obtain⟨J,hw,j⟩:=EF P hr I x.cells K.cells.toList cs 0 H w h hc V U ac ac ac (fun _=>ac);refine⟨J,?_,by simpa using j⟩;have m:K.cells.size=s:=by simpa using Y
     simp only[Instr.storeAt,Instr.sureAddr,fh,kR,fo,storeVar,kT C,m];simpa using hw
    .simp at M
   .simp at M
 .simp at M
end
section
variable {P:Program} {B:Bs} {G:Gh} {H H':Hp} {w:World}
def SL(U:VR G a Y)(Z:tl P t a i=some c):∃v,(Instr.fieldAt t Y i).run P w=.ok v w/\VR G c v:=by
 unfold tl at Z;split at Z
 .rename_i g hd;split at Z
  .rename_i f V;split at Z
   .rename_i s M;have z:∀b o,Y=.pointer (some ⟨b,o,none⟩)->(Instr.fieldAt t Y i).run P w=.ok (.pointer (some ⟨b,o+f.offset,none⟩)) w:=fun b o e=>by
     subst e;simp only[Instr.fieldAt,fh,dT hd,fo];simp[V,Instr.sureAddr,fieldPlace,kT M,oc]
    split at Z
    .rename_i r I;simp only[aJ]at Z;subst Z;cases U with
     |ptr hr=>exact⟨_,z _ _ rfl,Eu⟩
    .rename_i K;simp only[aJ]at Z;subst Z;cases U with
     |a8 vs O L=>
      refine⟨_,z _ _ rfl,.a8 (fun j=>vs (f.offset+j)) (fun j m=>?_) (fun j d m=>?_)⟩
      .rw[kQ]at m;rw[kO];exact O _ ac
      .rw[tE]at m;exact L _ _ m
    .simp at Z
   .simp at Z
  .simp at Z
 .simp at Z
def SM{V:Value}(j:VR G a V)(Z:uR P t a i=some c):∃v,(Instr.field t V i).run P w=.ok v w/\VR G c v:=by
 unfold uR at Z;split at Z
 .rename_i g L hd;cases j with
  |agg K M=>
   rename_i vs;split at Z
   .rename_i f Y;obtain⟨v,U,O⟩:=Br (P:=P) (w:=w) ⟨K,M⟩ Z;refine⟨v,?_,O⟩;simp only[Instr.field,fh,dT hd,fo];simp only[Y,fh,asAgg,kR,fo];exact U
   .simp at Z
 .simp at Z
def SN{i:AV}{m:Value}(L:VR G a m)(hi:VR G i g)(Z:ey P t a i=some c):∃v,(Instr.indexAt t m g).run P w=.ok v w/\VR G c v:=by
 unfold ey at Z;split at Z
 .rename_i kk k;cases hi;split at Z
  .rename_i e hd;split at Z
   .rename_i s M;split at Z
    .rename_i r I K z;split at Z
     .rename_i V;simp only[aJ]at Z;subst Z;cases L with
      |sl hr hl hc=>
       rename_i b o x U;refine⟨.pointer (some ⟨b,o+I+k*s,none⟩),?_,Eu⟩;simp only[Instr.indexAt,asIntOf,fh,kR,fo,dT hd];have h1:(0:Int)<=Int.ofNat k:=Int.natCast_nonneg k;have h2:(Int.ofNat k)<(K:Int):=tD;simp[kT M,V,oc]
     .simp at Z
    .rename_i xs;split at Z
     .rename_i O Y;split at Z
      .rename_i J;simp only[aJ]at Z;subst Z;have V:k<xs.length:=(eS.1 Y).1;cases L with
       |ao vs hz hF hv hc=>
        rename_i b o U z;have C:s=z:=by rw[<-J];exact hz k O Y
        subst C;refine⟨.pointer (some ⟨b,o+k*s,none⟩),?_,.a8 (vs k) (fun j hj=>hF k j V ac) (fun j d hj=>hv k j O d Y hj)⟩;simp only[Instr.indexAt,asIntOf,fh,kR,fo,dT hd];simp[kT M,V,oc]
       |bU a U=>simp at V
      .simp at Z
     .simp at Z
    .simp at Z
   .simp at Z
  .rename_i n e hd;split at Z
   .rename_i s M;split at Z
    .rename_i r I;split at Z
     .rename_i V;simp only[aJ]at Z;subst Z;cases L with
      |ptr hr=>
       rename_i b o x;refine⟨.pointer (some ⟨b,o+I+k*s,none⟩),?_,Eu⟩;simp only[Instr.indexAt,asIntOf,fh,kR,fo,dT hd];simp[kT M,V,oc,Instr.sureAddr]
     .simp at Z
    .simp at Z
   .simp at Z
  .simp at Z
 .simp at Z
def SO{i:AV}{V:Value}(U:VR G a Y)(z:VR G i V)(Z:pI P t a i=some c):∃v,(Instr.index t Y V).run P w=.ok v w/\VR G c v:=by
 unfold pI at Z;split at Z
 .rename_i C k;cases z;split at Z
  .rename_i s hd;split at Z
   .rename_i b o;simp only[aJ]at Z;subst Z;cases U with
    |ai O l K=>
     subst K;refine⟨_,?_,.int .u8 b.toNat⟩;have j:k<O.size:=by
      have:=(eS.1 o).1;simpa using this
     have J:O[k]?=some b:=by
      rw[ByteArray.getElem?_lt' _ _ j];have:=(eS.1 o).2;simp at this;rw[<-this];rfl
     simp only[Instr.index,asIntOf,fh,kR,fo,dT hd];simp[J]
   .simp at Z
  .rename_i n e m hd;split at Z
   .rename_i j;split at Z
    .rename_i s M;cases U with
     |agg K I=>
      rename_i vs;obtain⟨v,L,g⟩:=Br (P:=P) (w:=w) ⟨K,I⟩ Z;refine⟨v,?_,g⟩;simp only[Instr.index,asIntOf,fh,kR,fo,dT hd];simp[kT M,j,L]
    .simp at Z
   .simp at Z
  .simp at Z
 .simp at Z
def SP(j:VR G a Y)(Z:extract a i=some c):∃v,(Instr.extract Y i).run P w=.ok v w/\VR G c v:=by
 unfold extract at Z;split at Z
 .rename_i V;cases j with
  |aS K U=>
   rename_i vs;have O:i<V.length:=(eS.1 Z).1;have z:i<vs.length:=ac;exact⟨vs[i],by simp[Instr.extract,z],U i c _ Z (a0 z)⟩
 .simp at Z
def EI{op:BinOp}{a b:Int}(M:op≠.shl/\op≠.shr)(h:jZ op k a b=some c)(C:TypeId):∃v,(binOp op C (.int k a) (.int k b)).run P w=.ok v w/\VR G c v:=by
 cases op<;>simp only[jZ,aJ,reduceCtorEq]at h<;>first
  |(subst h;exact⟨_,by simp[binOp,Op.intArith,Op.intBits,Op.intCmp];rfl,sh⟩)
  |(subst h;exact⟨.int k (k.wrap (BitVec.ofInt k.bits a &&& ~~~ BitVec.ofInt k.bits b).toNat),by simp[binOp,Op.intBits],sh⟩)
  |(split at h
    ·simp at h
    .rename_i o;simp only[aJ]at h;subst h;exact⟨_,by simp[binOp,Op.intDiv,o];rfl,sh⟩)
  |simp at M
theorem SQ{op:BinOp}{a b:ByteArray}(h:yb op a.data.toList b.data.toList=some c)(C:TypeId):∃v,(binOp op C (.string a) (.string b)).run P w=.ok v w/\VR G c v:=by
 have z:∀x y,tm x y=Op.bytesLess x y:=fun x=>by
  induction x with
  |nil=>intro y;cases y<;>rfl
  |cons p x ih=>intro y;cases y with
   |nil=>rfl
   |cons q y=>simp[tm,Op.bytesLess,ih]
 cases op<;>simp only[yb,aJ,reduceCtorEq,z]at h<;>first
  |(subst h;exact⟨.bool (a.data.toList == b.data.toList),wT,sh⟩)
  |(subst h;exact⟨.bool !(a.data.toList == b.data.toList),wT,sh⟩)
  |(subst h;exact⟨.bool (Op.bytesLess a.data.toList b.data.toList),wT,sh⟩)
  |(subst h;exact⟨.bool !(Op.bytesLess a.data.toList b.data.toList),wT,sh⟩)
  |(subst h;exact⟨.bool (Op.bytesLess a.data.toList b.data.toList||a.data.toList == b.data.toList),wT,sh⟩)
  |(subst h;exact⟨.bool !(Op.bytesLess a.data.toList b.data.toList||a.data.toList == b.data.toList),wT,sh⟩)
  |(split at h
    ·rename_i Z;simp only[aJ]at h;subst h;refine⟨.string (a++b),?_,.ai _ _ ?_⟩
     .have o:¬((a.size+b.size:Nat):Int) > IntKind.i64.max:=by
       have i:a.size+b.size<=70368744177664:=by simpa [dX]using Z
       have g:IntKind.i64.max=9223372036854775807:=rfl;rw[g];omega
      simp only[binOp,Op.stringOp,af o];rfl
     .simp
    .simp at h)
def Jm(Z:Nat){r:Bool}(I:VR G x K)(Y:VR G y g)(h:yc P C x y=some r):(Op.equalIn (Z+1) C K g).run P w=.ok r w:=by
 unfold yc at h;split at h;all_goals first
  |(rename_i hd
    split at h<;>simp only[aJ,reduceCtorEq]at h<;>subst h<;>cases I<;>cases Y<;>simp[Op.equalIn,dT hd]
    done)
  |(rename_i e hd
    split at h<;>simp only[aJ,reduceCtorEq]at h<;>subst h<;>cases I<;>cases Y<;>simp[Op.equalIn,dT hd]
    done)
  |(rename_i o J hd
    split at h<;>simp only[aJ,reduceCtorEq]at h<;>subst h<;>cases I<;>cases Y<;>simp[Op.equalIn,dT hd]
    done)
  |(rename_i o J L hd
    split at h<;>simp only[aJ,reduceCtorEq]at h<;>subst h<;>cases I<;>cases Y<;>simp[Op.equalIn,dT hd]
    done)
  |simp at h
def Bt{op:BinOp}{x y:Operand}{d:AV}{cv dv:Value}(V:VR G c cv)(hd:VR G d dv)(h:∀l m,c=.agg l->d=.agg m->False):(eqGuard op t x y cv dv).run P w=.ok () w:=by
 cases op<;>first|rfl|(cases V<;>cases hd<;>first|rfl|exact(h _ _ rfl rfl).elim)
def SR(a b:ByteArray):(a == b)=(a.data.toList == b.data.toList):=by
 cases a with
 |mk x=>cases b with
  |mk y=>
   show(x == y)=_;rw[Bn,oW,oW];exact⟨fun h=>by rw[h],fun h=>m1 h⟩
def Jn(Z:Nat){r:Bool}(I:VR G x K)(Y:VR G y g)(h:Ep P C x y=some r):(Op.equalIn (Z+1) C K g).run P w=.ok r w:=by
 unfold Ep at h;split at h
 .split at h
  .rename_i hd;split at h
   .rename_i j;simp only[aJ]at h;subst h j;cases I;cases Y;simp[Op.equalIn,dT hd]
   .simp at h
  .simp at h
 .split at h
  .rename_i hd;simp only[aJ]at h;subst h;cases I with
   |ai a U V=>cases Y with
    |ai b L o=>
     subst V o;simp only[Op.equalIn,fh,dT hd,fo,kR,SR]
  .simp at h
 .exact Jm Z I Y h
theorem EJ{xs K:qs}{J g:qE}(I:cp G xs J)(L:cp G K g)(Z:Nat):∀(M:List Field) (r:Bool),wM P xs K M=some r ->
 Sem.run P (forIn M (none,()) fun(f:Field) (_:qF×Unit)=>
         if f.name="_" then pure (ForInStep.yield (none,()))
         else do
          let a <-part f.type J.toArray f.offset
          let b <-part f.type g.toArray f.offset
          let c <-Op.equalIn (Z+1) f.type a b
          if c=false then pure (ForInStep.done (some false,()))else pure (ForInStep.yield (none,())))
  w=.ok (match r with|true=>(none,())|false=>(some false,())) w
 |[],r,h=>by
  simp only[wM,aJ]at h;subst h;rfl
 |f::M,r,h=>by
  unfold wM at h;rw[List.forIn_cons];split at h
  .rename_i C;rw[ay Bk];simp only[fh,kR,fo];exact EJ I L Z M r h
  .rename_i C;rw[af Bk];split at h
   .rename_i a b z o;obtain⟨m,V,Y⟩:=Br (P:=P) (w:=w) I z;obtain⟨i,U,O⟩:=Br (P:=P) (w:=w) L o;split at h
    .rename_i j;have:=Jn (P:=P) (w:=w) Z Y O j;simp only[fh,V,U,this,fo,sk,bH,kR];exact EJ I L Z M r h
    .rename_i j;have:=Jn (P:=P) (w:=w) Z Y O j;simp only[aJ]at h;subst h;simp only[fh,V,U,this,fo,bC,kR]
    .simp at h
   .simp at h
theorem SS(d:Nat){g:Array Field}{xs I:Array Value}(hd:P.underlying t=some (.struct g))(M:P.stoodInHeld t=false):
 (Op.equalIn (d+1) t (.agg xs) (.agg I)).run P w=(Sem.run P (forIn g.toList (none,()) fun(f:Field) (_:qF×Unit)=>
   if f.name="_" then pure (ForInStep.yield (none,()))
   else do
    let a <-part f.type xs f.offset
    let b <-part f.type I f.offset
    let c <-Op.equalIn d f.type a b
    if c=false then pure (ForInStep.done (some false,()))else pure (ForInStep.yield (none,())))
   w).andThen fun a J=>Sem.run P (match a.1 with|some r=>pure r|none=>pure true) J:=by
 simp[Op.equalIn,dT hd,M]
 congr 1
 funext a J
 rcases a with⟨_ |_,_⟩<;>rfl
def SU(Z:Nat){r:Bool}{V:TypeId}(U:VR G x K)(O:VR G y Y)(h:tp P V x y=some r):(Op.equalIn (Z+2) V K Y).run P w=.ok r w:=by
 unfold tp at h;split at h
 .unfold AU at h;split at h
  .rename_i g hd;split at h
   .simp at h
   .rename_i M;simp only[kS]at M;cases U with
    |agg i C=>cases O with
     |agg I J=>
      have:=EJ (P:=P) (w:=w) ⟨i,C⟩ ⟨I,J⟩ Z g.toList r h;rw[SS (Z+1) hd M.1,this];cases r<;>rfl
  .simp at h
 .exact Jm (Z+1) U O h
def SV{r:Bool}(I:VR G x K)(Y:VR G y g)(h:tp P C x y=some r):(Op.equal C K g).run P w=.ok r w:=SU 9998 I Y h
def SW{op:BinOp}{x y:Operand}{xs:qs}(Z:VR G (.agg xs) K)(Y:VR G (.agg I) g){r:Bool}(h:AU P t xs I=some r):(eqGuard op t x y K g).run P w=.ok () w:=by
 unfold AU at h;split at h
 .split at h
  .simp at h
  .rename_i J;simp only[kS]at J;cases Z;cases Y;cases op<;>first|rfl|simp[eqGuard,J.2]
 .simp at h
def SX{op:BinOp}{J z:Operand}(I:VR G x K)(Y:VR G y g)(V:∀k a k' b,x=.int k a->y=.int k' b->False)
 (U:∀a b,x=.ai a->y=.ai b->False) (m:∀k a,x=.sx k a->False) (O:∀k a k' b,x=.int k a->y=.sx k' b->False) (h:AW P op C x y=some c) :
 ∃v,(do eqGuard op C J z K g;binOp op C K g:Sem Value).run P w=.ok v w/\VR G c v:=by
 unfold AW at h;have j:∃r,tp P C x y=some r/\((op=.eql/\c=.bool r)\/(op=.neq/\c=.bool !r)):=by
  split at h
  .split at h
   .rename_i r hr;simp only[aJ]at h;exact⟨r,hr,.inl ⟨rfl,h.symm⟩⟩
   .simp at h
  .split at h
   .rename_i r hr;simp only[aJ]at h;exact⟨r,hr,.inr ⟨rfl,h.symm⟩⟩
   .simp at h
  .simp at h
 obtain⟨r,hr,L⟩:=j;have i:(eqGuard op C J z K g).run P w=.ok () w:=by
  have Z:=hr;unfold tp at Z;split at Z
  .exact SW I Y Z
  .rename_i M;exact Bt I Y M
 have o:=SV (P:=P) (w:=w) I Y hr;simp only[fh,i,fo];rcases L with⟨rfl,rfl⟩|⟨rfl,rfl⟩
 .refine⟨.bool r,?_,.bool r⟩;have:binOp .eql C K g=(do pure (.bool (<-Op.equal C K g)):Sem Value):=by
   cases I<;>cases Y<;>first|rfl|exact(V _ _ _ _ rfl rfl).elim|exact(U _ _ rfl rfl).elim|exact(m _ _ rfl).elim|exact(O _ _ _ _ rfl rfl).elim
  rw[this];simp[o]
 .refine⟨.bool !r,?_,.bool _⟩;have:binOp .neq C K g=(do pure (.bool (!(<-Op.equal C K g))):Sem Value):=by
   cases I<;>cases Y<;>first|rfl|exact(V _ _ _ _ rfl rfl).elim|exact(U _ _ rfl rfl).elim|exact(m _ _ rfl).elim|exact(O _ _ _ _ rfl rfl).elim
  rw[this];simp[o]
def Jo{e:Sx}(I:VR G x K)(h:AS x=some (k,e)):K=.int k (e.eval G.ρ):=by
 unfold AS at h;split at h
 .simp only[cO]at h;obtain⟨rfl,rfl⟩:=h;cases I;rfl
 .simp only[cO]at h;obtain⟨rfl,rfl⟩:=h;cases I;rfl
 .simp at h
def SY{op:BinOp}{a b n:Int}(h:jZ op k a b=some (.int k n)):Em op k a b=n:=by simp[Em,h]
def SZ(j:oX D G.ρ){op:BinOp}{a b:Sx}(h:Eo D op k a b=some c)(C:TypeId):
 ∃v,(binOp op C (.int k (a.eval G.ρ)) (.int k (b.eval G.ρ))).run P w=.ok v w/\VR G c v:=by
 have m:∀(op:BinOp) (n:Int),(op≠.shl/\op≠.shr)->jZ op k (a.eval G.ρ) (b.eval G.ρ)=some (.int k n)->c=.sx k (.bZ op k a b) ->
  ∃v,(binOp op C (.int k (a.eval G.ρ)) (.int k (b.eval G.ρ))).run P w=.ok v w/\VR G c v:=fun op n M z hc=>by
  obtain⟨v,i,g⟩:=EI (P:=P) (w:=w) (G:=G) M z C;cases g;refine⟨_,i,?_⟩;subst hc;have:VR G (.sx k (.bZ op k a b)) (.int k ((Sx.bZ op k a b).eval G.ρ)):=.sx _ _;simp only[Sx.eval,SY z]at this;exact this
 have I:D .eql b (.lit 0)=some false->b.eval G.ρ≠0:=fun hd=>by
  have:=j _ k _ _ _ hd;simp[jZ,Sx.eval]at this;exact this
 cases op<;>simp only[Eo,aJ,reduceCtorEq]at h<;>first
  |exact m _ _ az rfl h.symm
  |(split at h
    ·rename_i hd;simp only[aJ]at h;first
      |exact m .quo (k.wrap ((a.eval G.ρ).tdiv (b.eval G.ρ))) az (by simp only[jZ,af (I hd)]) h.symm
      |exact m .rem ((a.eval G.ρ).tmod (b.eval G.ρ)) az (by simp only[jZ,af (I hd)]) h.symm
    .simp at h)
  |(split at h
    ·rename_i r hd;simp only[aJ]at h;subst h;exact EI (P:=P) (w:=w) (G:=G) az (j _ k _ _ _ hd) C
    .simp at h)
def Jp(j:oX D G.ρ){op:BinOp}(I:VR G x K)(M:VR G y g)(V:∀l m,x=.agg l->y=.agg m->False)(h:AT D op x y=some c):
 ∃v,(do eqGuard op C O U K g;binOp op C K g:Sem Value).run P w=.ok v w/\VR G c v:=by
 have J:=Bt (P:=P) (w:=w) (op:=op) (t:=C) (x:=O) (y:=U) I M V;simp only[fh,J,fo];unfold AT at h;split at h
 .rename_i k a k' b Y Z;have o:=Jo I Y;have z:=Jo M Z;subst o z;split at h
  .rename_i L;subst L;exact SZ j h C
  .simp at h
 .simp at h
def S0(j:oX D G.ρ){op:BinOp}(I:VR G x K)(Y:VR G y g)(h:em P D op C x y=some c):
 ∃v,(do eqGuard op C O U K g;binOp op C K g:Sem Value).run P w=.ok v w/\VR G c v:=by
 unfold em at h;split at h
 .rename_i k a k' b;have J:=Bt (P:=P) (w:=w) (op:=op) (t:=C) (x:=O) (y:=U) I Y az;simp only[fh,J,fo];cases I;cases Y;unfold tq at h;split at h
  .unfold wN at h;split at h
   .simp only[aJ]at h;subst h;refine⟨_,?_,.int _ _⟩;simp only[binOp,Op.shift];rw[af az];rfl
   .simp at h
  .unfold wN at h;split at h
   .simp only[aJ]at h;subst h;refine⟨_,?_,.int _ _⟩;simp only[binOp,Op.shift];rw[af az];rfl
   .simp at h
  .rename_i i Z;split at h
   .rename_i V;subst V;exact EI ⟨i,Z⟩ h C
   .simp at h
 .rename_i a b;have J:=Bt (P:=P) (w:=w) (op:=op) (t:=C) (x:=O) (y:=U) I Y az;simp only[fh,J,fo];cases I with
  |ai m _ M=>
   cases Y with
   |ai L _ o=>
    subst M o;exact SQ h C
 .exact Jp j I Y az h
 .exact Jp j I Y az h
 .exact SX I Y jm jm jm jm h
def S1{op:UnOp}(I:VR G x K)(h:tt op x=some c):∃v,(Op.unary op K).run P w=.ok v w/\VR G c v:=by
 unfold tt at h;split at h
 .cases I;simp only[aJ]at h;subst h;refine⟨_,rfl,?_⟩;exact .sx _ _
 .cases I;simp only[aJ]at h;subst h;refine⟨_,rfl,?_⟩;exact .sx _ _
 .cases I;simp only[jZ,aJ]at h;subst h;exact⟨_,rfl,.int _ _⟩
 .cases I;simp only[jZ,aJ]at h;subst h;exact⟨_,rfl,.int _ _⟩
 .cases I;simp only[aJ]at h;subst h;exact⟨_,rfl,.bool _⟩
 .simp at h
end
def vc(G:Gh):qB->qQ->Prop
 |none,none=>True
 |some c,some v=>VR G c v
 |_,_=>False
section
variable {P:Program} {B:Bs} {G:Gh} {H H':Hp} {w:World}
def Bu{k y:Nat}(code:BoundsCode)(h:VR G c v)(o:ig 0 (some c)=some k)(j:k<=y):(Instr.sliceBound v y code).run P w=.ok k w:=by
 unfold ig at o;split at o
 .simp at *
 .rename_i Y n e;simp only[aJ]at o e;subst o;subst e;cases h;simp[Instr.sliceBound,asIntOf,j]
 .simp at o
theorem S8{d k:Nat}(h:ig d (some c)=some k):ig 0 (some c)=some k:=by
 unfold ig at *;split at h<;>simp_all
def EK{z:qB}{Z g:qQ}{l h len cap:Nat}(K:vc G lo Z)(Y:vc G z g)(i:ig 0 lo=some l)(j:ig len z=some h)(h1:l<=h)(h2:h<=len)(m:len<=cap)(L:Bool):
 (Instr.sliceBounds L len cap Z g none).run P w=.ok (l,h,cap) w:=by
 cases z with
 |none=>
  cases g with
  |some v=>exact Y.elim
  |none=>
   simp only[ig,aJ]at j;subst j;cases lo with
   |none=>
    cases Z with
    |some v=>exact K.elim
    |none=>
     simp only[ig,aJ]at i;subst i;simp[Instr.sliceBounds]
   |some c=>
    cases Z with
    |none=>exact K.elim
    |some v=>simp[Instr.sliceBounds,Bu _ K i h1]
 |some O=>
  cases g with
  |none=>exact Y.elim
  |some U=>
   have M:=S8 j;cases lo with
   |none=>
    cases Z with
    |some v=>exact K.elim
    |none=>
     simp only[ig,aJ]at i;subst i;simp[Instr.sliceBounds,Bu _ Y M (show h<=cap by omega)]
   |some c=>
    cases Z with
    |none=>exact K.elim
    |some v=>simp[Instr.sliceBounds,Bu _ K i h1,Bu _ Y M (show h<=cap by omega)]
def Ta{xv:Value}{Y:qB}{lov hiv:qQ}(hx:VR G x xv)(hl:vc G lo lov)(hh:vc G Y hiv)(h:jA P t x lo Y=some c):
 ∃v,(Instr.sliceAt t xv lov hiv none).run P w=.ok v w/\VR G c v:=by
 unfold jA at h;split at h
 .rename_i s hd;split at h
  .rename_i l hh' O L;split at h
   .rename_i hc;simp only[aJ]at h;subst h;cases hx with
    |ai C _ hs=>
     subst hs;have hb:=EK (P:=P) (w:=w) (cap:=C.size) hl hh O L hc.1 hc.2 (by show C.data.toList.length<=C.data.size;simp) false;have hsz:C.data.toList.length=C.size:=by show C.data.toList.length=C.data.size;simp
     rw[hsz]at hb;refine⟨.string (C.extract l hh'),?_,.ai _ _ (Lib.extract_data _ _ _)⟩;simp only[Instr.sliceAt,fh,dT hd,fo,Instr.slice];simp[hb]
   .simp at h
  .simp at h
 .rename_i e y hd;split at h
  .rename_i z hz;have Z:∀(a:Option Addr) (V cap l U:Nat),xv=.slice a V cap->ig 0 lo=some l->ig V Y=some U->l<=U->U<=V->V<=cap ->
    (Instr.sliceAt t xv lov hiv none).run P w=.ok (.slice (if cap=l then a else a.map (·.add (l*z))) (U-l) (cap-l)) w:=fun a V cap l U e1 O L h1 g h3=>by
    subst e1;simp only[Instr.sliceAt,fh,dT hd,fo,Instr.slice];simp[EK hl hh O L h1 g h3,kT hz]
   split at h
   .rename_i r off V z';split at h
    .rename_i l U O L;split at h
     .rename_i hc;obtain⟨h1,g,rfl⟩:=hc;cases hx with
      |sl hr hlc hx'=>
       rename_i b o x cap;have:=Z _ V cap l U rfl O L h1 g hlc;split at h
       .rename_i e1;simp only[aJ]at h;subst h;subst e1;rw[lU]at this;exact⟨_,this,.bU _ _⟩
       .rename_i hne;simp only[aJ]at h;subst h;rw[af ac]at this;refine⟨_,this,?_⟩;simp only[jo,oc];rw[kO];refine .sl hr ac ?_;have e3:(cap-l)*z'+l*z'=cap*z':=Ev;omega
     .simp at h
    .simp at h
   .rename_i xs;split at h
    .rename_i l U O L;split at h
     .rename_i hc;obtain⟨h1,g⟩:=hc;split at h
      .rename_i he;simp only[aJ]at h;subst h;have M:U-l=0:=by
        have:=jH List.length he;simp only[lS,kQ,gM]at this;omega
       cases hx with
       |ao vs hzz hF hv m=>
        have:=Z _ _ _ l U rfl O L h1 g m;rw[M]at this;exact⟨_,this,.bU _ _⟩
       |bU a cap=>
        have:=Z _ _ _ l U rfl O L h1 g (dN cap);rw[M]at this;exact⟨_,this,.bU _ _⟩
      .rename_i row I he;split at h
       .rename_i hrl;simp only[aJ]at h;subst h;have hpos:0<U-l:=by
         have:=jH List.length he;simp only[lS,kQ,eT]at this;omega
        cases hx with
        |bU a cap=>simp at g;omega
        |ao vs hzz hF hv m=>
         rename_i b o cap z';have K:=Z _ _ _ l U rfl O L h1 g m;rw[af ac]at K;have J:∀i:Nat,(row::I)[i]?=if i<U-l then xs[l+i]? else none:=fun i=>by
          rw[<-he,rx,tE]
         have hz':z'=z:=by
          have:=J 0;rw[ay hpos]at this;rw[<-hzz (l+0) row (by rw[<-this];rfl)];exact hrl
         subst hz';have M:(row::I).length=U-l:=by
          rw[<-he];simp only[lS,kQ];omega
         refine⟨_,K,?_⟩;simp only[jo,oc];rw[<-M];refine .ao (z:=z') (fun i j=>vs (l+i) j) (fun i rw' Y=>?_) (fun i j Y hj=>?_) (fun i j rw' d Y hj=>?_) (by rw[M];omega)
         .rw[J i]at Y;split at Y
          .exact hzz _ _ Y
          .simp at Y
         .have:=hF (l+i) j (by rw[M]at Y;omega) hj;rw[<-this]
          congr 1
          rw[nf];omega
         .rw[J i]at Y;split at Y
          .exact hv _ _ _ _ Y hj
          .simp at Y
       .simp at h
     .simp at h
    .simp at h
   .split at h
    .rename_i O L;simp only[aJ]at h;subst h;cases hx;have:=Z none 0 0 0 0 rfl O L (aO _) (aO _) (aO _);exact⟨_,this,.ah⟩
    .simp at h
   .simp at h
  .simp at h
 .simp at h
def cp.splice{nv:qE}(h:cp G cs vs)(C:cp G I nv)(off:Nat):cp G (Ab.splice cs off I) (vs.take off++nv++vs.drop (off+nv.length)):=by
 unfold Ab.splice;rw[C.1];exact((h.take off).append C).append (h.drop _)
theorem Jq(off:Nat):∀(Z:qE) (k:Nat) (cells:Array Value),off+k+Z.length<=cells.size ->
 ((Z.zipIdx k).foldl (fun Y (c,j)=>Y.setIfInBounds (off+j) c) cells).toList=cells.toList.take (off+k)++Z++cells.toList.drop (off+k+Z.length)
 |[],k,cells,_=>by simp
 |v::Z,k,cells,h=>by
  simp only[eT]at h;rw[List.zipIdx_cons,List.foldl_cons,Jq off Z (k+1) _ ca];simp only[I9,eT];have hp:off+k<cells.toList.length:=ca;have i:(cells.toList.set (off+k) v).take (off+(k+1))=cells.toList.take (off+k)++[v]:=by
   rw[<-kO,ry,List.take_set_of_le (aO _),List.getElem?_set_self hp];rfl
  rw[i,List.drop_set_of_lt ac,show off+(k+1)+Z.length=off+k+(Z.length+1) by omega];simp
theorem Bv{J:Nat->Option (Nat×Nat)}:∀{ps:qJ}{pv:List (Nat×Value)}{cs out:qs}{vs:qE},ps.length=pv.length ->
 (∀(i:Nat) p q,ps[i]?=some p->pv[i]?=some q->p.1=q.1/\VR G p.2 q.2)->cp G cs vs->rr J cs ps=some out ->
 ∃o,Instr.fill J vs.toArray pv=some o.toArray/\cp G out o
 |[],[],cs,out,vs,_,_,hv,h=>by
  simp only[rr,aJ]at h;subst h;exact⟨vs,rfl,hv⟩
 |[],q::pv,_,_,_,hl,_,_,_=>by simp at hl
 |p::ps,[],_,_,_,hl,_,_,_=>by simp at hl
 |(i,c)::ps,(i',v)::pv,cs,out,vs,hl,hp,hv,h=>by
  obtain⟨rfl,Y⟩:=hp 0 (i,c) (i',v) rfl rfl;simp only[]at Y;simp only[rr]at h;split at h
  .simp at h
  .rename_i I Z O;split at h
   .simp at h
   .rename_i V;have U:=Y.cells;have M:v.cells.size=c.cells.length:=by rw[U.1];simp
    have g:v.cells.size=Z/\I+v.cells.size<=vs.length:=by
     rw[M,<-hv.1];constructor
     .apply EA;intro C;exact V (.inl C)
     .apply EA;intro C;exact V (.inr ac)
    obtain⟨o,z,h2⟩:=Bv (ps:=ps) (pv:=pv) (cs:=Ab.splice cs I c.cells) (out:=out) (vs:=vs.take I++v.cells.toList++vs.drop (I+v.cells.toList.length))
     (by simpa using hl) (fun j p q m K=>hp (j+1) p q wS wU) (hv.splice U I) h
    refine⟨o,?_,h2⟩;simp only[Instr.fill,O];rw[af ca];rw[<-z]
    congr 1
    apply m1;have L:=Jq I v.cells.toList 0 vs.toArray ca;simp only[tF]at L;rw[List.toList_toArray,<-L];rw[<-Array.foldl_toList,Array.toList_zipIdx]
theorem Bw{E:aB}{a:Act}:∀{ps:List (Nat×Operand)}{out:qJ},(∀p∈ps,∀c,aV E p.2=some c->VR G c (a.eval p.2))->lC E ps=some out ->
 out.length=(ps.map fun x=>(x.1,a.eval x.2)).length/\∀(i:Nat) p q,out[i]?=some p->(ps.map fun x=>(x.1,a.eval x.2))[i]?=some q->p.1=q.1/\VR G p.2 q.2
 |[],out,_,h=>by
  simp only[lC,aJ]at h;subst h;exact⟨rfl,az⟩
 |(i,x)::ps,out,hE,h=>by
  simp only[lC]at h;split at h
  .rename_i v vs V U;simp only[aJ]at h;subst h;obtain⟨Z,g⟩:=Bw (ps:=ps) (out:=vs) (fun p hp=>hE p (by simp[hp])) U;refine⟨wV,fun j p q m K=>?_⟩;cases j with
   |zero=>
    simp at m K;subst m K;exact⟨rfl,hE (i,x) az v V⟩
   |succ j=>exact g j p q wS wU
  .simp at h
def Tb{ps:qJ}{pv:List (Nat×Value)}(hl:ps.length=pv.length)(hp:∀(i:Nat) p q,ps[i]?=some p->pv[i]?=some q->p.1=q.1/\VR G p.2 q.2)(h:dK P t ps=some c):
 ∃v,(Instr.build t pv.toArray).run P w=.ok v w/\VR G c v:=by
 unfold dK at h;split at h
 .rename_i z M I hd;split at h
  .rename_i j U;split at h
   .rename_i L K;simp only[aJ]at h;subst h;obtain⟨it,zv,zc,m,Z,Y,rfl⟩:=EG I;have V:=(w1 (G:=G) Y).cells;obtain⟨o,O,g⟩:=Bv hl hp V K;refine⟨.agg o.toArray,run_build w t _ _ ?_,.agg g.1 g.2⟩;simp only[Program.built,m,hd,Z];unfold I5 at U;rw[U];simp only[wW]at O;simpa using O
   .simp at h
  .simp at h
 .rename_i z n e I hd;split at h
  .rename_i s hs;split at h
   .rename_i L K;simp only[aJ]at h;subst h;obtain⟨it,zv,zc,m,Z,Y,rfl⟩:=EG I;have V:=(w1 (G:=G) Y).cells;obtain⟨ie,J,C⟩:=Jh hs;obtain⟨o,O,g⟩:=Bv hl hp V K;refine⟨.agg o.toArray,run_build w t _ _ ?_,.agg g.1 g.2⟩;simp only[Program.built,m,hd,Z,J,C];simp only[wW]at O;simpa using O
   .simp at h
  .simp at h
 .simp at h
theorem rep_get(z:qs):∀(n j:Nat),j<n*z.length->(jB z n)[j]?=z[j%z.length]?
 |0,j,h=>by simp at h
 |n+1,j,h=>by
  simp only[jB];by_cases m:j<z.length
  .rw[iw m,Nat.mod_eq_of_lt m]
  .have o:j<n*z.length+z.length:=by simpa [wX]using h
   rw[kN ac,rep_get z n (j-z.length) ac]
   congr 1
   exact(Nat.mod_eq_sub_mod ac).symm
theorem Bx(z:qs):∀n,(jB z n).length=n*z.length
 |0=>by simp[jB]
 |n+1=>by simp[jB,Bx z n,nf];omega
def EL{i:Array Value}(I:cp G z i.toList)(n:Nat):cp G (jB z n) (((Array.range (n*z.length)).map (i[·% i.size]!))).toList:=by
 have K:=I.1;refine⟨by simp[Bx],fun j c v hc V=>?_⟩;have m:j<n*z.length:=by
  have:=(eS.1 hc).1;rw[Bx]at this;exact this
 rw[rep_get z n j m]at hc;simp only[EB,Array.toList_range,fO,EC m,jo,aJ]at V;have g:0<z.length:=by
  rcases Nat.eq_zero_or_pos z.length with e|e
  .rw[e]at m;omega
  .exact e
 have O:j%z.length<z.length:=Nat.mod_lt _ g;have U:i.size=z.length:=by simpa using K.symm
 refine I.2 (j%z.length) c v hc ?_;rw[U]at V;rw[<-V];simp[U,O]
theorem Jr{J:Nat->Option (Nat×Nat)}:∀{Z:qJ}{Y z:qs},rr J Y Z=some z->z.length=Y.length
 |[],Y,z,h=>by simp only[rr,aJ]at h;rw[h]
 |(i,c)::Z,Y,z,h=>by
  simp only[rr]at h;split at h
  .simp at h
  .split at h
   .simp at h
   .rename_i hc;rw[Jr h,SF];apply EA;intro C;exact hc (.inr ac)
def Js{len:Nat}{ps:qJ}{pv:List (Nat×Value)}(j:ps.length=pv.length)(hp:∀(i:Nat) p q,ps[i]?=some p->pv[i]?=some q->p.1=q.1/\VR G p.2 q.2)
 (Z:dW P H t len ps=some (c,H')):pL P G w (Instr.buildSlice t len pv.toArray) id c H H':=by
 unfold dW at Z;split at Z
 .rename_i e hd;split at Z
  .rename_i s z L hz;split at Z
   .rename_i hc;obtain⟨h24,V⟩:=hc;split at Z
    .rename_i K I;simp only[cO]at Z;obtain⟨rfl,rfl⟩:=Z;obtain⟨zv,O,m⟩:=w7 hz;have U:=EL (m G) len;obtain⟨o,Y,g⟩:=Bv j hp U I;have C:o.length=len*s:=by
      rw[<-g.1,Jr I,Bx,V]
     refine⟨.cells K 0 true,.cells (o++[]).toArray e,o.length+0,.slice (some ⟨w.heap.size,0,none⟩) len len,rfl,?_,.cells K o [] e g,fun G' hG=>.sl hG (aO _) ac⟩;rw[jI];show _=Result.ok (Value.slice (some ⟨w.heap.size,0,none⟩) len len) _
     .have J:¬(len*s > 2^24):=by omega
      rw[V]at Y;by_cases M:len*s=0
      .rw[M]at Y;simp at Y;simp[Instr.buildSlice,dT hd,kT L,M,newRow];rw[show Array.map (fun _:Nat=>(default:Value)) (Array.range 0)=#[]from by simp,Y];rfl
      .simp only[wW]at Y;simp[Instr.buildSlice,dT hd,kT L,J,M,O,Y,newRow]
    .simp at Z
   .simp at Z
  .simp at Z
 .simp at Z
theorem Jt{l r:AV}{I cv:Value}(hl:VR G l I)(hc:VR G c cv)(O:j0 P H t l c=some (r,H')):
 pL P G w (Instr.makeSlice t I cv) id r H H':=by
 unfold j0 at O;split at O
 .rename_i e k1 l k2 c hd;cases hl;cases hc;split at O
  .rename_i s b z j hb hz;split at O
   .rename_i V;obtain⟨L,h2,h3,h4⟩:=V;simp only[cO]at O;obtain⟨rfl,rfl⟩:=O;obtain⟨Z,K,m⟩:=w7 hz;obtain⟨i,hi,U⟩:∃i,P.info? e=some i/\i.bytes=b:=by simpa [dk,pK]using hb
    have O:dX=70368744177664:=rfl;rw[O]at h2 h3;have Y:=EL (m G) l;have M:((Array.range (c*s)).map (Z.cells[·% Z.cells.size]!)).toList=((Array.range (l*s)).map (Z.cells[·% Z.cells.size]!)).toList++(((Array.range (c*s)).map (Z.cells[·% Z.cells.size]!)).toList.drop (l*s)):=by
     have o:l*s<=c*s:=yw _ L
     conv=>lhs;rw[<-ED (l*s) ((Array.range (c*s)).map (Z.cells[·% Z.cells.size]!)).toList]
     congr 1
     simp only[EB,Array.toList_range,<-List.map_take];rw[List.take_range,Nat.min_eq_left o]
    rw[h4]at Y;have C:zf5 G (.cells (jB z l) 0 true) _ _:=.cells _ _ (((Array.range (c*s)).map (Z.cells[·% Z.cells.size]!)).toList.drop (l*s)) e Y;rw[<-M,wW]at C;refine⟨_,_,_,.slice (some ⟨w.heap.size,0,none⟩) l c,rfl,?_,C,fun G' hG=>.sl hG L ?_⟩
    .show _=Result.ok (Value.slice (some ⟨w.heap.size,0,none⟩) l c) _;have dd:IntKind.i64.wrap (l:Int)=l:=yx _ ac;have w2:IntKind.i64.wrap (c:Int)=c:=yx _ ac;have J:¬((b:Int)*c > 2^48):=by
      have:(b:Int)*c=((c*b:Nat):Int):=by rw[Nat.mul_comm];simp
      rw[this];omega
     have h5:¬((281474976710656:Int)<(b:Int)*c):=by simpa using J
     have h6:¬(c<l):=ac;have p1:¬((c:Int)<0):=ac;have p2:¬((l:Int)<0):=ac;simp only[Instr.makeSlice,fh,dT hd,fo,asInt,asIntOf];by_cases h0:c*s=0
     .simp[tH hi,U,dd,w2,h5,h6,p1,p2,kT j,h0,newRow];rw[show ∀f g:Nat->Value,Array.map f (Array.range 0)=Array.map g (Array.range 0)from fun f g=>az]
     .simp[tH hi,U,dd,w2,h5,h6,p1,p2,kT j,h0,K,newRow]
    .have o:l*s<=c*s:=yw _ L;simp;omega
   .simp at O
  .simp at O
 .simp at O
end
end Go.Ab
