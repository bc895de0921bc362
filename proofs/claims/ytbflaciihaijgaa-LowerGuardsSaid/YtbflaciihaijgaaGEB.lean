/- Lemmas for the last file. -/
import Derived.Laws.Tables
import Derived.Lib.Strings
import Derived.Test.YtbflaciihaijgaaGEA
import Derived.WalkKit
set_option linter.all false
set_option maxHeartbeats 32000000
namespace Go.Ab
set_option maxRecDepth 20000
open Go
abbrev qK:=Option Value
abbrev qt:=List Value
variable{qd:Prop}
def aE(h:qd:=by simp):=h
def wX(h:qd:=by simpa using hc):=h
def pr(h:qd:=by simpa using Y):=h
def ac(h:qd:=by omega):=h
def jh(h:qd:=by rw[<- k r _ hr];exact hc):=h
def co(h:qd:=by simp;omega):=h
def zY(h:qd:=by have:=h.b8 _ _ o;omega):=h
def jB(h:qd:=by rw[aJ,if_pos rfl]):=h
def eT(h:qd:=by rw[Hp.get_set,if_pos rfl]):=h
def uS(h:qd:=by simp only[dr];omega):=h
def jV(h:qd:=by rw[Hp.get_set,if_neg z]):=h
def pw(h:qd:=by simpa using I):=h
def Dc(h:qd:=by simpa [Instr.loadAt,Instr.sureAddr]using Z):=h
def kB(h:qd:=by simpa using Z):=h
def zZ(h:qd:=by rw[Nat.add_assoc];exact .ptr hr):=h
def ob(h:qd:=by constructor):=h
def tf(h:qd:=by simp[binOp,Op.stringOp,ByteArray.toList_eq]):=h
def og(h:qd:=by assumption):=h
def z0(h:qd:=by rw[<- Nat.add_mul];congr 1;omega):=h
def uT(h:qd:=by simpa using m):=h
def fC(h:qd:=by rw[aJ,if_neg ac]):=h
def kC:=@List.getElem?_append_left
def lC:=@List.getElem?_append_right
def mY:=@List.getElem?_take
def aB:=@if_pos
def az:=@Nat.le_refl
def dq:=@Nat.le_trans
def jW:=@Nat.lt_of_lt_of_le
def gM:=@Nat.eq_of_beq_eq_true
def z6:=@Nat.ne_of_beq_eq_false
def my:=@decide_true
def iC:=@decide_false
def ao:=@if_neg
def aC:=@Option.some.injEq
def hZ:=@Nat.blt_eq
def gN:=@Array.getD_eq_getD_getElem?
def rI:=@Array.getElem?_setIfInBounds
def eG:=@Prod.mk.injEq
def dx:=@List.getElem?_eq_some_iff
def bc:=@List.getElem?_eq_getElem
def bX:=@Nat.zero_add
def wY:=@Go.RowKit.Below.heap_alloc
def dB:=@Nat.le_succ
def z7:=@List.take_append_of_le_length
def fk:=@List.take_of_length_le
def z8:=@List.drop_of_length_le
def em:=@List.length_append
def iD:=@List.length_take
def cy:=@List.length_cons
def fP:=@List.length_nil
def z9:=@List.drop_drop
def mZ:=@List.nil_append
def lD:=@List.append_assoc
def px:=@List.getElem?_drop
def dy:=@Go.Sem.run_bind
def iE:=@Nat.add_assoc
def ib:=@List.length_drop
def bT:=@Option.bind_eq_some_iff
def eI:=@Option.map_eq_some_iff
def dC:=@Go.Result.andThen_ok
def cg:=@if_true
def iF:=@Go.Sem.run_pure
def jX:=@Array.ext'
def Aa:=@List.getElem_of_mem
def gk:=@List.all_eq_true
def dU:=@List.getElem_mem
def Ac:=@Bool.eq_iff_iff
def lE:=@beq_iff_eq
def py:=@Bool.true_eq_false
def cm:=@if_false
def ig:=@Bool.or_eq_false_iff
def rJ:=@Nat.sub_self
def iG:=@Option.map_some
def jY:=@congrArg
def db:=@Nat.zero_le
def lF:=@Nat.add_mul
def Dd:=@Array.toList_setIfInBounds
def kD:=@List.take_add_one
def Ad:=@Decidable.byContradiction
def kE:=@Nat.add_zero
def tg:=@Array.toArray_toList
def uU:=@Nat.succ_mul
def Ae:=@Array.toList_map
def ii:=@List.getElem?_map
def ij:=@List.append_nil
def uV:=@Nat.mul_le_mul_right
def Af:=@List.take_append_drop
def th:=@Nat.min_eq_left
def rK:=@Go.IntWalk.i64_in
def b9:=And.intro @aC.{0} @eG.{0,0}
end Go.Ab
namespace Go.Ab
set_option maxRecDepth 20000
open Go Go.RowKit
structure Gh where
 β:Nat->Option (Nat×Nat×Nat)
 F:Nat->Nat->qK
 ρ:Nat->Int
structure Bs where
 dm:Nat
 ρ:Nat->Int
 bN:Cfg
variable{G O:Gh}{c x a y:AV}{v M W Z U I:Value}{cs z:ql}{vs:qt}{w w':World}{B:Bs}{H H' X:Hp}{o b j i:Nat}{P:Program}{s:Sem Value}{d:TypeDesc}{t:TypeId}{k:IntKind}{L:Array Value}{D:BinOp->Sx->Sx->qA}{V:Operand}{lo J:qr}
def kF(D:BinOp->Sx->Sx->qA)(ρ:Nat->Int):Prop:=∀m k a b r,D m a b=some r->hO m k (a.eval ρ) (b.eval ρ)=some (.bool r)
inductive VR (G:Gh):AV->Value->Prop
 |int (k:IntKind) (n:Int):VR G (.int k n) (.int k n)
 |sx (k:IntKind) (e:Sx):VR G (.sx k e) (.int k (e.eval G.ρ))
 |bool (b:Bool):VR G (.bool b) (.bool b)
 |ag (s:ByteArray) (l:qn) (h:s.data.toList=l):VR G (.ag l) (.string s)
 |bl:VR G .bl (.pointer none)
 |a6:VR G .a6 (.map none)
 |bz:VR G .bz .nilFunc
 |aa:VR G .aa (.slice none 0 0)
 |ptr {r off b o x:Nat} (h:G.β r=some (b,o,x)):VR G (.ptr r off) (.pointer (some ⟨b,o+off,none⟩))
 |a2 {cs:ql}{b o:Nat} (vs:Nat->Value) (hF:∀j,j<cs.length->G.F b (o+j)=some (vs j))
  (hv:∀(j:Nat) (c:AV),cs[j]?=some c->VR G c (vs j)):VR G (.a2 cs) (.pointer (some ⟨b,o,none⟩))
 |sl {r off len z b o x cap:Nat} (h:G.β r=some (b,o,x)) (hl:len<=cap) (hc:off+cap*z<=x) :
  VR G (.sl r off len z) (.slice (some ⟨b,o+off,none⟩) len cap)
 |aq {xs:List ql}{b o cap z:Nat} (vs:Nat->Nat->Value) (hz:∀(i:Nat) (row:ql),xs[i]?=some row->row.length=z)
  (hF:∀i j,i<xs.length->j<z->G.F b (o+i*z+j)=some (vs i j))
  (hv:∀(i j:Nat) (row:ql) (c:AV),xs[i]?=some row->row[j]?=some c->VR G c (vs i j)) (hc:xs.length<=cap) :
  VR G (.aq xs) (.slice (some ⟨b,o,none⟩) xs.length cap)
 |lst0 (a:Option Addr) (cap:Nat):VR G (.aq []) (.slice a 0 cap)
 |map {r b o x:Nat} (h:G.β r=some (b,o,x)):VR G (.map r) (.map (some b))
 |a9 {f:Nat}{cs:ql}{vs:qt} (hl:cs.length=vs.length) (hv:∀(i:Nat) c v,cs[i]?=some c->vs[i]?=some v->VR G c v) :
  VR G (.a9 f cs) (.func (.func f) #[] vs.toArray)
 |agg {cs:ql}{vs:qt} (hl:cs.length=vs.length) (hv:∀(i:Nat) c v,cs[i]?=some c->vs[i]?=some v->VR G c v) :
  VR G (.agg cs) (.agg vs.toArray)
 |aO {cs:ql}{vs:qt} (hl:cs.length=vs.length) (hv:∀(i:Nat) c v,cs[i]?=some c->vs[i]?=some v->VR G c v) :
  VR G (.aO cs) (.tuple vs.toArray)
def bZ(G:Gh)(cs:ql)(vs:qt):Prop:=cs.length=vs.length/\∀(i:Nat) c v,cs[i]?=some c->vs[i]?=some v->VR G c v
def bZ.nil(G:Gh):bZ G [] []:=⟨rfl,aE⟩
def m0:=@bZ.nil
def bZ.cons(h:VR G c v)(U:bZ G cs vs):bZ G (c::cs) (v::vs):=by
 refine⟨by simp[U.1],fun i J I hc Y=>?_⟩;cases i with
 |zero=>simp at hc Y;subst hc Y;exact h
 |succ i=>exact U.2 i J I wX pr
def lG:=@bZ.cons
def bZ.a0(h:bZ G (c::cs) (v::vs)):VR G c v/\bZ G cs vs:=
 ⟨h.2 0 c v rfl rfl,by simpa using h.1,fun i J I hc Y=>h.2 (i+1) J I wX pr⟩
def bZ.append{ds:ql}{I:qt}(h:bZ G cs vs)(U:bZ G ds I):bZ G (cs++ds) (vs++I):=by
 refine⟨by simp[h.1,U.1],fun i c v hc Y=>?_⟩;have W:=h.1;by_cases J:i<cs.length
 .rw[kC J]at hc;rw[kC ac]at Y;exact h.2 i c v hc Y
 .rw[lC ac]at hc;rw[lC ac]at Y;rw[<-W]at Y;exact U.2 _ c v hc Y
def bZ.drop(h:bZ G cs vs)(n:Nat):bZ G (cs.drop n) (vs.drop n):=
 ⟨by simp[h.1],fun i c v hc Y=>h.2 (n+i) c v wX pr⟩
def bZ.take(h:bZ G cs vs)(n:Nat):bZ G (cs.take n) (vs.take n):=by
 refine⟨by simp[h.1],fun i c v hc Y=>?_⟩;rw[mY]at hc Y;split at hc
 .rename_i J;rw[aB J]at Y;exact h.2 i c v hc Y
 .simp at hc
structure Ext (G G':Gh):Prop where
 β:∀r p,G.β r=some p->G'.β r=some p
 F:∀b o v,G.F b o=some v->G'.F b o=some v
 ρ:G'.ρ=G.ρ
def Ext.refl(G:Gh):Ext G G:=⟨fun _ _ h=>h,fun _ _ _ h=>h,rfl⟩
def ti:=@Ext.refl
def Ext.trans{a b c:Gh}(h:Ext a b)(k:Ext b c):Ext a c:=⟨fun r p hp=>k.β r p (h.β r p hp),fun x y v Y=>k.F x y v (h.F x y v Y),k.ρ.trans h.ρ⟩
def VR.mono{Z:Gh}(e:Ext G Z)(h:VR G c v):VR Z c v:=by
 induction h with
 |int k n=>exact .int k n
 |sx k x=>rw[<-e.ρ];exact .sx k x
 |bool b=>exact .bool b
 |ag s l h=>exact .ag s l h
 |bl=>exact .bl
 |a6=>exact .a6
 |bz=>exact .bz
 |aa=>exact .aa
 |ptr h=>exact .ptr (e.β _ _ h)
 |a2 vs V _ ih=>exact .a2 vs (fun j I=>e.F _ _ _ (V j I)) ih
 |sl h W hc=>exact .sl (e.β _ _ h) W hc
 |aq vs z V _ hc ih=>exact .aq vs z (fun i j J I=>e.F _ _ _ (V i j J I)) ih hc
 |lst0 a O=>exact .lst0 a O
 |map h=>exact .map (e.β _ _ h)
 |a9 W _ ih=>exact .a9 W ih
 |agg W _ ih=>exact .agg W ih
 |aO W _ ih=>exact .aO W ih
def bZ.mono(e:Ext G O){c:ql}{v:qt}(h:bZ G c v):bZ O c v:=⟨h.1,fun i a b J C=>(h.2 i a b J C).mono e⟩
theorem VR.bI(h:VR G c v):v.oneCell'=c.one:=by cases h<;>rfl
def VR.cells{G:Gh}{c:AV}{v:Value}(h:VR G c v):bZ G c.cells v.cells.toList:=by
 cases h with
 |agg W Y=>exact⟨by simpa [AV.cells,Value.cells]using W,by simpa [AV.cells,Value.cells]using Y⟩
 |_=>exact lG (by constructor<;>assumption) (m0 _)
def gl(G:Gh)(w:World)(b o:Nat)(cs:ql):Prop:=∀(j:Nat) (c:AV),cs[j]?=some c->∃v,w.cell? ⟨b,o+j,none⟩=some v/\VR G c v
def dr(x:Nat)(cs:ql):Bool->Nat
 |true=>x
 |false=>cs.length
def oh(G:Gh)(es:qJ)(ms:List MapEntry):Prop:=
 es.length=ms.length/\∀(i:Nat) e m,es[i]?=some e->ms[i]?=some m->VR G e.1 m.key/\VR G e.2 m.val
structure R (B:Bs) (H:Hp) (w:World) (G:Gh):Prop where
 bD:B.dm<=w.heap.size
 b8:∀r p,G.β r=some p->r<H.next
 lt:∀r b o x,G.β r=some (b,o,x)->B.dm<=b/\b<w.heap.size
 cells:∀r b o x cs imm tip,G.β r=some (b,o,x)->H.get r=some (.cells cs imm tip)->gl G w b o cs
 aY:∀r b o x cs imm tip,G.β r=some (b,o,x)->H.get r=some (.cells cs imm tip)->∀j,j<imm->j<cs.length->∃v,G.F b (o+j)=some v
 ext:∀r b o x cs imm tip,G.β r=some (b,o,x)->H.get r=some (.cells cs imm tip)->cs.length<=dr x cs tip
 bb:∀r b o x cs imm tip,G.β r=some (b,o,x)->H.get r=some (.cells cs imm tip)->∀j,imm<=j->j<dr x cs tip ->
  (∃v,w.cell? ⟨b,o+j,none⟩=some v)/\w.frozen? ⟨b,o+j,none⟩=false/\G.F b (o+j)=none
 apart:∀r b o x cs imm tip r' b' o' x' cs' imm' tip',G.β r=some (b,o,x)->H.get r=some (.cells cs imm tip) ->
  G.β r'=some (b',o',x')->H.get r'=some (.cells cs' imm' tip')->r≠r' ->
  ∀j j',imm<=j->j<dr x cs tip->imm'<=j'->j'<dr x' cs' tip'->b=b'->o+j≠o'+j'
 map:∀r b o x es,G.β r=some (b,o,x)->H.get r=some (.map es)->∃ms clock,w.heap[b]?=some (.map ms clock)/\oh G es ms.toList
 aS:∀r b o x es r' b' o' x',G.β r=some (b,o,x)->H.get r=some (.map es)->G.β r'=some (b',o',x')->(H.get r').isSome->r≠r'->b≠b'
 b1:∀b o v,G.F b o=some v->w.cell? ⟨b,o,none⟩=some v
 val:G.ρ=B.ρ
 cz:kF B.bN.b9 B.ρ
 bm:∀r b o x cs imm tip,G.β r=some (b,o,x)->H.get r=some (.cells cs imm tip)->cs.length<=x
structure Fr (G:Gh) (w w':World):Prop where
 os:w'.os=w.os
 tape:w'.tape=w.tape
 output:w'.output=w.output
 size:w.heap.size<=w'.heap.size
 block:∀k,k<w.heap.size->(∀r b o x,G.β r=some (b,o,x)->b≠k)->w'.heap[k]?=w.heap[k]?
def Fr.refl(G:Gh)(w:World):Fr G w w:=⟨rfl,rfl,rfl,az _,fun _ _ _=>rfl⟩
def uW:=@Fr.refl
def ol(G O:Gh)(w:World):Prop:=∀r b o x,O.β r=some (b,o,x)->G.β r=some (b,o,x)\/w.heap.size<=b\/∃Z J Y,G.β Z=some (b,J,Y)
def Fr.trans{a b c:World}(h:Fr G a b)(k:Fr O b c)(n:ol G O a):Fr G a c:=
 ⟨k.os.trans h.os,k.tape.trans h.tape,k.output.trans h.output,dq h.size k.size,fun i J M=>
  (k.block i (jW J h.size) (fun r b o x hr z=>by
    rcases n r b o x hr with Z|Z|⟨Y,W,V,Z⟩
    .exact M r b o x Z z
    .omega
    .exact M Y b W V Z z)).trans (h.block i J M)⟩
def ol.refl(G:Gh)(w:World):ol G G w:=fun _ _ _ _ h=>.inl h
def rL:=@ol.refl
def ol.trans{M:Gh}(h:ol G O w)(k:ol O M w')(U:w.heap.size<=w'.heap.size):ol G M w:=fun r b o x hr=>by
 rcases k r b o x hr with Z|Z|⟨Y,J,W,Z⟩
 .exact h r b o x Z
 .exact .inr (.inl ac)
 .rcases h Y b J W Z with m|m|m
  .exact .inr (.inr ⟨Y,J,W,m⟩)
  .exact .inr (.inl m)
  .exact .inr (.inr m)
structure Step (B:Bs) (nx:Nat) (G:Gh) (w:World) (H':Hp) (w':World) (G':Gh):Prop where
 r:R B H' w' G'
 ext:Ext G G'
 fr:Fr G w w'
 new:ol G G' w
 bS:∀r p,G'.β r=some p->G.β r=some p\/nx<=r
 mono:nx<=H'.next
 dj:∀b o v,G'.F b o=some v->G.F b o=some v\/B.dm<=b
variable{r:Nat}
def Step.refl(h:R B H w G):Step B H.next G w H w G:=⟨h,ti _,uW _ _,rL _ _,fun _ _ h=>.inl h,az _,fun _ _ _ h=>.inl h⟩
def ik:=@Step.refl
def Step.trans{W:Nat}{Y:Hp}{V M:Gh}{O:World}(h:Step B W G w H' w' V)(k:Step B H'.next V w' Y O M):Step B W G w Y O M:=
 ⟨k.r,h.ext.trans k.ext,h.fr.trans k.fr h.new,h.new.trans k.new h.fr.size,fun r p hr=>by
  rcases k.bS r p hr with Z|Z
  .exact h.bS r p Z
  .exact .inr (dq h.mono Z),dq h.mono k.mono,fun b o v U=>by
  rcases k.dj b o v U with Z|Z
  .exact h.dj b o v Z
  .exact .inr Z⟩
structure TR (N:Nat) (G:Gh) (E:ax) (a:Act):Prop where
 size:a.tmps.size=N
 bp:∀t,VR G (E.at t) (a.tmps.getD t undef)
def TR.mono{N:Nat}{E:ax}{a:Act}(e:Ext G O)(h:TR N G E a):TR N O E a:=⟨h.size,fun t=>(h.bp t).mono e⟩
def VR.undef(G:Gh):VR G cT Go.undef:=.aO (cs:=[]) (vs:=[]) rfl aE
def uX:=@VR.undef
@[simp] theorem oo {α:Type} (x y:α):iV true x y=x:=rfl
@[simp] theorem jZ {α:Type} (x y:α):iV false x y=y:=rfl
theorem uY{o:Type}(k:Nat):(T.e:T o).get k=none:=rfl
theorem rM{o:Type}(v:Option o)(l r:T o)(k:Nat):
 (T.n v l r).get k=iV (Nat.beq k 0) v (iV (Nat.beq (Nat.mod k 2) 1) (l.get (Nat.div k 2)) (r.get (Nat.sub (Nat.div k 2) 1))):=rfl
theorem KJ{o:Type}(v:Option o)(f:Nat)(t:T o)(k:Nat):rx v (f+1) t k=T.casesOn t
 (iV (Nat.beq k 0) (.n v .e .e) (iV (Nat.beq (Nat.mod k 2) 1) (.n none (rx v f .e (Nat.div k 2)) .e) (.n none .e (rx v f .e (Nat.sub (Nat.div k 2) 1)))))
 (fun u l r=>iV (Nat.beq k 0) (.n v l r) (iV (Nat.beq (Nat.mod k 2) 1) (.n u (rx v f l (Nat.div k 2)) r) (.n u l (rx v f r (Nat.sub (Nat.div k 2) 1))))):=rfl
def KK{o:Type}(v:Option o):∀(f:Nat) (t:T o) (k j:Nat),k<f->(rx v f t k).get j=if j=k then v else t.get j:=by
 intro f;induction f with
 |zero=>intro t k j h;omega
 |succ f ih=>
  intro t k j h;have hd:∀n:Nat,Nat.div n 2=n/2:=fun _=>rfl;have Z:∀n:Nat,Nat.mod n 2=n%2:=fun _=>rfl;have U:∀n:Nat,Nat.sub n 1=n-1:=fun _=>rfl;have L:∀n m:Nat,Nat.beq n m=decide (n=m):=fun n m=>by
   cases h:Nat.beq n m with
   |true=>have e:=gM h;simp[e]
   |false=>have e:=z6 h;simp[e]
  rw[KJ];cases t with
  |e=>
   simp only[];by_cases M:k=0
   .subst M;simp only[L,my,oo,rM,uY];by_cases I:j=0<;>simp[I] ;cases decide (j.mod 2=1)<;>rfl
   .simp only[L,M,iC,jZ];by_cases V:Nat.mod k 2=1
    .simp only[V,my,oo,rM,L];by_cases O:j=0
     .subst O;simp[uY];omega
     .simp only[O,iC,jZ];by_cases J:Nat.mod j 2=1
      .simp only[J,my,oo];rw[ih _ _ _ (by rw[hd];omega)];rw[hd,hd,Z]at *;by_cases e:j=k
       .subst e;simp
       .rw[ao ac,ao e];rfl
      .simp only[J,iC,jZ,uY];rw[ao (by rintro rfl;exact J V)]
    .simp only[V,iC,jZ,rM,L];by_cases O:j=0
     .subst O;simp[uY];omega
     .simp only[O,iC,jZ];by_cases J:Nat.mod j 2=1
      .simp only[J,my,oo,uY];rw[ao (by rintro rfl;exact V J)]
      .simp only[J,iC,jZ];rw[ih _ _ _ (by rw[hd,U];omega)];rw[hd,hd,U,U];rw[Z]at V J;by_cases e:j=k
       .subst e;simp
       .rw[ao ac,ao e];rfl
  |n u l r=>
   simp only[];by_cases M:k=0
   .subst M;simp only[L,my,oo,rM];by_cases I:j=0<;>simp[I]
   .simp only[L,M,iC,jZ];by_cases V:Nat.mod k 2=1
    .simp only[V,my,oo,rM,L];by_cases O:j=0
     .subst O;simp;omega
     .simp only[O,iC,jZ];by_cases J:Nat.mod j 2=1
      .simp only[J,my,oo];rw[ih _ _ _ (by rw[hd];omega)];rw[Z]at V J;rw[hd,hd];by_cases e:j=k
       .subst e;simp
       .rw[ao ac,ao e]
      .simp only[J,iC,jZ];rw[ao (by rintro rfl;exact J V)]
    .simp only[V,iC,jZ,rM,L];by_cases O:j=0
     .subst O;simp;omega
     .simp only[O,iC,jZ];by_cases J:Nat.mod j 2=1
      .simp only[J,my,oo];rw[ao (by rintro rfl;exact V J)]
      .simp only[J,iC,jZ];rw[ih _ _ _ (by rw[hd,U];omega)];rw[Z]at V J;rw[hd,hd,U,U];by_cases e:j=k
       .subst e;simp
       .rw[ao ac,ao e]
def T.get_set{o:Type}(t:T o)(k j:Nat)(v:Option o):(t.set k v).get j=if j=k then v else t.get j:=KK v (k+1) t k j ac
def wZ:=@T.get_set
def Hp.get_set(h:Hp)(r j:Nat)(b:HB):(h.set r b).get j=if j=r then some b else h.get j:=wZ _ _ _ _
def bi:=@Hp.get_set
def fD(h:Hp)(r j:Nat):(h.aU r).get j=if j=r then none else h.get j:=wZ _ _ _ _
def aJ(h:Hp)(j:Nat)(b:HB):(h.alloc b).get j=if j=h.next then some b else h.get j:=wZ _ _ _ _
@[simp] theorem bJ (h:Hp) (r:Nat) (b:HB):(h.set r b).next=h.next:=rfl
@[simp] theorem rN (h:Hp) (r:Nat):(h.aU r).next=h.next:=rfl
@[simp] theorem bj (h:Hp) (b:HB):(h.alloc b).next=h.next+1:=rfl
theorem tj(E:ax)(d t:Nat)(v:AV):ax.at (T.set E d (some v)) t=if t=d then v else E.at t:=by
 unfold ax.at;rw[wZ];split<;>rfl
def TR.put{N:Nat}{G:Gh}{E O:ax}{a:Act}(h:TR N G E a){V:Option Tmp}{c:AV}{v:Value}(Y:VR G c v)(Z:dH N E V c=some O):TR N G O (a.put V v):=by
 cases V with
 |none=>simp[dH]at Z;subst Z;exact h
 |some d=>
  simp only[dH]at Z;split at Z
  .rename_i hd;simp only[aC]at Z;subst Z;have U:d<N:=by simpa [hZ]using hd
   refine⟨by simp[Act.put,h.size],fun t=>?_⟩;rw[tj];simp only[Act.put];by_cases e:t=d
   .subst e;rw[aB rfl];simpa [Array.getD,h.size,U]using Y
   .rw[ao e];have:=h.bp t;simpa [gN,rI,Ne.symm e]using this
  .simp at Z
def lH(h:w.cell? ⟨b,o,none⟩=some v):b<w.heap.size:=World.block_lt_of_cell? w ⟨b,o,none⟩ h
def R.congr(h:R B H w G)(M:H'.next=H.next)(C:∀r,(G.β r).isSome->H'.get r=H.get r):R B H' w G:=by
 have k:∀r p,G.β r=some p->H'.get r=H.get r:=fun r p hr=>C r (by simp[hr]);exact{
  bD:=h.bD
  b8:=fun r p hr=>by rw[M];exact h.b8 r p hr
  lt:=h.lt
  cells:=fun r b o x cs imm Z hr hc=>h.cells r b o x cs imm Z hr jh
  aY:=fun r b o x cs imm Z hr hc=>h.aY r b o x cs imm Z hr jh
  ext:=fun r b o x cs imm Z hr hc=>h.ext r b o x cs imm Z hr jh
  bm:=fun r b o x cs imm Z hr hc=>h.bm r b o x cs imm Z hr jh
  bb:=fun r b o x cs imm Z hr hc=>h.bb r b o x cs imm Z hr jh
  apart:=fun r b o x cs imm Z Y b' J V I L W hr hc z U=>h.apart r b o x cs imm Z Y b' J V I L W hr jh z (by rw[<-k Y _ z];exact U)
  map:=fun r b o x O hr hc=>h.map r b o x O hr jh
  aS:=fun r b o x O Y b' J V hr hc z m=>h.aS r b o x O Y b' J V hr jh z (by rw[<-k Y _ z];exact m)
  b1:=h.b1
  val:=h.val
  cz:=h.cz}
def R.aU{B:Bs}{H:Hp}{w:World}{G:Gh}(h:R B H w G)(bG:Nat):R B (H.aU bG) w G:=by
 have k:∀j b,(H.aU bG).get j=some b->H.get j=some b:=fun j b I=>by
  rw[fD]at I;split at I
  .simp at I
  .exact I
 exact{
  bD:=h.bD
  b8:=h.b8
  lt:=h.lt
  cells:=fun r b o x cs imm Z hr hc=>h.cells r b o x cs imm Z hr (k _ _ hc)
  aY:=fun r b o x cs imm Z hr hc=>h.aY r b o x cs imm Z hr (k _ _ hc)
  ext:=fun r b o x cs imm Z hr hc=>h.ext r b o x cs imm Z hr (k _ _ hc)
  bm:=fun r b o x cs imm Z hr hc=>h.bm r b o x cs imm Z hr (k _ _ hc)
  bb:=fun r b o x cs imm Z hr hc=>h.bb r b o x cs imm Z hr (k _ _ hc)
  apart:=fun r b o x cs imm Z W b' J V U L Y hr hc z O=>h.apart r b o x cs imm Z W b' J V U L Y hr (k _ _ hc) z (k _ _ O)
  map:=fun r b o x M hr hc=>h.map r b o x M hr (k _ _ hc)
  aS:=fun r b o x M W b' J V hr hc z m=>h.aS r b o x M W b' J V hr (k _ _ hc) z (by
   cases C:(H.aU bG).get W with
   |none=>simp[C]at m
   |some b=>rw[k _ _ C];rfl)
  b1:=h.b1
  val:=h.val
  cz:=h.cz}
def Gh.add(G:Gh)(r:Nat)(p:Nat×Nat×Nat):Gh:={β:=fun k=>if k=r then some p else G.β k,F:=G.F,ρ:=G.ρ}
def oq(G:Gh)(r:Nat)(p:Nat×Nat×Nat):(G.add r p).β r=some p:=by simp[Gh.add]
def Ag{p:Nat×Nat×Nat}(h:∀q,G.β r=some q->False):Ext G (G.add r p):=
 ⟨fun k q z=>by
  simp only[Gh.add];split
  .rename_i e;subst e;exact(h q z).elim
  .exact z,fun _ _ _ h=>h,rfl⟩
def gl.mono(e:Ext G O)(h:gl G w b o cs):gl O w b o cs:=
 fun j c I=>let ⟨v,Z,m⟩:=h j c I;⟨v,Z,m.mono e⟩
def oh.mono{es:qJ}{ms:List MapEntry}(e:Ext G O)(h:oh G es ms):oh O es ms:=
 ⟨h.1,fun i a b J C=>⟨(h.2 i a b J C).1.mono e,(h.2 i a b J C).2.mono e⟩⟩
def De{nx bG:Nat}(h:R B X w G)(hno:∀q,G.β bG=some q->False)(hlt0:bG<X.next)(W:X.get bG=some (.cells cs 0 true))(hnx:nx<=bG)
 (hv:bZ G cs vs) (Y:qt) (e:TypeId) :
 Step B nx G w X (w.alloc (.cells (vs++Y).toArray e)) (G.add bG (w.heap.size,0,vs.length+Y.length)):=by
 have L:Ext G (G.add bG (w.heap.size,0,vs.length+Y.length)):=Ag hno;have C:∀k b' o',k<w.heap.size->b'=k->(w.alloc (.cells (vs++Y).toArray e)).cell? ⟨b',o',none⟩=w.cell? ⟨b',o',none⟩:=fun k b' o' hk hb=>World.cell?_alloc_lt _ _ _ (by simpa [hb]using hk);have hnew:∀j,(w.alloc (.cells (vs++Y).toArray e)).cell? ⟨w.heap.size,j,none⟩=(vs++Y)[j]?:=fun j=>by
  rw[World.cell?_alloc_new];simp
 have O:∀r p,(G.add bG (w.heap.size,0,vs.length+Y.length)).β r=some p->(r=bG/\p=(w.heap.size,0,vs.length+Y.length))\/(r≠bG/\G.β r=some p):=fun r p hr=>by
  simp only[Gh.add]at hr;split at hr
  .rename_i e;exact .inl ⟨e,by simpa using hr.symm⟩
  .rename_i e;exact .inr ⟨e,hr⟩
 refine⟨?_,L,⟨rfl,rfl,rfl,aE,fun k hk _=>?_⟩,fun r b o x hr=>?_,fun r p hr=>(O r p hr).elim (fun e=>.inr (by rw[e.1];exact hnx)) (fun e=>.inl e.2),ac,fun _ _ _ h=>.inl h⟩
 .exact{
   bD:=by have:=h.bD;simp;omega
   b8:=fun r p hr=>by
    rcases O r p hr with⟨rfl,_⟩|⟨_,z⟩
    .exact hlt0
    .exact h.b8 r p z
   lt:=fun r b o x hr=>by
    rcases O r _ hr with⟨rfl,hp⟩|⟨_,z⟩
    .simp only[eG]at hp;obtain⟨rfl,rfl,rfl⟩:=hp;exact⟨h.bD,aE⟩
    .have:=h.lt r b o x z;exact⟨this.1,co⟩
   cells:=fun r b o x I imm Z hr hc=>by
    rcases O r _ hr with⟨rfl,hp⟩|⟨V,z⟩
    .simp only[eG]at hp;obtain⟨rfl,rfl,rfl⟩:=hp;rw[W]at hc;simp only[aC,HB.cells.injEq]at hc;obtain⟨rfl,rfl,rfl⟩:=hc;intro j c m;have M:j<cs.length:=(dx.1 m).1;have hjv:j<vs.length:=by have:=hv.1;omega
     refine⟨vs[j],?_,(hv.2 j c _ m (bc hjv)).mono L⟩;rw[bX,hnew,kC hjv,bc hjv]
    .intro j c m;obtain⟨v,h1,h2⟩:=h.cells r b o x I imm Z z hc j c m;exact⟨v,by rw[C _ _ _ (lH h1) rfl];exact h1,h2.mono L⟩
   aY:=fun r b o x I imm Z hr hc j m M=>by
    rcases O r _ hr with⟨rfl,hp⟩|⟨V,z⟩
    .rw[W]at hc;simp only[aC,HB.cells.injEq]at hc;obtain⟨rfl,rfl,rfl⟩:=hc;omega
    .exact h.aY r b o x I imm Z z hc j m M
   ext:=fun r b o x I imm Z hr hc=>by
    rcases O r _ hr with⟨rfl,hp⟩|⟨V,z⟩
    .simp only[eG]at hp;obtain⟨rfl,rfl,rfl⟩:=hp;rw[W]at hc;simp only[aC,HB.cells.injEq]at hc;obtain⟨rfl,rfl,rfl⟩:=hc;have:=hv.1;simp only[dr];omega
    .exact h.ext r b o x I imm Z z hc
   bm:=fun r b o x I imm Z hr hc=>by
    rcases O r _ hr with⟨rfl,hp⟩|⟨V,z⟩
    .simp only[eG]at hp;obtain⟨rfl,rfl,rfl⟩:=hp;rw[W]at hc;simp only[aC,HB.cells.injEq]at hc;obtain⟨rfl,rfl,rfl⟩:=hc;have:=hv.1;omega
    .exact h.bm r b o x I imm Z z hc
   bb:=fun r b o x I imm Z hr hc j m M=>by
    rcases O r _ hr with⟨rfl,hp⟩|⟨V,z⟩
    .simp only[eG]at hp;obtain⟨rfl,rfl,rfl⟩:=hp;rw[W]at hc;simp only[aC,HB.cells.injEq]at hc;obtain⟨rfl,rfl,rfl⟩:=hc;simp only[dr]at M;refine⟨⟨(vs++Y)[j]' co,?_⟩,?_,?_⟩
     .rw[bX,hnew,bc]
     .simp
     .cases hf:G.F w.heap.size (0+j)with
      |none=>exact hf
      |some v=>have:=lH (h.b1 _ _ _ hf);omega
    .obtain⟨⟨v,h1⟩,h2,h3⟩:=h.bb r b o x I imm Z z hc j m M;exact⟨⟨v,by rw[C _ _ _ (lH h1) rfl];exact h1⟩,by rw[World.frozen?_alloc_old _ _ _ (by have:=lH h1;simp;omega)];exact h2,h3⟩
   apart:=fun r b o x cs1 imm Z r' b' o' x' cs2 imm' tip' hr hc z hc' V j j' m M hj' hjl' he=>by
    rcases O r _ hr with⟨rfl,hp⟩|⟨hn1,U⟩
    .simp only[eG]at hp;obtain⟨rfl,rfl,rfl⟩:=hp;rcases O r' _ z with⟨rfl,hp⟩|⟨hn2,J⟩
     .exact(V rfl).elim
     .have:=(h.lt r' b' o' x' J).2;omega
    .rcases O r' _ z with⟨rfl,hp⟩|⟨hn2,J⟩
     .simp only[eG]at hp;obtain⟨rfl,rfl,rfl⟩:=hp;have:=(h.lt r b o x U).2;omega
     .exact h.apart r b o x cs1 imm Z r' b' o' x' cs2 imm' tip' U hc J hc' V j j' m M hj' hjl' he
   map:=fun r b o x es hr hc=>by
    rcases O r _ hr with⟨rfl,hp⟩|⟨V,z⟩
    .rw[W]at hc;simp at hc
    .obtain⟨ms,clock,h1,h2⟩:=h.map r b o x es z hc;refine⟨ms,clock,?_,h2.mono L⟩;rw[wY _ _ _ (h.lt r b o x z).2];exact h1
   aS:=fun r b o x es r' b' o' x' hr hc z hs V=>by
    rcases O r _ hr with⟨rfl,hp⟩|⟨hn1,U⟩
    .rw[W]at hc;simp at hc
    .rcases O r' _ z with⟨rfl,hp⟩|⟨hn2,J⟩
     .simp only[eG]at hp;obtain⟨rfl,rfl,rfl⟩:=hp;have:=(h.lt r b o x U).2;omega
     .exact h.aS r b o x es r' b' o' x' U hc J hs V
   b1:=fun b o v hf=>by
    have:=h.b1 b o v hf;rw[C _ _ _ (lH this) rfl];exact this
   val:=h.val
   cz:=h.cz}
 .exact wY _ _ _ hk
 .rcases O r _ hr with⟨rfl,hp⟩|⟨_,z⟩
  .simp only[eG]at hp;obtain⟨rfl,rfl,rfl⟩:=hp;exact .inr (.inl (az _))
  .exact .inl z
def Df{nx bG:Nat}(h:R B X w G)(hno:∀q,G.β bG=some q->False)(hlt0:bG<X.next)(W:X.get bG=some (.map []))(hnx:nx<=bG):
 Step B nx G w X (w.alloc (.map #[] 0)) (G.add bG (w.heap.size,0,0)):=by
 have L:Ext G (G.add bG (w.heap.size,0,0)):=Ag hno;have U:∀k b' C,k<w.heap.size->b'=k->(w.alloc (.map #[] 0)).cell? ⟨b',C,none⟩=w.cell? ⟨b',C,none⟩:=fun k b' C hk hb=>World.cell?_alloc_lt _ _ _ (by simpa [hb]using hk);have O:∀r p,(G.add bG (w.heap.size,0,0)).β r=some p->(r=bG/\p=(w.heap.size,0,0))\/(r≠bG/\G.β r=some p):=fun r p hr=>by
  simp only[Gh.add]at hr;split at hr
  .rename_i e;exact .inl ⟨e,by simpa using hr.symm⟩
  .rename_i e;exact .inr ⟨e,hr⟩
 refine⟨?_,L,⟨rfl,rfl,rfl,aE,fun k hk _=>?_⟩,fun r b o x hr=>?_,fun r p hr=>(O r p hr).elim (fun e=>.inr (by rw[e.1];exact hnx)) (fun e=>.inl e.2),ac,fun _ _ _ h=>.inl h⟩
 .exact{
   bD:=by have:=h.bD;simp;omega
   b8:=fun r p hr=>by
    rcases O r p hr with⟨rfl,_⟩|⟨_,z⟩
    .exact hlt0
    .exact h.b8 r p z
   lt:=fun r b o x hr=>by
    rcases O r _ hr with⟨rfl,hp⟩|⟨_,z⟩
    .simp only[eG]at hp;obtain⟨rfl,rfl,rfl⟩:=hp;exact⟨h.bD,aE⟩
    .have:=h.lt r b o x z;exact⟨this.1,co⟩
   cells:=fun r b o x I imm Z hr hc=>by
    rcases O r _ hr with⟨rfl,hp⟩|⟨Y,z⟩
    .rw[W]at hc;simp at hc
    .intro j c hj;obtain⟨v,m,h2⟩:=h.cells r b o x I imm Z z hc j c hj;exact⟨v,by rw[U _ _ _ (lH m) rfl];exact m,h2.mono L⟩
   aY:=fun r b o x I imm Z hr hc j hj M=>by
    rcases O r _ hr with⟨rfl,hp⟩|⟨Y,z⟩
    .rw[W]at hc;simp at hc
    .exact h.aY r b o x I imm Z z hc j hj M
   ext:=fun r b o x I imm Z hr hc=>by
    rcases O r _ hr with⟨rfl,hp⟩|⟨Y,z⟩
    .rw[W]at hc;simp at hc
    .exact h.ext r b o x I imm Z z hc
   bm:=fun r b o x I imm Z hr hc=>by
    rcases O r _ hr with⟨rfl,hp⟩|⟨Y,z⟩
    .rw[W]at hc;simp at hc
    .exact h.bm r b o x I imm Z z hc
   bb:=fun r b o x I imm Z hr hc j hj M=>by
    rcases O r _ hr with⟨rfl,hp⟩|⟨Y,z⟩
    .rw[W]at hc;simp at hc
    .obtain⟨⟨v,m⟩,h2,h3⟩:=h.bb r b o x I imm Z z hc j hj M;exact⟨⟨v,by rw[U _ _ _ (lH m) rfl];exact m⟩,by rw[World.frozen?_alloc_old _ _ _ (by have:=lH m;simp;omega)];exact h2,h3⟩
   apart:=fun r b o x cs1 imm Z r' b' C x' cs2 imm' tip' hr hc z hc' Y j j' hj M hj' hjl' he=>by
    rcases O r _ hr with⟨rfl,hp⟩|⟨hn1,J⟩
    .rw[W]at hc;simp at hc
    .rcases O r' _ z with⟨rfl,hp⟩|⟨hn2,V⟩
     .rw[W]at hc';simp at hc'
     .exact h.apart r b o x cs1 imm Z r' b' C x' cs2 imm' tip' J hc V hc' Y j j' hj M hj' hjl' he
   map:=fun r b o x es hr hc=>by
    rcases O r _ hr with⟨rfl,hp⟩|⟨Y,z⟩
    .simp only[eG]at hp;obtain⟨rfl,rfl,rfl⟩:=hp;rw[W]at hc;simp only[aC,HB.map.injEq]at hc;subst hc;exact⟨#[],0,by show(w.heap.push _)[w.heap.size]?=_;simp,rfl,aE⟩
    .obtain⟨ms,clock,m,h2⟩:=h.map r b o x es z hc;refine⟨ms,clock,?_,h2.mono L⟩;rw[wY _ _ _ (h.lt r b o x z).2];exact m
   aS:=fun r b o x es r' b' C x' hr hc z hs Y=>by
    rcases O r _ hr with⟨rfl,hp⟩|⟨hn1,J⟩
    .simp only[eG]at hp;obtain⟨rfl,rfl,rfl⟩:=hp;rcases O r' _ z with⟨rfl,hp⟩|⟨hn2,V⟩
     .exact(Y rfl).elim
     .have:=(h.lt r' b' C x' V).2;omega
    .rcases O r' _ z with⟨rfl,hp⟩|⟨hn2,V⟩
     .simp only[eG]at hp;obtain⟨rfl,rfl,rfl⟩:=hp;have:=(h.lt r b o x J).2;omega
     .exact h.aS r b o x es r' b' C x' J hc V hs Y
   b1:=fun b o v hf=>by
    have:=h.b1 b o v hf;rw[U _ _ _ (lH this) rfl];exact this
   val:=h.val
   cz:=h.cz}
 .exact wY _ _ _ hk
 .rcases O r _ hr with⟨rfl,hp⟩|⟨_,z⟩
  .simp only[eG]at hp;obtain⟨rfl,rfl,rfl⟩:=hp;exact .inr (.inl (az _))
  .exact .inl z
def R.more(h:R B H w G)(M:H.next<=X.next)(C:∀r,r<H.next->X.get r=H.get r):R B X w G:=by
 have k:∀r p,G.β r=some p->X.get r=H.get r:=fun r p hr=>C r (h.b8 r p hr);exact{
  bD:=h.bD
  b8:=fun r p hr=>jW (h.b8 r p hr) M
  lt:=h.lt
  cells:=fun r b o x cs imm Z hr hc=>h.cells r b o x cs imm Z hr jh
  aY:=fun r b o x cs imm Z hr hc=>h.aY r b o x cs imm Z hr jh
  ext:=fun r b o x cs imm Z hr hc=>h.ext r b o x cs imm Z hr jh
  bm:=fun r b o x cs imm Z hr hc=>h.bm r b o x cs imm Z hr jh
  bb:=fun r b o x cs imm Z hr hc=>h.bb r b o x cs imm Z hr jh
  apart:=fun r b o x cs imm Z Y b' J V I L W hr hc z U=>h.apart r b o x cs imm Z Y b' J V I L W hr jh z (by rw[<-k Y _ z];exact U)
  map:=fun r b o x O hr hc=>h.map r b o x O hr jh
  aS:=fun r b o x O Y b' J V hr hc z m=>h.aS r b o x O Y b' J V hr jh z (by rw[<-k Y _ z];exact m)
  b1:=h.b1
  val:=h.val
  cz:=h.cz}
def R.alloc(h:R B H w G)(W:HB):R B (H.alloc W) w G:=
 h.more (dB _) (fun r hr=>fC)
def w1(h:R B H w G)(Z:bZ G cs vs)(Y:qt)(e:TypeId):
 Step B H.next G w (H.alloc (.cells cs 0 true)) (w.alloc (.cells (vs++Y).toArray e)) (G.add H.next (w.heap.size,0,vs.length+Y.length)):=
 De (h.alloc _) (fun q o=>zY) aE jB (az _) Z Y e
def KL(h:R B H w G):
 Step B H.next G w (H.alloc (.map [])) (w.alloc (.map #[] 0)) (G.add H.next (w.heap.size,0,0)):=
 Df (h.alloc _) (fun q o=>zY) aE jB (az _)
inductive zav (G:Gh):HB->Obj->Nat->Prop
 |cells (cs:ql) (vs spare:qt) (e:TypeId) (hv:bZ G cs vs):zav G (.cells cs 0 true) (.cells (vs++spare).toArray e) (vs.length+spare.length)
 |map:zav G (.map []) (.map #[] 0) 0
def Dg{Z bG:Nat}{W:HB}{J:Obj}{ext:Nat}(h:R B X w G)(o:∀q,G.β bG=some q->False)(V:bG<X.next)(L:X.get bG=some W)(C:Z<=bG)(m:zav G W J ext):
 Step B Z G w X (w.alloc J) (G.add bG (w.heap.size,0,ext)):=by
 cases m with
 |cells cs vs Y e U=>exact De h o V L C U Y e
 |map=>exact Df h o V L C
def mz(P:Program)(G:Gh)(w:World){o:Type}(s:Sem o)(f:Value->o)(c:AV)(H H':Hp):Prop:=
 ∃W J ext v,H'=H.alloc W/\s.run P w=.ok (f v) (w.alloc J)/\zav G W J ext/\∀O:Gh,O.β H.next=some (w.heap.size,0,ext)->VR O c v
def mz.sim(h:R B H w G)(m:mz P G w s id c H H'):∃v L O,s.run P w=.ok v L/\VR O c v/\Step B H.next G w H' L O:=by
 obtain⟨W,J,ext,v,rfl,Z,Y,I⟩:=m;exact⟨v,_,_,Z,I _ (oq _ _ _),Dg (h.alloc _) (fun q o=>zY) aE jB (az _) Y⟩
def mz.next(m:mz P G w s id c H H'):mz P G w (do pure (.value (<-s)):Sem Next) Next.value c H H':=by
 obtain⟨W,J,ext,v,Z,o,Y,I⟩:=m;exact⟨W,J,ext,v,Z,by simp[o],Y,I⟩
def KM{W J:Nat}(h:b=W->o≠J):(⟨b,o,none⟩:Addr)≠⟨W,J,none⟩:=fun e=>by
 simp only[Addr.mk.injEq]at e;exact h e.1 e.2.1
theorem KN(h:R B H w G){x:Nat}{cs':ql}{imm:Nat}{tip:Bool}(hr:G.β r=some (b,o,x))(hc:H.get r=some (.cells cs imm tip))
  (hj:imm<=j) (hjl:j<dr x cs tip) 
 (hcs:∀(i:Nat) c,cs'[i]?=some c->(i=j/\VR G c v)\/(i≠j/\cs[i]?=some c)) (hl:cs'.length<=dr x cs tip) (hl':tip=false->cs'.length=cs.length) :
 Step B H.next G w (H.set r (.cells cs' imm tip)) (w.setCell ⟨b,o+j,none⟩ v) G:=by
 obtain⟨⟨u,hu⟩,hfz,hF⟩:=h.bb r b o x cs imm tip hr hc j hj hjl;have hsame:(w.setCell ⟨b,o+j,none⟩ v).cell? ⟨b,o+j,none⟩=some v:=World.cell?_setCell_same _ _ _ hu;have J:∀b' o',(b'=b->o'≠o+j)->(w.setCell ⟨b,o+j,none⟩ v).cell? ⟨b',o',none⟩=w.cell? ⟨b',o',none⟩:=fun b' o' hne=>
  World.cell?_setCell_other _ _ _ _ (KM fun e e'=>hne e.symm e'.symm)
 have hreach:dr x cs' tip=dr x cs tip:=by
  cases tip with
  |true=>rfl
  |false=>exact hl' rfl
 have I:∀k,k≠r->(H.set r (.cells cs' imm tip)).get k=H.get k:=fun k hk=>by rw[bi,ao hk]
 have V:(H.set r (.cells cs' imm tip)).get r=some (.cells cs' imm tip):=eT;have hkeep:∀b' o' v',G.F b' o'=some v'->(b'=b->o'≠o+j):=fun b' o' v' hf e e'=>by subst e;subst e';rw[hF]at hf;simp at hf
 have hcell:∀b' o',(∃v',w.cell? ⟨b',o',none⟩=some v')->∃v',(w.setCell ⟨b,o+j,none⟩ v).cell? ⟨b',o',none⟩=some v':=fun b' o' ⟨v',hv'⟩=>by
  by_cases e:b'=b/\o'=o+j
  .obtain⟨rfl,rfl⟩:=e;exact⟨v,hsame⟩
  .exact⟨v',by rw[J b' o' (fun e1 e2=>e ⟨e1,e2⟩)];exact hv'⟩
 refine⟨?_,ti _,⟨rfl,rfl,rfl,aE,fun k hk hn=>?_⟩,rL _ _,fun _ _ h=>.inl h,az _,fun _ _ _ h=>.inl h⟩
 .exact{
   bD:=by have:=h.bD;simpa using this
   b8:=h.b8
   lt:=fun r b o x hr=>by have:=h.lt r b o x hr;simpa using this
   cells:=fun W L C z U Z O Y M=>by
    by_cases e:W=r
    .subst e;rw[hr]at Y;simp only[b9]at Y;obtain⟨rfl,rfl,rfl⟩:=Y;rw[V]at M;simp only[aC,HB.cells.injEq]at M;obtain⟨rfl,rfl,rfl⟩:=M;intro i c hi;rcases hcs i c hi with⟨rfl,hv⟩|⟨hne,hi'⟩
     .exact⟨v,hsame,hv⟩
     .obtain⟨v',h1,h2⟩:=h.cells W b o x cs imm tip hr hc i c hi';exact⟨v',by rw[J _ _ (fun _=>ac)];exact h1,h2⟩
    .rw[I W e]at M;intro i c hi;obtain⟨v',h1,h2⟩:=h.cells W L C z U Z O Y M i c hi;refine⟨v',?_,h2⟩;rw[J]
     .exact h1
     .have m:i<U.length:=(dx.1 hi).1;have hex:=h.ext W L C z U Z O Y M;by_cases hi1:Z<=i
      .exact h.apart W L C z U Z O r b o x cs imm tip Y M hr hc e i j hi1 ac hj hjl
      .obtain⟨u',hu'⟩:=h.aY W L C z U Z O Y M i ac m;exact hkeep _ _ _ hu'
   aY:=fun W L C z U Z O Y M i hi m=>by
    by_cases e:W=r
    .subst e;rw[hr]at Y;simp only[b9]at Y;obtain⟨rfl,rfl,rfl⟩:=Y;rw[V]at M;simp only[aC,HB.cells.injEq]at M;obtain⟨rfl,rfl,rfl⟩:=M;rcases hcs i _ (bc m)with⟨rfl,_⟩|⟨_,hi'⟩
     .omega
     .exact h.aY W b o x cs imm tip hr hc i hi (dx.1 hi').1
    .rw[I W e]at M;exact h.aY W L C z U Z O Y M i hi m
   ext:=fun W L C z U Z O Y M=>by
    by_cases e:W=r
    .subst e;rw[hr]at Y;simp only[b9]at Y;obtain⟨rfl,rfl,rfl⟩:=Y;rw[V]at M;simp only[aC,HB.cells.injEq]at M;obtain⟨rfl,rfl,rfl⟩:=M;rw[hreach];exact hl
    .rw[I W e]at M;exact h.ext W L C z U Z O Y M
   bm:=fun W L C z U Z O Y M=>by
    by_cases e:W=r
    .subst e;rw[hr]at Y;simp only[b9]at Y;obtain⟨rfl,rfl,rfl⟩:=Y;rw[V]at M;simp only[aC,HB.cells.injEq]at M;obtain⟨rfl,rfl,rfl⟩:=M;rcases Bool.eq_false_or_eq_true tip with e1|e1
     .subst e1;exact hl
     .rw[hl' e1];exact h.bm _ _ _ _ _ _ _ hr hc
    .rw[I W e]at M;exact h.bm W L C z U Z O Y M
   bb:=fun W L C z U Z O Y M i hi m=>by
    by_cases e:W=r
    .subst e;rw[hr]at Y;simp only[b9]at Y;obtain⟨rfl,rfl,rfl⟩:=Y;rw[V]at M;simp only[aC,HB.cells.injEq]at M;obtain⟨rfl,rfl,rfl⟩:=M;rw[hreach]at m;obtain⟨h1,h2,h3⟩:=h.bb W b o x cs imm tip hr hc i hi m;exact⟨hcell _ _ h1,by rw[World.frozen?_setCell];exact h2,h3⟩
    .rw[I W e]at M;obtain⟨h1,h2,h3⟩:=h.bb W L C z U Z O Y M i hi m;exact⟨hcell _ _ h1,by rw[World.frozen?_setCell];exact h2,h3⟩
   apart:=fun W L C z U Z O r2 b2 o2 x2 cs2 imm2 tip2 Y M hr2 hc2 hne i i' hi m hi' hil'=>by
    have key:∀k bk ok xk csk immk tipk,G.β k=some (bk,ok,xk)->(H.set r (.cells cs' imm tip)).get k=some (.cells csk immk tipk) ->
     ∃cs0,H.get k=some (.cells cs0 immk tipk)/\dr xk cs0 tipk=dr xk csk tipk:=fun k bk ok xk csk immk tipk hk hck=>by
     by_cases e:k=r
     .subst e;rw[hr]at hk;simp only[b9]at hk;obtain⟨rfl,rfl,rfl⟩:=hk;rw[V]at hck;simp only[aC,HB.cells.injEq]at hck;obtain⟨rfl,rfl,rfl⟩:=hck;exact⟨cs,hc,hreach.symm⟩
     .rw[I k e]at hck;exact⟨csk,hck,rfl⟩
    obtain⟨c1,g1,e1⟩:=key W L C z U Z O Y M;obtain⟨c2,g2,e2⟩:=key r2 b2 o2 x2 cs2 imm2 tip2 hr2 hc2;exact h.apart W L C z c1 Z O r2 b2 o2 x2 c2 imm2 tip2 Y g1 hr2 g2 hne i i' hi ac hi' ac
   map:=fun W L C z es Y M=>by
    by_cases e:W=r
    .subst e;rw[V]at M;simp at M
    .rw[I W e]at M;obtain⟨ms,clock,h1,h2⟩:=h.map W L C z es Y M;refine⟨ms,clock,?_,h2⟩;have hb:L≠b:=fun eb=>by
      subst eb;unfold World.cell? at hu;rw[h1]at hu;simp at hu
     rw[Below.heap_setCell _ _ _ _ hb];exact h1
   aS:=fun W L C z es r2 b2 o2 x2 Y M hr2 hs hne=>by
    by_cases e:W=r
    .subst e;rw[V]at M;simp at M
    .rw[I W e]at M;refine h.aS W L C z es r2 b2 o2 x2 Y M hr2 ?_ hne;by_cases e2:r2=r
     .subst e2;rw[hc];rfl
     .rw[I r2 e2]at hs;exact hs
   b1:=fun b' o' v' hf=>by rw[J _ _ (hkeep _ _ _ hf)];exact h.b1 _ _ _ hf
   val:=h.val
   cz:=h.cz}
 .exact Below.heap_setCell _ _ _ _ (fun e=>hn r b o x hr e.symm)
def KO(P:Program)(h:R B H w G){x:Nat}{imm:Nat}{tip:Bool}(hr:G.β r=some (b,o,x))(L:H.get r=some (.cells cs imm tip))
  (I:imm<=j) (M:j<dr x cs tip)  (U:v.oneCell'=true) :
 (store ⟨b,o+j,none⟩ v).run P w=.ok () (w.setCell ⟨b,o+j,none⟩ v):=by
 obtain⟨⟨u,m⟩,Z,_⟩:=h.bb r b o x cs imm tip hr L j I M;rw[run_store P w _ v _ U,m];simp[Z]
def KP(cs:ql)(off:Nat)(c:AV)(J:ql)(h:off<=cs.length):splice cs off (c::J)=splice (splice cs off [c]) (off+1) J:=by
 unfold splice;have o:(List.take off cs++[c]++List.drop (off+[c].length) cs).take (off+1)=List.take off cs++[c]:=by
  rw[z7 co,fk co]
 have m:(List.take off cs++[c]++List.drop (off+[c].length) cs).drop (off+1+J.length)=List.drop (off+(J.length+1)) cs:=by
  rw[List.drop_append,z8 co];simp only[em,iD,cy,fP,z9,mZ]
  congr 1
  omega
 rw[o,m];simp
def KQ(cs:ql)(off:Nat):splice cs off []=cs:=by simp[splice]
def KR(cs:ql)(off:Nat)(J:ql)(h:off+J.length<=cs.length):(splice cs off J).length=cs.length:=by simp[splice];omega
def KS(cs:ql)(off:Nat)(J:ql)(h:off<=cs.length):(splice cs off J).length=max cs.length (off+J.length):=by simp[splice];omega
def Dh(cs J:ql):splice cs cs.length J=cs++J:=by simp[splice]
def splice_one(c:AV)(I:j<=cs.length){d:AV}(h:(splice cs j [c])[i]?=some d):(i=j/\d=c)\/(i≠j/\cs[i]?=some d):=by
 unfold splice at h;by_cases J:i<j
 .rw[lD,kC co,mY,aB J]at h;exact .inr ⟨ac,h⟩
 .by_cases e:i=j
  .subst e;rw[lD,lC co]at h;have m:i-(List.take i cs).length=0:=co;rw[m]at h;simp at h;exact .inl ⟨rfl,h.symm⟩
  .rw[lC co]at h;rw[px]at h;refine .inr ⟨e,?_⟩;rw[<-h]
   congr 1
   simp;omega
def kG(b o i:Nat):(⟨b,o,none⟩:Addr).add i=⟨b,o+i,none⟩:=by
 unfold Addr.add;split
 .rename_i e;subst e;rfl
 .rfl
def Step.congr{W:Nat}(h:Step B W G w H w' O)(M:H'.next=H.next)(L:∀r,(O.β r).isSome->H'.get r=H.get r):Step B W G w H' w' O:=
 ⟨h.r.congr M L,h.ext,h.fr,h.new,h.bS,by rw[M];exact h.mono,h.dj⟩
theorem Ah(P:Program){x:Nat}{imm:Nat}{tip:Bool}(hr:G.β r=some (b,o,x))(off:Nat):∀(J:ql) (vs:qt) (cs:ql) (i:Nat) (H:Hp) (w:World),R B H w G ->
 H.get r=some (.cells cs imm tip)->bZ G J vs->(∀v∈vs,v.oneCell'=true)->imm<=off+i->off+i<=cs.length->off+i+J.length<=dr x cs tip->(tip=false->off+i+J.length<=cs.length) ->
 ∃M,(storeCells ⟨b,o+off,none⟩ vs i).run P w=.ok () M/\Step B H.next G w (H.set r (.cells (splice cs (off+i) J) imm tip)) M G:=by
 intro J;induction J with
 |nil=>
  intro vs cs i H w W hc z U hi I Y _;have m:vs=[]:=by have:=z.1;simpa using this.symm
  subst m;refine⟨w,rfl,(ik W).congr rfl fun k _=>?_⟩;rw[bi,KQ];split
  .rename_i e;subst e;rw[hc]
  .rfl
 |cons c J ih=>
  intro vs cs i H w W hc z U hi I Y L;cases vs with
  |nil=>have:=z.1;simp at this
  |cons v vs=>
   obtain⟨hv1,m⟩:=z.a0;simp only[cy]at Y L;have Z:(splice cs (off+i) [c]).length=max cs.length (off+i+1):=KS _ _ _ I;have hext:=W.ext r b o x cs imm tip hr hc;have V:=KN W hr hc (j:=off+i) (cs':=splice cs (off+i) [c]) (v:=v) hi ac
    (fun k d hk=>by
      rcases splice_one c I hk with⟨e1,e2⟩|h2
      .subst e2;exact .inl ⟨e1,hv1⟩
      .exact .inr h2)
    (by rw[Z];cases tip with
        |true=>simp only[dr]at *;omega
        |false=>have:=L rfl;simp only[dr]at *;omega)
    (fun ht=>by have:=L ht;rw[Z];omega)
   have O:=KO P W hr hc (j:=off+i) hi ac (v:=v) (U v aE);have hg1:(H.set r (.cells (splice cs (off+i) [c]) imm tip)).get r=some (.cells (splice cs (off+i) [c]) imm tip):=eT;have C:dr x (splice cs (off+i) [c]) tip=dr x cs tip:=by
    cases tip with
    |true=>rfl
    |false=>have:=L rfl;simp only[dr];omega
   obtain⟨M,hw',hs'⟩:=ih vs (splice cs (off+i) [c]) (i+1) _ _ V.r hg1 m (fun u hu=>U u (by simp[hu])) ac (by rw[Z];omega) (by rw[C];omega) (fun ht=>by have:=L ht;rw[Z];omega);refine⟨M,?_,(V.trans hs').congr rfl fun k _=>?_⟩
   .simp only[storeCells,dy];rw[kG,iE,O];exact hw'
   .rw[bi,bi,bi,KP _ _ _ _ I];split
    .rfl
    .rfl
def Di(h:R B H w G){x:Nat}{imm:Nat}(hr:G.β r=some (b,o,x))(hc:H.get r=some (.cells cs imm true)){off:Nat}(hoff:off<=cs.length):
 Step B H.next G w ((H.aU r).alloc (.cells (cs.drop off) (imm-off) true)) w (G.add H.next (b,o+off,x-off)):=by
 have hno:∀q,G.β H.next=some q->False:=fun q hq=>by have:=h.b8 _ _ hq;omega
 have hext:Ext G (G.add H.next (b,o+off,x-off)):=Ag hno;have hrn:r≠H.next:=fun e=>by subst e;exact hno _ hr
 have Y:∀k p,(G.add H.next (b,o+off,x-off)).β k=some p->(k=H.next/\p=(b,o+off,x-off))\/(k≠H.next/\G.β k=some p):=fun k p M=>by
  simp only[Gh.add]at M;split at M
  .rename_i e;exact .inl ⟨e,by simpa using M.symm⟩
  .rename_i e;exact .inr ⟨e,M⟩
 have I:∀k q,k≠H.next->((H.aU r).alloc (.cells (cs.drop off) (imm-off) true)).get k=some q->k≠r/\H.get k=some q:=fun k q M hq=>by
  rw[aJ,rN,ao M,fD]at hq;split at hq
  .simp at hq
  .rename_i e;exact⟨e,hq⟩
 have W:((H.aU r).alloc (.cells (cs.drop off) (imm-off) true)).get H.next=some (.cells (cs.drop off) (imm-off) true):=by rw[aJ,rN,aB rfl]
 have hlen:=h.ext r b o x cs imm true hr hc;simp only[dr]at hlen;refine⟨?_,hext,uW _ _,fun k b' o' x' M=>?_,fun k p M=>(Y k p M).elim (fun e=>.inr (by rw[e.1];exact az _)) (fun e=>.inl e.2),aE,fun _ _ _ h=>.inl h⟩
 .exact{
   bD:=h.bD
   b8:=fun k p M=>by
    rcases Y k p M with⟨rfl,_⟩|⟨_,Z⟩
    .simp
    .have:=h.b8 k p Z;simp;omega
   lt:=fun k b' o' x' M=>by
    rcases Y k _ M with⟨rfl,hp⟩|⟨_,Z⟩
    .simp only[eG]at hp;obtain⟨rfl,rfl,rfl⟩:=hp;exact h.lt r _ _ _ hr
    .exact h.lt k b' o' x' Z
   cells:=fun k b' o' x' J L U M V=>by
    rcases Y k _ M with⟨rfl,hp⟩|⟨z,Z⟩
    .simp only[eG]at hp;obtain⟨rfl,rfl,rfl⟩:=hp;rw[W]at V;simp only[aC,HB.cells.injEq]at V;obtain⟨rfl,rfl,rfl⟩:=V;intro j c hj;rw[px]at hj;obtain⟨v,h1,h2⟩:=h.cells r _ _ _ _ _ _ hr hc (off+j) c hj;exact⟨v,by rw[iE];exact h1,h2.mono hext⟩
    .obtain⟨_,O⟩:=I k _ z V;exact(h.cells k b' o' x' J L U Z O).mono hext
   aY:=fun k b' o' x' J L U M V j hj hjl=>by
    rcases Y k _ M with⟨rfl,hp⟩|⟨z,Z⟩
    .simp only[eG]at hp;obtain⟨rfl,rfl,rfl⟩:=hp;rw[W]at V;simp only[aC,HB.cells.injEq]at V;obtain⟨rfl,rfl,rfl⟩:=V;rw[ib]at hjl;rw[iE];exact h.aY r _ _ _ _ _ _ hr hc (off+j) ac ac
    .obtain⟨_,O⟩:=I k _ z V;exact h.aY k b' o' x' J L U Z O j hj hjl
   ext:=fun k b' o' x' J L U M V=>by
    rcases Y k _ M with⟨rfl,hp⟩|⟨z,Z⟩
    .simp only[eG]at hp;obtain⟨rfl,rfl,rfl⟩:=hp;rw[W]at V;simp only[aC,HB.cells.injEq]at V;obtain⟨rfl,rfl,rfl⟩:=V;simp only[dr,ib];omega
    .obtain⟨_,O⟩:=I k _ z V;exact h.ext k b' o' x' J L U Z O
   bm:=fun k b' o' x' J L U M V=>by
    rcases Y k _ M with⟨rfl,hp⟩|⟨z,Z⟩
    .simp only[eG]at hp;obtain⟨rfl,rfl,rfl⟩:=hp;rw[W]at V;simp only[aC,HB.cells.injEq]at V;obtain⟨rfl,rfl,rfl⟩:=V;simp only[ib];omega
    .obtain⟨_,O⟩:=I k _ z V;exact h.bm k b' o' x' J L U Z O
   bb:=fun k b' o' x' J L U M V j hj hjl=>by
    rcases Y k _ M with⟨rfl,hp⟩|⟨z,Z⟩
    .simp only[eG]at hp;obtain⟨rfl,rfl,rfl⟩:=hp;rw[W]at V;simp only[aC,HB.cells.injEq]at V;obtain⟨rfl,rfl,rfl⟩:=V;simp only[dr]at hjl;rw[iE];exact h.bb r _ _ _ _ _ _ hr hc (off+j) ac uS
    .obtain⟨_,O⟩:=I k _ z V;exact h.bb k b' o' x' J L U Z O j hj hjl
   apart:=fun k1 b1 o1 x1 cs1 imm1 tip1 k2 b2 o2 x2 cs2 imm2 tip2 hk1 C hk2 hc2 z j1 j2 hj1 hl1 hj2 hl2 he=>by
    rcases Y k1 _ hk1 with⟨rfl,hp⟩|⟨hn1,hk1'⟩
    .simp only[eG]at hp;obtain⟨rfl,rfl,rfl⟩:=hp;rw[W]at C;simp only[aC,HB.cells.injEq]at C;obtain⟨rfl,rfl,rfl⟩:=C;simp only[dr]at hl1;rcases Y k2 _ hk2 with⟨rfl,hp⟩|⟨hn2,hk2'⟩
     .exact(z rfl).elim
     .obtain⟨hr2,hc2'⟩:=I k2 _ hn2 hc2;rw[iE];exact h.apart r _ _ _ _ _ _ k2 b2 o2 x2 cs2 imm2 tip2 hr hc hk2' hc2' (Ne.symm hr2) (off+j1) j2 ac uS hj2 hl2 he
    .obtain⟨hr1,m⟩:=I k1 _ hn1 C;rcases Y k2 _ hk2 with⟨rfl,hp⟩|⟨hn2,hk2'⟩
     .simp only[eG]at hp;obtain⟨rfl,rfl,rfl⟩:=hp;rw[W]at hc2;simp only[aC,HB.cells.injEq]at hc2;obtain⟨rfl,rfl,rfl⟩:=hc2;simp only[dr]at hl2;rw[iE];exact h.apart k1 b1 o1 x1 cs1 imm1 tip1 r _ _ _ _ _ _ hk1' m hr hc hr1 j1 (off+j2) hj1 hl1 ac uS he
     .obtain⟨hr2,hc2'⟩:=I k2 _ hn2 hc2;exact h.apart k1 b1 o1 x1 cs1 imm1 tip1 k2 b2 o2 x2 cs2 imm2 tip2 hk1' m hk2' hc2' z j1 j2 hj1 hl1 hj2 hl2 he
   map:=fun k b' o' x' es M V=>by
    rcases Y k _ M with⟨rfl,hp⟩|⟨z,Z⟩
    .rw[W]at V;simp at V
    .obtain⟨_,O⟩:=I k _ z V;obtain⟨ms,clock,h1,h2⟩:=h.map k b' o' x' es Z O;exact⟨ms,clock,h1,h2.mono hext⟩
   aS:=fun k1 b1 o1 x1 es k2 b2 o2 x2 hk1 C hk2 hs z=>by
    rcases Y k1 _ hk1 with⟨rfl,hp⟩|⟨hn1,hk1'⟩
    .rw[W]at C;simp at C
    .obtain⟨hr1,m⟩:=I k1 _ hn1 C;rcases Y k2 _ hk2 with⟨rfl,hp⟩|⟨hn2,hk2'⟩
     .simp only[eG]at hp;obtain⟨rfl,rfl,rfl⟩:=hp;exact h.aS k1 b1 o1 x1 es r _ _ _ hk1' m hr (by rw[hc];rfl) hr1
     .cases hh:((H.aU r).alloc (.cells (cs.drop off) (imm-off) true)).get k2 with
      |none=>simp[hh]at hs
      |some q=>
       obtain⟨_,hq⟩:=I k2 q hn2 hh;exact h.aS k1 b1 o1 x1 es k2 b2 o2 x2 hk1' m hk2' (by rw[hq];rfl) z
   b1:=h.b1
   val:=h.val
   cz:=h.cz}
 .rcases Y k _ M with⟨rfl,hp⟩|⟨_,Z⟩
  .simp only[eG]at hp;obtain⟨rfl,rfl,rfl⟩:=hp;exact .inr (.inr ⟨r,o,x,hr⟩)
  .exact .inl Z
def Gh.aF(G:Gh)(w:World)(b o n:Nat):Gh:={β:=G.β,F:=fun b' J=>match G.F b' J with
 |some v=>some v
 |none=>if b'=b/\o<=J/\J<o+n then w.cell? ⟨b',J,none⟩else none,ρ:=G.ρ}
def KT(G:Gh)(w:World)(b o n:Nat):Ext G (G.aF w b o n):=⟨fun _ _ h=>h,fun b' J v h=>by simp[Gh.aF,h],rfl⟩
def uZ(h:R B H w G){x:Nat}{imm:Nat}{tip:Bool}(hr:G.β r=some (b,o,x))(hc:H.get r=some (.cells cs imm tip)){n:Nat}(himm:imm<=n)(hn:n<=cs.length)(Y:Bool)(ht:Y=true->tip=true):
 Step B H.next G w (H.set r (.cells cs n Y)) w (G.aF w b o n):=by
 have m:Ext G (G.aF w b o n):=KT _ _ _ _ _;have I:∀k,k≠r->(H.set r (.cells cs n Y)).get k=H.get k:=fun k z=>jV;have W:(H.set r (.cells cs n Y)).get r=some (.cells cs n Y):=eT;have hex:=h.ext r b o x cs imm tip hr hc;have hreach:∀j,n<=j->j<dr x cs Y->j<dr x cs tip:=fun j hj M=>by
  cases Y with
  |true=>rw[ht rfl];exact M
  |false=>simp only[dr]at M;omega
 have hF:∀b' J v,(G.aF w b o n).F b' J=some v->w.cell? ⟨b',J,none⟩=some v:=fun b' J v hf=>by
  simp only[Gh.aF]at hf;split at hf
  .rename_i u hu;simp only[aC]at hf;subst hf;exact h.b1 _ _ _ hu
  .split at hf
   .exact hf
   .simp at hf
 have hFin:∀j,j<n->∃v,(G.aF w b o n).F b (o+j)=some v:=fun j hj=>by
  obtain⟨v,h1,_⟩:=h.cells r b o x cs imm tip hr hc j _ (bc ac);simp only[Gh.aF];split
  .rename_i u _;exact⟨u,rfl⟩
  .rw[aB ⟨by trivial,ac,ac⟩];exact⟨v,h1⟩
 have hFout:∀b' J,G.F b' J=none->(b'=b->J<o\/o+n<=J)->(G.aF w b o n).F b' J=none:=fun b' J hf hne=>by
  simp only[Gh.aF,hf];rw[ao];rintro⟨e1,e2,e3⟩;have:=hne e1;omega
 refine⟨?_,m,uW _ _,rL _ _,fun _ _ h=>.inl h,az _,fun b' J v' hv=>?_⟩;rotate_left
 .simp only[Gh.aF]at hv;split at hv
  .rename_i v'' hF';exact .inl (by rw[hF'];exact hv)
  .split at hv
   .rename_i hc';exact .inr (by rw[hc'.1];exact(h.lt r b o x hr).1)
   .simp at hv
 exact{
  bD:=h.bD
  b8:=h.b8
  lt:=h.lt
  cells:=fun k b' J C U L Z z V=>by
   by_cases e:k=r
   .subst e;have O:G.β k=some (b',J,C):=z;rw[hr]at O;simp only[b9]at O;obtain⟨rfl,rfl,rfl⟩:=O;rw[W]at V;simp only[aC,HB.cells.injEq]at V;obtain⟨rfl,rfl,rfl⟩:=V;exact(h.cells k _ _ _ _ _ _ hr hc).mono m
   .rw[I k e]at V;exact(h.cells k b' J C U L Z z V).mono m
  aY:=fun k b' J C U L Z z V j hj M=>by
   by_cases e:k=r
   .subst e;have O:G.β k=some (b',J,C):=z;rw[hr]at O;simp only[b9]at O;obtain⟨rfl,rfl,rfl⟩:=O;rw[W]at V;simp only[aC,HB.cells.injEq]at V;obtain⟨rfl,rfl,rfl⟩:=V;exact hFin j hj
   .rw[I k e]at V;obtain⟨v,hv⟩:=h.aY k b' J C U L Z z V j hj M;exact⟨v,m.F _ _ _ hv⟩
  ext:=fun k b' J C U L Z z V=>by
   by_cases e:k=r
   .subst e;have O:G.β k=some (b',J,C):=z;rw[hr]at O;simp only[b9]at O;obtain⟨rfl,rfl,rfl⟩:=O;rw[W]at V;simp only[aC,HB.cells.injEq]at V;obtain⟨rfl,rfl,rfl⟩:=V;cases Y with
    |true=>rw[ht rfl]at hex;exact hex
    |false=>exact az _
   .rw[I k e]at V;exact h.ext k b' J C U L Z z V
  bm:=fun k b' J C U L Z z V=>by
   by_cases e:k=r
   .subst e;have O:G.β k=some (b',J,C):=z;rw[hr]at O;simp only[b9]at O;obtain⟨rfl,rfl,rfl⟩:=O;rw[W]at V;simp only[aC,HB.cells.injEq]at V;obtain⟨rfl,rfl,rfl⟩:=V;exact h.bm _ _ _ _ _ _ _ hr hc
   .rw[I k e]at V;exact h.bm k b' J C U L Z z V
  bb:=fun k b' J C U L Z z V j hj M=>by
   by_cases e:k=r
   .subst e;have O:G.β k=some (b',J,C):=z;rw[hr]at O;simp only[b9]at O;obtain⟨rfl,rfl,rfl⟩:=O;rw[W]at V;simp only[aC,HB.cells.injEq]at V;obtain⟨rfl,rfl,rfl⟩:=V;have h1:=hreach j hj M;obtain⟨g1,g2,g3⟩:=h.bb k _ _ _ _ _ _ hr hc j ac h1;exact⟨g1,g2,hFout _ _ g3 (fun _=>ac)⟩
   .rw[I k e]at V;obtain⟨g1,g2,g3⟩:=h.bb k b' J C U L Z z V j hj M;refine⟨g1,g2,hFout _ _ g3 (fun eb=>?_)⟩;by_cases hin:o<=J+j/\J+j<o+n
    .exfalso;have hj0:J+j-o<cs.length:=ac;have hj1:J+j-o<dr x cs tip:=ac;by_cases hi:imm<=J+j-o
     .exact h.apart k b' J C U L Z r b o x cs imm tip z V hr hc e j (J+j-o) hj M hi hj1 eb ac
     .obtain⟨v,hv⟩:=h.aY r b o x cs imm tip hr hc (J+j-o) ac hj0;rw[show o+(J+j-o)=J+j by omega,<-eb,g3]at hv;simp at hv
    .omega
  apart:=fun k1 b1 o1 x1 cs1 imm1 Z k2 b2 o2 x2 cs2 imm2 tip2 hk1 hc1 hk2 hc2 hne j1 j2 hj1 hl1 hj2 hl2 he=>by
   have key:∀k bk ok xk csk immk tipk j,G.β k=some (bk,ok,xk)->(H.set r (.cells cs n Y)).get k=some (.cells csk immk tipk)->immk<=j->j<dr xk csk tipk ->
    ∃cs0 imm0 tip0,H.get k=some (.cells cs0 imm0 tip0)/\imm0<=j/\j<dr xk cs0 tip0:=fun k bk ok xk csk immk tipk j z V hj M=>by
    by_cases e:k=r
    .subst e;have O:G.β k=some (bk,ok,xk):=z;rw[hr]at O;simp only[b9]at O;obtain⟨rfl,rfl,rfl⟩:=O;rw[W]at V;simp only[aC,HB.cells.injEq]at V;obtain⟨rfl,rfl,rfl⟩:=V;exact⟨cs,imm,tip,hc,ac,hreach j hj M⟩
    .rw[I k e]at V;exact⟨csk,immk,tipk,V,hj,M⟩
   obtain⟨c1,i1,t1,g1,a1,l1⟩:=key k1 b1 o1 x1 cs1 imm1 Z j1 hk1 hc1 hj1 hl1;obtain⟨c2,i2,t2,g2,a2,l2⟩:=key k2 b2 o2 x2 cs2 imm2 tip2 j2 hk2 hc2 hj2 hl2;exact h.apart k1 b1 o1 x1 c1 i1 t1 k2 b2 o2 x2 c2 i2 t2 hk1 g1 hk2 g2 hne j1 j2 a1 l1 a2 l2 he
  map:=fun k b' J C es z V=>by
   by_cases e:k=r
   .subst e;rw[W]at V;simp at V
   .rw[I k e]at V;obtain⟨ms,clock,h1,h2⟩:=h.map k b' J C es z V;exact⟨ms,clock,h1,h2.mono m⟩
  aS:=fun k1 b1 o1 x1 es k2 b2 o2 x2 hk1 hc1 hk2 hs hne=>by
   by_cases e:k1=r
   .subst e;rw[W]at hc1;simp at hc1
   .rw[I k1 e]at hc1;refine h.aS k1 b1 o1 x1 es k2 b2 o2 x2 hk1 hc1 hk2 ?_ hne;by_cases e2:k2=r
    .subst e2;rw[hc];rfl
    .rw[I k2 e2]at hs;exact hs
  b1:=hF
  val:=h.val
  cz:=h.cz}
def KU(h:R B H w G){x:Nat}(hr:G.β r=some (b,o,x))(hx:cs.length<=x)(hc:gl G w b o cs)(hF:∀j,j<cs.length->∃v,G.F b (o+j)=some v)
 (hmap:∀r1 b1 o1 x1 es,G.β r1=some (b1,o1,x1)->H.get r1=some (.map es)->b1≠b) :
 Step B H.next G w (H.set r (.cells cs cs.length false)) w G:=by
 have I:∀k,k≠r->(H.set r (.cells cs cs.length false)).get k=H.get k:=fun k z=>jV;have U:(H.set r (.cells cs cs.length false)).get r=some (.cells cs cs.length false):=eT;have hβ:∀k b' J W,k=r->G.β k=some (b',J,W)->b'=b/\J=o/\W=x:=fun k b' J W e z=>by
  subst e;rw[hr]at z;simp only[b9]at z;exact⟨z.1.symm,z.2.1.symm,z.2.2.symm⟩
 have O:∀Y L Z,(H.set r (.cells cs cs.length false)).get r=some (.cells Y L Z)->Y=cs/\L=cs.length/\Z=false:=fun Y L Z z=>by
  rw[U]at z;simp only[aC,HB.cells.injEq]at z;exact⟨z.1.symm,z.2.1.symm,z.2.2.symm⟩
 refine⟨?_,ti _,uW _ _,rL _ _,fun _ _ h=>.inl h,az _,fun _ _ _ h=>.inl h⟩;exact{
  bD:=h.bD
  b8:=h.b8
  lt:=h.lt
  cells:=fun k b' J W Y L Z z V=>by
   by_cases e:k=r
   .obtain⟨rfl,rfl,rfl⟩:=hβ k _ _ _ e z;subst e;obtain⟨rfl,rfl,rfl⟩:=O _ _ _ V;exact hc
   .rw[I k e]at V;exact h.cells k b' J W Y L Z z V
  aY:=fun k b' J W Y L Z z V j hj C=>by
   by_cases e:k=r
   .obtain⟨rfl,rfl,rfl⟩:=hβ k _ _ _ e z;subst e;obtain⟨rfl,rfl,rfl⟩:=O _ _ _ V;exact hF j C
   .rw[I k e]at V;exact h.aY k b' J W Y L Z z V j hj C
  ext:=fun k b' J W Y L Z z V=>by
   by_cases e:k=r
   .subst e;obtain⟨rfl,rfl,rfl⟩:=O _ _ _ V;exact az _
   .rw[I k e]at V;exact h.ext k b' J W Y L Z z V
  bm:=fun k b' J W Y L Z z V=>by
   by_cases e:k=r
   .subst e;obtain⟨rfl,rfl,rfl⟩:=O _ _ _ V;obtain⟨_,_,rfl⟩:=hβ _ _ _ _ rfl z;exact hx
   .rw[I k e]at V;exact h.bm k b' J W Y L Z z V
  bb:=fun k b' J W Y L Z z V j hj C=>by
   by_cases e:k=r
   .subst e;obtain⟨rfl,rfl,rfl⟩:=O _ _ _ V;simp only[dr]at C;omega
   .rw[I k e]at V;exact h.bb k b' J W Y L Z z V j hj C
  apart:=fun k1 b1 o1 x1 cs1 imm1 tip1 k2 b2 o2 x2 cs2 imm2 tip2 m M hk2 hc2 hne j1 j2 hj1 hl1 hj2 hl2 he=>by
   by_cases e1:k1=r
   .subst e1;obtain⟨rfl,rfl,rfl⟩:=O _ _ _ M;simp only[dr]at hl1;omega
   .by_cases e2:k2=r
    .subst e2;obtain⟨rfl,rfl,rfl⟩:=O _ _ _ hc2;simp only[dr]at hl2;omega
    .rw[I k1 e1]at M;rw[I k2 e2]at hc2;exact h.apart k1 b1 o1 x1 cs1 imm1 tip1 k2 b2 o2 x2 cs2 imm2 tip2 m M hk2 hc2 hne j1 j2 hj1 hl1 hj2 hl2 he
  map:=fun k b' J W es z V=>by
   by_cases e:k=r
   .subst e;rw[U]at V;simp at V
   .rw[I k e]at V;exact h.map k b' J W es z V
  aS:=fun k1 b1 o1 x1 es k2 b2 o2 x2 m M hk2 hs hne=>by
   by_cases e:k1=r
   .subst e;rw[U]at M;simp at M
   .rw[I k1 e]at M;by_cases e2:k2=r
    .obtain⟨rfl,rfl,rfl⟩:=hβ k2 _ _ _ e2 hk2;exact hmap k1 b1 o1 x1 es m M
    .rw[I k2 e2]at hs;exact h.aS k1 b1 o1 x1 es k2 b2 o2 x2 m M hk2 hs hne
  b1:=h.b1
  val:=h.val
  cz:=h.cz}
def rO(P:Program)(B:Bs)(H:Hp)(G:Gh)(w:World)(s:Sem Next)(c:AV)(H':Hp):Prop:=
 ∃n L O v,s.run P w=.ok n L/\(n=.value v\/(n=.skip/\v=undef))/\VR O c v/\Step B H.next G w H' L O
theorem Dj(h:uC v=some c):VR G c v:=by
 unfold uC at h;split at h<;>simp only[aC,reduceCtorEq]at h<;>subst h<;>constructor;rfl
theorem Dk{G:Gh}:∀{vs:qt}{cs:ql},vs.mapM uC=some cs->bZ G cs vs
 |[],cs,h=>by simp at h;subst h;exact m0 G
 |v::vs,cs,h=>by
  rw[List.mapM_cons]at h;simp only[Option.bind_eq_bind,bT,Option.pure_def,aC]at h;obtain⟨c,hc,I,L,rfl⟩:=h;exact lG (Dj hc) (Dk L)
def tk(h:s8 v=some c):VR G c v:=by
 unfold s8 at h;split at h
 .rename_i cs;simp only[eI]at h;obtain⟨l,W,rfl⟩:=h;have:=Dk (G:=G) W;exact .agg (vs:=cs.toList) this.1 this.2
 .exact Dj h
theorem gl.list{G:Gh}{w:World}{b:Nat}:∀{cs:ql}{o:Nat},gl G w b o cs->∃vs,bZ G cs vs/\∀(j:Nat) v,vs[j]?=some v->w.cell? ⟨b,o+j,none⟩=some v
 |[],o,_=>⟨[],m0 G,aE⟩
 |c::cs,o,h=>by
  obtain⟨v,Z,m⟩:=h 0 c rfl;obtain⟨vs,M,Y⟩:=gl.list (cs:=cs) (o:=o+1) (fun j d I=>by
   obtain⟨u,U,W⟩:=h (j+1) d pw;exact⟨u,by rw[show o+1+j=o+(j+1) by omega];exact U,W⟩)
  refine⟨v::vs,lG m M,fun j u I=>?_⟩;cases j with
  |zero=>simp at I;subst I;exact Z
  |succ j=>rw[show o+(j+1)=o+1+j by omega];exact Y j u pw
def gl.drop(h:gl G w b o cs)(n:Nat):gl G w b (o+n) (cs.drop n):=fun j c I=>by
 rw[px]at I;rw[iE];exact h (n+j) c I
def gl.take(h:gl G w b o cs)(n:Nat):gl G w b o (cs.take n):=fun j c I=>by
 rw[mY]at I;split at I
 .exact h j c I
 .simp at I
section
variable {P:Program} {w:World} {t:TypeId}
def cO(h:P.underlying t=some d):(underlying t).run P w=.ok d w:=by simp[underlying,h]
def pz{i:TypeInfo}(h:P.info? t=some i):(typeInfo t).run P w=.ok i w:=by simp[typeInfo,h]
def Dl{s:Nat}(h:br P t=some s):∃i,P.info? t=some i/\i.size=s:=by simpa [br,eI]using h
def iH{s:Nat}(h:br P t=some s):(sizeOf t).run P w=.ok s w:=by
 obtain⟨i,o,m⟩:=Dl h;simp[sizeOf,pz o,m]
def Dm(h:n1 P t=some c):∃i v,P.info? t=some i/\i.zero=some v/\s8 v=some c:=by
 unfold n1 at h;split at h
 .rename_i x d s I J hp al fa Y L ms z;exact⟨_,Y,z,rfl,h⟩
 .simp at h
def KV(h:n1 P t=some c):∃v,(∀w,(zeroValue t).run P w=.ok v w)/\∀G,VR G c v:=by
 obtain⟨i,v,o,m,I⟩:=Dm h;exact⟨v,fun w=>by simp[zeroValue,pz o,m],fun G=>tk I⟩
def Ai(h:cj P t=some z):∃i v c,P.info? t=some i/\i.zero=some v/\s8 v=some c/\c.cells=z:=by
 unfold cj at h;split at h
 .rename_i c hc;simp only[aC]at h;obtain⟨i,v,o,m,I⟩:=Dm hc;exact⟨i,v,c,o,m,I,h⟩
 .simp at h
def tl(h:cj P t=some z):∃v,(∀w,(zeroValue t).run P w=.ok v w)/\∀G,bZ G z v.cells.toList:=by
 obtain⟨i,v,c,o,m,I,rfl⟩:=Ai h;exact⟨v,fun w=>by simp[zeroValue,pz o,m],fun G=>(tk I).cells⟩
def Ak:TypeDesc->Bool
 | .struct _|.array _ _=>true
 |_=>false
theorem w4(h:P.underlying t=some d):(isAgg t).run P w=.ok (Ak d) w:=by
 simp only[isAgg,dy,cO h,dC];cases d<;>rfl
def Dn{off:Nat}(h:cn P t cs off=some c):
 (∃d s,P.underlying t=some d/\Ak d=true/\br P t=some s/\((cs.drop off).take s).length=s/\c=.agg ((cs.drop off).take s)) \/
 (∃d,P.underlying t=some d/\Ak d=false/\cs[off]?=some c):=by
 unfold cn at h;split at h
 .rename_i f hd;split at h
  .rename_i s U;simp only[]at h;split at h
   .rename_i W;simp only[aC]at h;exact .inl ⟨_,s,hd,rfl,U,W,h.symm⟩
   .simp at h
  .simp at h
 .rename_i n e hd;split at h
  .rename_i s U;simp only[]at h;split at h
   .rename_i W;simp only[aC]at h;exact .inl ⟨_,s,hd,rfl,U,W,h.symm⟩
   .simp at h
  .simp at h
 .rename_i d o m hd;refine .inr ⟨d,hd,?_,h⟩;cases d<;>first|rfl|exact(o _ rfl).elim|exact(m _ _ rfl).elim
 .simp at h
def Do{off:Nat}(W:gl G w b o cs)(h:cn P t cs off=some c):
 ∃v,(loadVar t ⟨b,o+off,none⟩).run P w=.ok v w/\VR G c v:=by
 rcases Dn h with⟨d,s,hd,J,U,V,rfl⟩|⟨d,hd,J,hc⟩
 .obtain⟨vs,Z,m⟩:=((W.drop off).take s).list;refine⟨.agg vs.toArray,?_,.agg Z.1 Z.2⟩;simp only[loadVar,dy,w4 hd,J,dC,cg,iH U];have Y:vs.length=s:=by rw[<-Z.1];exact V
  rw[<-Y,run_loadCells_list _ _ vs (fun j v I=>by rw[kG];exact m j v I)];rfl
 .obtain⟨v,Z,m⟩:=W off c hc;refine⟨v,?_,m⟩;simp[loadVar,w4 hd,J,Z]
def w5{off:Nat}(Y:bZ G cs vs)(h:cn P t cs off=some c):
 ∃v,(part t vs.toArray off).run P w=.ok v w/\VR G c v:=by
 rcases Dn h with⟨d,s,hd,J,U,W,rfl⟩|⟨d,hd,J,hc⟩
 .have o:=(Y.drop off).take s;refine⟨.agg ((vs.drop off).take s).toArray,?_,.agg o.1 o.2⟩;simp only[part,dy,w4 hd,J,dC,cg,iH U,iF]
  congr 2
  apply jX;simp
 .have O:off<cs.length:=(dx.1 hc).1;have z:off<vs.length:=by have:=Y.1;omega
  refine⟨vs[off],?_,Y.2 off c _ hc (bc z)⟩;simp[part,w4 hd,J,z]
end
def tm(h:R B H w G){s:Sem Next}(hr:s.run P w=.ok (.value v) w)(Y:VR G c v):rO P B H G w s c H:=
 ⟨.value v,w,G,v,hr,.inl rfl,Y,ik h⟩
def iX{x:qr}(h:ret H x=some (c,H')):x=some c/\H'=H:=by
 cases x with
 |none=>simp[ret]at h
 |some v=>simp[ret]at h;exact⟨by rw[h.1],h.2.symm⟩
section
variable {P:Program} {B:Bs} {G:Gh} {H H':Hp} {w:World} (h:R B H w G) {c:AV}
include h
def Dp(J:VR G a M)(W:eR P H t a=some c):∃v,(Instr.loadAt t M).run P w=.ok v w/\VR G c v:=by
 unfold eR at W;split at W
 .rename_i r Y;cases J with
  |ptr hr=>
   split at W
   .rename_i cs V U hc;obtain⟨v,Z,m⟩:=Do (h.cells _ _ _ _ _ _ _ hr hc) W;exact⟨v,Dc,m⟩
   .simp at W
 .rename_i cs;cases J with
  |a2 vs L C=>
   rename_i b o;have O:gl G w b o cs:=fun j d I=>⟨vs j,h.b1 _ _ _ (L j (dx.1 I).1),C j d I⟩;obtain⟨v,Z,m⟩:=Do O W;exact⟨v,Dc,m⟩
 .simp at W
def KW{av:Value}(ha:VR G a av)(hx:VR G x W)(U:ky P H t a x=some H'):
 ∃L,(Instr.storeAt t av W).run P w=.ok () L/\Step B H.next G w H' L G:=by
 unfold ky at U;split at U
 .rename_i r J;cases ha with
  |ptr hr=>
   rename_i b o ex;split at U
   .rename_i cs m I s hc z;split at U
    .rename_i C;obtain⟨h1,h2,h3,h4⟩:=C;simp only[aC]at U;subst U;have O:=hx.cells;have Z:W.cells.toList.length=s:=by rw[<-O.1];exact h1
     have Y:∀v∈W.cells.toList,v.oneCell'=true:=fun v hv=>by
      obtain⟨i,hi,rfl⟩:=Aa hv;have V:i<x.cells.length:=by rw[O.1];exact hi
      rw[(O.2 i _ _ (bc V) (bc hi)).bI];exact gk.1 h4 _ (dU V)
     have hex:=h.ext r b o ex cs m I hr hc;obtain⟨L,hw,hst⟩:=Ah P hr J x.cells W.cells.toList cs 0 H w h hc O Y ac ac ac (fun _=>ac);refine⟨L,?_,by simpa using hst⟩;have M:W.cells.size=s:=kB;simp only[Instr.storeAt,Instr.sureAddr,dy,iF,dC,storeVar,iH z,M];simpa using hw
    .simp at U
   .simp at U
 .simp at U
end
section
variable {P:Program} {B:Bs} {G:Gh} {H H':Hp} {w:World}
def KX(J:VR G a M)(Z:o0 P t a i=some c):∃v,(Instr.fieldAt t M i).run P w=.ok v w/\VR G c v:=by
 unfold o0 at Z;split at Z
 .rename_i Y hd;split at Z
  .rename_i f L;split at Z
   .rename_i s U;have m:∀b o,M=.pointer (some ⟨b,o,none⟩)->(Instr.fieldAt t M i).run P w=.ok (.pointer (some ⟨b,o+f.offset,none⟩)) w:=fun b o e=>by
     subst e;simp only[Instr.fieldAt,dy,cO hd,dC];simp[L,Instr.sureAddr,fieldPlace,iH U,kG]
    split at Z
    .rename_i r W;simp only[aC]at Z;subst Z;cases J with
     |ptr hr=>exact⟨_,m _ _ rfl,zZ⟩
    .rename_i cs;simp only[aC]at Z;subst Z;cases J with
     |a2 vs V O=>
      refine⟨_,m _ _ rfl,.a2 (fun j=>vs (f.offset+j)) (fun j I=>?_) (fun j d I=>?_)⟩
      .rw[ib]at I;rw[iE];exact V _ ac
      .rw[px]at I;exact O _ _ I
    .simp at Z
   .simp at Z
  .simp at Z
 .simp at Z
def KY(J:VR G a Z)(o:ry P t a i=some c):∃v,(Instr.field t Z i).run P w=.ok v w/\VR G c v:=by
 unfold ry at o;split at o
 .rename_i M cs hd;cases J with
  |agg W V=>
   rename_i vs;split at o
   .rename_i f L;obtain⟨v,Y,m⟩:=w5 (P:=P) (w:=w) ⟨W,V⟩ o;refine⟨v,?_,m⟩;simp only[Instr.field,dy,cO hd,dC];simp only[L,dy,asAgg,iF,dC];exact Y
   .simp at o
 .simp at o
def KZ{i:AV}{m iv:Value}(V:VR G a m)(hi:VR G i iv)(Z:dZ P t a i=some c):∃v,(Instr.indexAt t m iv).run P w=.ok v w/\VR G c v:=by
 unfold dZ at Z;split at Z
 .rename_i kk k;cases hi;split at Z
  .rename_i e hd;split at Z
   .rename_i s U;split at Z
    .rename_i r J M z;split at Z
     .rename_i W;simp only[aC]at Z;subst Z;cases V with
      |sl hr hl hc=>
       rename_i b o x O;refine⟨.pointer (some ⟨b,o+J+k*s,none⟩),?_,zZ⟩;simp only[Instr.indexAt,asIntOf,dy,iF,dC,cO hd];have h1:(0:Int)<=Int.ofNat k:=Int.natCast_nonneg k;have h2:(Int.ofNat k)<(M:Int):=by simpa using W
       simp[iH U,W,kG]
     .simp at Z
    .rename_i xs;split at Z
     .rename_i I Y;split at Z
      .rename_i L;simp only[aC]at Z;subst Z;have W:k<xs.length:=(dx.1 Y).1;cases V with
       |aq vs hz hF hv hc=>
        rename_i b o O z;have C:s=z:=by rw[<-L];exact hz k I Y
        subst C;refine⟨.pointer (some ⟨b,o+k*s,none⟩),?_,.a2 (vs k) (fun j hj=>hF k j W ac) (fun j d hj=>hv k j I d Y hj)⟩;simp only[Instr.indexAt,asIntOf,dy,iF,dC,cO hd];simp[iH U,W,kG]
       |lst0 a O=>simp at W
      .simp at Z
     .simp at Z
    .simp at Z
   .simp at Z
  .rename_i n e hd;split at Z
   .rename_i s U;split at Z
    .rename_i r J;split at Z
     .rename_i W;simp only[aC]at Z;subst Z;cases V with
      |ptr hr=>
       rename_i b o x;refine⟨.pointer (some ⟨b,o+J+k*s,none⟩),?_,zZ⟩;simp only[Instr.indexAt,asIntOf,dy,iF,dC,cO hd];simp[iH U,W,kG,Instr.sureAddr]
     .simp at Z
    .simp at Z
   .simp at Z
  .simp at Z
 .simp at Z
def La{i:AV}(J:VR G a M)(Y:VR G i U)(o:mr P t a i=some c):∃v,(Instr.index t M U).run P w=.ok v w/\VR G c v:=by
 unfold mr at o;split at o
 .rename_i kk k;cases Y;split at o
  .rename_i s hd;split at o
   .rename_i b C;simp only[aC]at o;subst o;cases J with
    |ag Z l W=>
     subst W;refine⟨_,?_,.int .u8 b.toNat⟩;have z:k<Z.size:=by
      have:=(dx.1 C).1;simpa using this
     have L:Z[k]?=some b:=by
      rw[ByteArray.getElem?_lt' _ _ z];have:=(dx.1 C).2;simp at this;rw[<-this];rfl
     simp only[Instr.index,asIntOf,dy,iF,dC,cO hd];simp[L]
   .simp at o
  .rename_i n e cs hd;split at o
   .rename_i z;split at o
    .rename_i s V;cases J with
     |agg W I=>
      rename_i vs;obtain⟨v,O,m⟩:=w5 (P:=P) (w:=w) ⟨W,I⟩ o;refine⟨v,?_,m⟩;simp only[Instr.index,asIntOf,dy,iF,dC,cO hd];simp[iH V,z,O]
    .simp at o
   .simp at o
  .simp at o
 .simp at o
def Lb(J:VR G a M)(o:extract a i=some c):∃v,(Instr.extract M i).run P w=.ok v w/\VR G c v:=by
 unfold extract at o;split at o
 .rename_i cs;cases J with
  |aO V Y=>
   rename_i vs;have W:i<cs.length:=(dx.1 o).1;have Z:i<vs.length:=ac;exact⟨vs[i],by simp[Instr.extract,Z],Y i c _ o (bc Z)⟩
 .simp at o
def Al{op:BinOp}{a b:Int}(V:op≠.shl/\op≠.shr)(h:hO op k a b=some c)(o:TypeId):∃v,(binOp op o (.int k a) (.int k b)).run P w=.ok v w/\VR G c v:=by
 cases op<;>simp only[hO,aC,reduceCtorEq]at h<;>first
  |(subst h;exact⟨_,by simp[binOp,Op.intArith,Op.intBits,Op.intCmp];rfl,ob⟩)
  |(subst h;exact⟨.int k (k.wrap (BitVec.ofInt k.bits a &&& ~~~ BitVec.ofInt k.bits b).toNat),by simp[binOp,Op.intBits],ob⟩)
  |(split at h
    ·simp at h
    .rename_i C;simp only[aC]at h;subst h;exact⟨_,by simp[binOp,Op.intDiv,C];rfl,ob⟩)
  |simp at V
theorem Lc{op:BinOp}{a b:ByteArray}(h:uE op a.data.toList b.data.toList=some c)(o:TypeId):∃v,(binOp op o (.string a) (.string b)).run P w=.ok v w/\VR G c v:=by
 have O:∀x y,o7 x y=Op.bytesLess x y:=fun x=>by
  induction x with
  |nil=>intro y;cases y<;>rfl
  |cons p x ih=>intro y;cases y with
   |nil=>rfl
   |cons q y=>simp[o7,Op.bytesLess,ih]
 cases op<;>simp only[uE,aC,reduceCtorEq,O]at h<;>first
  |(subst h;exact⟨.bool (a.data.toList == b.data.toList),tf,ob⟩)
  |(subst h;exact⟨.bool !(a.data.toList == b.data.toList),tf,ob⟩)
  |(subst h;exact⟨.bool (Op.bytesLess a.data.toList b.data.toList),tf,ob⟩)
  |(subst h;exact⟨.bool !(Op.bytesLess a.data.toList b.data.toList),tf,ob⟩)
  |(subst h;exact⟨.bool (Op.bytesLess a.data.toList b.data.toList||a.data.toList == b.data.toList),tf,ob⟩)
  |(subst h;exact⟨.bool !(Op.bytesLess a.data.toList b.data.toList||a.data.toList == b.data.toList),tf,ob⟩)
  |(split at h
    ·rename_i C;simp only[aC]at h;subst h;refine⟨.string (a++b),?_,.ag _ _ ?_⟩
     .have Z:¬((a.size+b.size:Nat):Int) > IntKind.i64.max:=by
       have Y:a.size+b.size<=70368744177664:=by simpa [cX]using C
       have m:IntKind.i64.max=9223372036854775807:=rfl;rw[m];omega
      simp only[binOp,Op.stringOp,ao Z];rfl
     .simp
    .simp at h)
def Dq(J:Nat){r:Bool}{o:TypeId}(O:VR G x Z)(W:VR G y I)(h:wE P o x y=some r):(Op.equalIn (J+1) o Z I).run P w=.ok r w:=by
 unfold wE at h;split at h;all_goals first
  |(rename_i hd
    split at h<;>simp only[aC,reduceCtorEq]at h<;>subst h<;>cases O<;>cases W<;>simp[Op.equalIn,cO hd]
    done)
  |(rename_i e hd
    split at h<;>simp only[aC,reduceCtorEq]at h<;>subst h<;>cases O<;>cases W<;>simp[Op.equalIn,cO hd]
    done)
  |(rename_i M Y hd
    split at h<;>simp only[aC,reduceCtorEq]at h<;>subst h<;>cases O<;>cases W<;>simp[Op.equalIn,cO hd]
    done)
  |(rename_i M Y V hd
    split at h<;>simp only[aC,reduceCtorEq]at h<;>subst h<;>cases O<;>cases W<;>simp[Op.equalIn,cO hd]
    done)
  |simp at h
def w6{op:BinOp}{x y:Operand}{d:AV}{cv:Value}(L:VR G c cv)(hd:VR G d U)(h:∀l m,c=.agg l->d=.agg m->False):(eqGuard op t x y cv U).run P w=.ok () w:=by
 cases op<;>first|rfl|(cases L<;>cases hd<;>first|rfl|exact(h _ _ rfl rfl).elim)
def Ld(a b:ByteArray):(a == b)=(a.data.toList == b.data.toList):=by
 cases a with
 |mk x=>cases b with
  |mk y=>
   show(x == y)=_;rw[Ac,lE,lE];exact⟨fun h=>by rw[h],fun h=>jX h⟩
def Dr(J:Nat){r:Bool}{o:TypeId}(O:VR G x Z)(W:VR G y I)(h:zT P o x y=some r):(Op.equalIn (J+1) o Z I).run P w=.ok r w:=by
 unfold zT at h;split at h
 .split at h
  .rename_i hd;split at h
   .rename_i z;simp only[aC]at h;subst h z;cases O;cases W;simp[Op.equalIn,cO hd]
   .simp at h
  .simp at h
 .split at h
  .rename_i hd;simp only[aC]at h;subst h;cases O with
   |ag a U Y=>cases W with
    |ag b M C=>
     subst Y C;simp only[Op.equalIn,dy,cO hd,dC,iF,Ld]
  .simp at h
 .exact Dq J O W h
theorem Am{xs Y:ql}{U C:qt}(O:bZ G xs U)(W:bZ G Y C)(J:Nat):∀(V:List Field) (r:Bool),s9 P xs Y V=some r ->
 Sem.run P (forIn V (none,()) fun(f:Field) (_:qA×Unit)=>
         if f.name="_" then pure (ForInStep.yield (none,()))
         else do
          let a <-part f.type U.toArray f.offset
          let b <-part f.type C.toArray f.offset
          let c <-Op.equalIn (J+1) f.type a b
          if c=false then pure (ForInStep.done (some false,()))else pure (ForInStep.yield (none,())))
  w=.ok (match r with|true=>(none,())|false=>(some false,())) w
 |[],r,h=>by
  simp only[s9,aC]at h;subst h;rfl
 |f::V,r,h=>by
  unfold s9 at h;rw[List.forIn_cons];split at h
  .rename_i Z;rw[aB kB];simp only[dy,iF,dC];exact Am O W J V r h
  .rename_i Z;rw[ao kB];split at h
   .rename_i a b m hb;obtain⟨av,L,M⟩:=w5 (P:=P) (w:=w) O m;obtain⟨bv,I,o⟩:=w5 (P:=P) (w:=w) W hb;split at h
    .rename_i z;have:=Dr (P:=P) (w:=w) J M o z;simp only[dy,L,I,this,dC,py,cm,iF];exact Am O W J V r h
    .rename_i z;have:=Dr (P:=P) (w:=w) J M o z;simp only[aC]at h;subst h;simp only[dy,L,I,this,dC,cg,iF]
    .simp at h
   .simp at h
theorem Le(d:Nat){M:Array Field}{xs:Array Value}(hd:P.underlying t=some (.struct M))(U:P.stoodInHeld t=false):
 (Op.equalIn (d+1) t (.agg xs) (.agg L)).run P w=(Sem.run P (forIn M.toList (none,()) fun(f:Field) (_:qA×Unit)=>
   if f.name="_" then pure (ForInStep.yield (none,()))
   else do
    let a <-part f.type xs f.offset
    let b <-part f.type L f.offset
    let c <-Op.equalIn d f.type a b
    if c=false then pure (ForInStep.done (some false,()))else pure (ForInStep.yield (none,())))
   w).andThen fun a Z=>Sem.run P (match a.1 with|some r=>pure r|none=>pure true) Z:=by
 simp[Op.equalIn,cO hd,U]
 congr 1
 funext a Z
 rcases a with⟨_ |_,_⟩<;>rfl
def Lf(J:Nat){r:Bool}{o:TypeId}(O:VR G x Z)(L:VR G y I)(h:rA P o x y=some r):(Op.equalIn (J+2) o Z I).run P w=.ok r w:=by
 unfold rA at h;split at h
 .unfold wF at h;split at h
  .rename_i M hd;split at h
   .simp at h
   .rename_i C;simp only[ig]at C;cases O with
    |agg V U=>cases L with
     |agg W Y=>
      have:=Am (P:=P) (w:=w) ⟨V,U⟩ ⟨W,Y⟩ J M.toList r h;rw[Le (J+1) hd C.1,this];cases r<;>rfl
  .simp at h
 .exact Dq (J+1) O L h
def Lg{r:Bool}{o:TypeId}(O:VR G x W)(Z:VR G y I)(h:rA P o x y=some r):(Op.equal o W I).run P w=.ok r w:=Lf 9998 O Z h
def Lh{op:BinOp}{x y:Operand}{xs L:ql}(O:VR G (.agg xs) W)(Y:VR G (.agg L) I){r:Bool}(h:wF P t xs L=some r):(eqGuard op t x y W I).run P w=.ok () w:=by
 unfold wF at h;split at h
 .split at h
  .simp at h
  .rename_i Z;simp only[ig]at Z;cases O;cases Y;cases op<;>first|rfl|simp[eqGuard,Z.2]
 .simp at h
def Li{op:BinOp}{o:TypeId}{m oy:Operand}(O:VR G x W)(Z:VR G y I)(Y:∀k a k' b,x=.int k a->y=.int k' b->False)
 (U:∀a b,x=.ag a->y=.ag b->False) (M:∀k a,x=.sx k a->False) (L:∀k a k' b,x=.int k a->y=.sx k' b->False) (h:zU P op o x y=some c) :
 ∃v,(do eqGuard op o m oy W I;binOp op o W I:Sem Value).run P w=.ok v w/\VR G c v:=by
 unfold zU at h;have V:∃r,rA P o x y=some r/\((op=.eql/\c=.bool r)\/(op=.neq/\c=.bool !r)):=by
  split at h
  .split at h
   .rename_i r hr;simp only[aC]at h;exact⟨r,hr,.inl ⟨rfl,h.symm⟩⟩
   .simp at h
  .split at h
   .rename_i r hr;simp only[aC]at h;exact⟨r,hr,.inr ⟨rfl,h.symm⟩⟩
   .simp at h
  .simp at h
 obtain⟨r,hr,C⟩:=V;have hg:(eqGuard op o m oy W I).run P w=.ok () w:=by
  have z:=hr;unfold rA at z;split at z
  .exact Lh O Z z
  .rename_i J;exact w6 O Z J
 have he:=Lg (P:=P) (w:=w) O Z hr;simp only[dy,hg,dC];rcases C with⟨rfl,rfl⟩|⟨rfl,rfl⟩
 .refine⟨.bool r,?_,.bool r⟩;have:binOp .eql o W I=(do pure (.bool (<-Op.equal o W I)):Sem Value):=by
   cases O<;>cases Z<;>first|rfl|exact(Y _ _ _ _ rfl rfl).elim|exact(U _ _ rfl rfl).elim|exact(M _ _ rfl).elim|exact(L _ _ _ _ rfl rfl).elim
  rw[this];simp[he]
 .refine⟨.bool !r,?_,.bool _⟩;have:binOp .neq o W I=(do pure (.bool (!(<-Op.equal o W I))):Sem Value):=by
   cases O<;>cases Z<;>first|rfl|exact(Y _ _ _ _ rfl rfl).elim|exact(U _ _ rfl rfl).elim|exact(M _ _ rfl).elim|exact(L _ _ _ _ rfl rfl).elim
  rw[this];simp[he]
def Ds{e:Sx}(O:VR G x W)(h:wC x=some (k,e)):W=.int k (e.eval G.ρ):=by
 unfold wC at h;split at h
 .simp only[b9]at h;obtain⟨rfl,rfl⟩:=h;cases O;rfl
 .simp only[b9]at h;obtain⟨rfl,rfl⟩:=h;cases O;rfl
 .simp at h
def Lj{op:BinOp}{a b n:Int}(h:hO op k a b=some (.int k n)):zR op k a b=n:=by simp[zR,h]
def Lk(J:kF D G.ρ){op:BinOp}{a b:Sx}(h:zS D op k a b=some c)(o:TypeId):
 ∃v,(binOp op o (.int k (a.eval G.ρ)) (.int k (b.eval G.ρ))).run P w=.ok v w/\VR G c v:=by
 have C:∀(op:BinOp) (n:Int),(op≠.shl/\op≠.shr)->hO op k (a.eval G.ρ) (b.eval G.ρ)=some (.int k n)->c=.sx k (.bT op k a b) ->
  ∃v,(binOp op o (.int k (a.eval G.ρ)) (.int k (b.eval G.ρ))).run P w=.ok v w/\VR G c v:=fun op n V Z hc=>by
  obtain⟨v,Y,m⟩:=Al (P:=P) (w:=w) (G:=G) V Z o;cases m;refine⟨_,Y,?_⟩;subst hc;have:VR G (.sx k (.bT op k a b)) (.int k ((Sx.bT op k a b).eval G.ρ)):=.sx _ _;simp only[Sx.eval,Lj Z]at this;exact this
 have z:D .eql b (.lit 0)=some false->b.eval G.ρ≠0:=fun hd=>by
  have:=J _ k _ _ _ hd;simp[hO,Sx.eval]at this;exact this
 cases op<;>simp only[zS,aC,reduceCtorEq]at h<;>first
  |exact C _ _ aE rfl h.symm
  |(split at h
    ·rename_i hd;simp only[aC]at h;first
      |exact C .quo (k.wrap ((a.eval G.ρ).tdiv (b.eval G.ρ))) aE (by simp only[hO,ao (z hd)]) h.symm
      |exact C .rem ((a.eval G.ρ).tmod (b.eval G.ρ)) aE (by simp only[hO,ao (z hd)]) h.symm
    .simp at h)
  |(split at h
    ·rename_i r hd;simp only[aC]at h;subst h;exact Al (P:=P) (w:=w) (G:=G) aE (J _ k _ _ _ hd) o
    .simp at h)
def Dt(J:kF D G.ρ){op:BinOp}{o:TypeId}{U:Operand}(M:VR G x W)(L:VR G y I)(O:∀l m,x=.agg l->y=.agg m->False)(h:wD D op x y=some c):
 ∃v,(do eqGuard op o V U W I;binOp op o W I:Sem Value).run P w=.ok v w/\VR G c v:=by
 have C:=w6 (P:=P) (w:=w) (op:=op) (t:=o) (x:=V) (y:=U) M L O;simp only[dy,C,dC];unfold wD at h;split at h
 .rename_i k a k' b Y Z;have e1:=Ds M Y;have e2:=Ds L Z;subst e1 e2;split at h
  .rename_i z;subst z;exact Lk J h o
  .simp at h
 .simp at h
def Ll(J:kF D G.ρ){op:BinOp}{o:TypeId}{Z:Operand}{Y:Value}(O:VR G x Y)(W:VR G y I)(h:dw P D op o x y=some c):
 ∃v,(do eqGuard op o V Z Y I;binOp op o Y I:Sem Value).run P w=.ok v w/\VR G c v:=by
 unfold dw at h;split at h
 .rename_i k a k' b;have L:=w6 (P:=P) (w:=w) (op:=op) (t:=o) (x:=V) (y:=Z) O W aE;simp only[dy,L,dC];cases O;cases W;unfold pe at h;split at h
  .unfold ta at h;split at h
   .simp only[aC]at h;subst h;refine⟨_,?_,.int _ _⟩;simp only[binOp,Op.shift];rw[ao aE];rfl
   .simp at h
  .unfold ta at h;split at h
   .simp only[aC]at h;subst h;refine⟨_,?_,.int _ _⟩;simp only[binOp,Op.shift];rw[ao aE];rfl
   .simp at h
  .rename_i U m;split at h
   .rename_i z;subst z;exact Al ⟨U,m⟩ h o
   .simp at h
 .rename_i a b;have L:=w6 (P:=P) (w:=w) (op:=op) (t:=o) (x:=V) (y:=Z) O W aE;simp only[dy,L,dC];cases O with
  |ag sa _ M=>
   cases W with
   |ag sb _ C=>
    subst M C;exact Lc h o
 .exact Dt J O W aE h
 .exact Dt J O W aE h
 .exact Li O W og og og og h
def Lm{op:UnOp}(O:VR G x W)(h:ph op x=some c):∃v,(Op.unary op W).run P w=.ok v w/\VR G c v:=by
 unfold ph at h;split at h
 .cases O;simp only[aC]at h;subst h;refine⟨_,rfl,?_⟩;exact .sx _ _
 .cases O;simp only[aC]at h;subst h;refine⟨_,rfl,?_⟩;exact .sx _ _
 .cases O;simp only[hO,aC]at h;subst h;exact⟨_,rfl,.int _ _⟩
 .cases O;simp only[hO,aC]at h;subst h;exact⟨_,rfl,.int _ _⟩
 .cases O;simp only[aC]at h;subst h;exact⟨_,rfl,.bool _⟩
 .simp at h
end
def rP(G:Gh):qr->qK->Prop
 |none,none=>True
 |some c,some v=>VR G c v
 |_,_=>False
section
variable {P:Program} {B:Bs} {G:Gh} {H H':Hp} {w:World}
def w7{k y:Nat}(code:BoundsCode)(h:VR G c v)(C:eS 0 (some c)=some k)(z:k<=y):(Instr.sliceBound v y code).run P w=.ok k w:=by
 unfold eS at C;split at C
 .simp at *
 .rename_i I n e;simp only[aC]at C e;subst C;subst e;cases h;simp[Instr.sliceBound,asIntOf,z]
 .simp at C
theorem Ln{d k:Nat}(h:eS d (some c)=some k):eS 0 (some c)=some k:=by
 unfold eS at *;split at h<;>simp_all
def An{Z m:qK}{l h len cap:Nat}(W:rP G lo Z)(Y:rP G J m)(U:eS 0 lo=some l)(o:eS len J=some h)(h1:l<=h)(h2:h<=len)(I:len<=cap)(V:Bool):
 (Instr.sliceBounds V len cap Z m none).run P w=.ok (l,h,cap) w:=by
 cases J with
 |none=>
  cases m with
  |some v=>exact Y.elim
  |none=>
   simp only[eS,aC]at o;subst o;cases lo with
   |none=>
    cases Z with
    |some v=>exact W.elim
    |none=>
     simp only[eS,aC]at U;subst U;simp[Instr.sliceBounds]
   |some c=>
    cases Z with
    |none=>exact W.elim
    |some v=>simp[Instr.sliceBounds,w7 _ W U h1]
 |some C=>
  cases m with
  |none=>exact Y.elim
  |some O=>
   have z:=Ln o;cases lo with
   |none=>
    cases Z with
    |some v=>exact W.elim
    |none=>
     simp only[eS,aC]at U;subst U;simp[Instr.sliceBounds,w7 _ Y z (show h<=cap by omega)]
   |some c=>
    cases Z with
    |none=>exact W.elim
    |some v=>simp[Instr.sliceBounds,w7 _ W U h1,w7 _ Y z (show h<=cap by omega)]
def Lo{xv:Value}{lov hiv:qK}(hx:VR G x xv)(hl:rP G lo lov)(hh:rP G J hiv)(h:g8 P t x lo J=some c):
 ∃v,(Instr.sliceAt t xv lov hiv none).run P w=.ok v w/\VR G c v:=by
 unfold g8 at h;split at h
 .rename_i s hd;split at h
  .rename_i l hh' Y V;split at h
   .rename_i hc;simp only[aC]at h;subst h;cases hx with
    |ag sv _ hs=>
     subst hs;have hb:=An (P:=P) (w:=w) (cap:=sv.size) hl hh Y V hc.1 hc.2 (by show sv.data.toList.length<=sv.data.size;simp) false;have hsz:sv.data.toList.length=sv.size:=by show sv.data.toList.length=sv.data.size;simp
     rw[hsz]at hb;refine⟨.string (sv.extract l hh'),?_,.ag _ _ (Lib.extract_data _ _ _)⟩;simp only[Instr.sliceAt,dy,cO hd,dC,Instr.slice];simp[hb]
   .simp at h
  .simp at h
 .rename_i e y hd;split at h
  .rename_i z hz;have m:∀(a:Option Addr) (W cap l U:Nat),xv=.slice a W cap->eS 0 lo=some l->eS W J=some U->l<=U->U<=W->W<=cap ->
    (Instr.sliceAt t xv lov hiv none).run P w=.ok (.slice (if cap=l then a else a.map (·.add (l*z))) (U-l) (cap-l)) w:=fun a W cap l U e1 Y V h1 L h3=>by
    subst e1;simp only[Instr.sliceAt,dy,cO hd,dC,Instr.slice];simp[An hl hh Y V h1 L h3,iH hz]
   split at h
   .rename_i r off W z';split at h
    .rename_i l U Y V;split at h
     .rename_i hc;obtain⟨h1,L,rfl⟩:=hc;cases hx with
      |sl hr hlc hx'=>
       rename_i b o x cap;have:=m _ W cap l U rfl Y V h1 L hlc;split at h
       .rename_i e1;simp only[aC]at h;subst h;subst e1;rw[rJ]at this;exact⟨_,this,.lst0 _ _⟩
       .rename_i hne;simp only[aC]at h;subst h;rw[ao ac]at this;refine⟨_,this,?_⟩;simp only[iG,kG];rw[iE];refine .sl hr ac ?_;have e3:(cap-l)*z'+l*z'=cap*z':=z0;omega
     .simp at h
    .simp at h
   .rename_i xs;split at h
    .rename_i l U Y V;split at h
     .rename_i hc;obtain⟨h1,L⟩:=hc;split at h
      .rename_i he;simp only[aC]at h;subst h;have Z:U-l=0:=by
        have:=jY List.length he;simp only[iD,ib,fP]at this;omega
       cases hx with
       |aq vs hzz hF hv O=>
        have:=m _ _ _ l U rfl Y V h1 L O;rw[Z]at this;exact⟨_,this,.lst0 _ _⟩
       |lst0 a cap=>
        have:=m _ _ _ l U rfl Y V h1 L (db cap);rw[Z]at this;exact⟨_,this,.lst0 _ _⟩
      .rename_i row C he;split at h
       .rename_i hrl;simp only[aC]at h;subst h;have hpos:0<U-l:=by
         have:=jY List.length he;simp only[iD,ib,cy]at this;omega
        cases hx with
        |lst0 a cap=>simp at L;omega
        |aq vs hzz hF hv O=>
         rename_i b o cap z';have M:=m _ _ _ l U rfl Y V h1 L O;rw[ao ac]at M;have I:∀i:Nat,(row::C)[i]?=if i<U-l then xs[l+i]? else none:=fun i=>by
          rw[<-he,mY,px]
         have hz':z'=z:=by
          have:=I 0;rw[aB hpos]at this;rw[<-hzz (l+0) row (by rw[<-this];rfl)];exact hrl
         subst hz';have Z:(row::C).length=U-l:=by
          rw[<-he];simp only[iD,ib];omega
         refine⟨_,M,?_⟩;simp only[iG,kG];rw[<-Z];refine .aq (z:=z') (fun i j=>vs (l+i) j) (fun i rw' J=>?_) (fun i j J hj=>?_) (fun i j rw' d J hj=>?_) (by rw[Z];omega)
         .rw[I i]at J;split at J
          .exact hzz _ _ J
          .simp at J
         .have:=hF (l+i) j (by rw[Z]at J;omega) hj;rw[<-this]
          congr 1
          rw[lF];omega
         .rw[I i]at J;split at J
          .exact hv _ _ _ _ J hj
          .simp at J
       .simp at h
     .simp at h
    .simp at h
   .split at h
    .rename_i Y V;simp only[aC]at h;subst h;cases hx;have:=m none 0 0 0 0 rfl Y V (az _) (az _) (az _);exact⟨_,this,.aa⟩
    .simp at h
   .simp at h
  .simp at h
 .simp at h
def bZ.splice{J:ql}{o:qt}(h:bZ G cs vs)(M:bZ G J o)(off:Nat):bZ G (Ab.splice cs off J) (vs.take off++o++vs.drop (off+o.length)):=by
 unfold Ab.splice;rw[M.1];exact((h.take off).append M).append (h.drop _)
theorem Du(off:Nat):∀(o:qt) (k:Nat) (cells:Array Value),off+k+o.length<=cells.size ->
 ((o.zipIdx k).foldl (fun cs (c,j)=>cs.setIfInBounds (off+j) c) cells).toList=cells.toList.take (off+k)++o++cells.toList.drop (off+k+o.length)
 |[],k,cells,_=>by simp
 |v::o,k,cells,h=>by
  simp only[cy]at h;rw[List.zipIdx_cons,List.foldl_cons,Du off o (k+1) _ co];simp only[Dd,cy];have hp:off+k<cells.toList.length:=co;have Z:(cells.toList.set (off+k) v).take (off+(k+1))=cells.toList.take (off+k)++[v]:=by
   rw[<-iE,kD,List.take_set_of_le (az _),List.getElem?_set_self hp];rfl
  rw[Z,List.drop_set_of_lt ac,show off+(k+1)+o.length=off+k+(o.length+1) by omega];simp
theorem w8{Z:Nat->Option (Nat×Nat)}:∀{ps:qE}{pv:List (Nat×Value)}{cs out:ql}{vs:qt},ps.length=pv.length ->
 (∀(i:Nat) p q,ps[i]?=some p->pv[i]?=some q->p.1=q.1/\VR G p.2 q.2)->bZ G cs vs->mV Z cs ps=some out ->
 ∃C,Instr.fill Z vs.toArray pv=some C.toArray/\bZ G out C
 |[],[],cs,out,vs,_,_,hv,h=>by
  simp only[mV,aC]at h;subst h;exact⟨vs,rfl,hv⟩
 |[],q::pv,_,_,_,hl,_,_,_=>by simp at hl
 |p::ps,[],_,_,_,hl,_,_,_=>by simp at hl
 |(i,c)::ps,(i',v)::pv,cs,out,vs,hl,hp,hv,h=>by
  obtain⟨rfl,W⟩:=hp 0 (i,c) (i',v) rfl rfl;simp only[]at W;simp only[mV]at h;split at h
  .simp at h
  .rename_i J o U;split at h
   .simp at h
   .rename_i Y;have O:=W.cells;have z:v.cells.size=c.cells.length:=by rw[O.1];simp
    have V:v.cells.size=o/\J+v.cells.size<=vs.length:=by
     rw[z,<-hv.1];constructor
     .apply Ad;intro M;exact Y (.inl M)
     .apply Ad;intro M;exact Y (.inr ac)
    obtain⟨C,h1,h2⟩:=w8 (ps:=ps) (pv:=pv) (cs:=Ab.splice cs J c.cells) (out:=out) (vs:=vs.take J++v.cells.toList++vs.drop (J+v.cells.toList.length))
     (by simpa using hl) (fun j p q I m=>hp (j+1) p q pw uT) (hv.splice O J) h
    refine⟨C,?_,h2⟩;simp only[Instr.fill,U];rw[ao co];rw[<-h1]
    congr 1
    apply jX;have L:=Du J v.cells.toList 0 vs.toArray co;simp only[kE]at L;rw[List.toList_toArray,<-L];rw[<-Array.foldl_toList,Array.toList_zipIdx]
theorem w9{E:ax}{a:Act}:∀{ps:List (Nat×Operand)}{out:qE},(∀p∈ps,∀c,aH E p.2=some c->VR G c (a.eval p.2))->iW E ps=some out ->
 out.length=(ps.map fun x=>(x.1,a.eval x.2)).length/\∀(i:Nat) p q,out[i]?=some p->(ps.map fun x=>(x.1,a.eval x.2))[i]?=some q->p.1=q.1/\VR G p.2 q.2
 |[],out,_,h=>by
  simp only[iW,aC]at h;subst h;exact⟨rfl,aE⟩
 |(i,x)::ps,out,hE,h=>by
  simp only[iW]at h;split at h
  .rename_i v vs Y m;simp only[aC]at h;subst h;obtain⟨Z,W⟩:=w9 (ps:=ps) (out:=vs) (fun p hp=>hE p (by simp[hp])) m;refine⟨kB,fun j p q I o=>?_⟩;cases j with
   |zero=>
    simp at I o;subst I o;exact⟨rfl,hE (i,x) aE v Y⟩
   |succ j=>exact W j p q pw (by simpa using o)
  .simp at h
def Lp{ps:qE}{pv:List (Nat×Value)}(hl:ps.length=pv.length)(hp:∀(i:Nat) p q,ps[i]?=some p->pv[i]?=some q->p.1=q.1/\VR G p.2 q.2)(h:dF P t ps=some c):
 ∃v,(Instr.build t pv.toArray).run P w=.ok v w/\VR G c v:=by
 unfold dF at h;split at h
 .rename_i z M J hd;split at h
  .rename_i L U;split at h
   .rename_i I hf;simp only[aC]at h;subst h;obtain⟨it,zv,zc,W,Z,Y,rfl⟩:=Ai J;have m:=(tk (G:=G) Y).cells;obtain⟨C,o,V⟩:=w8 hl hp m hf;refine⟨.agg C.toArray,run_build w t _ _ ?_,.agg V.1 V.2⟩;simp only[Program.built,W,hd,Z];unfold C9 at U;rw[U];simp only[tg]at o;simpa using o
   .simp at h
  .simp at h
 .rename_i z n e J hd;split at h
  .rename_i s hs;split at h
   .rename_i I hf;simp only[aC]at h;subst h;obtain⟨it,zv,zc,W,Z,Y,rfl⟩:=Ai J;have m:=(tk (G:=G) Y).cells;obtain⟨ie,hie,O⟩:=Dl hs;obtain⟨C,o,V⟩:=w8 hl hp m hf;refine⟨.agg C.toArray,run_build w t _ _ ?_,.agg V.1 V.2⟩;simp only[Program.built,W,hd,Z,hie,O];simp only[tg]at o;simpa using o
   .simp at h
  .simp at h
 .simp at h
theorem Dv(z:ql):∀(n j:Nat),j<n*z.length->(jf z n)[j]?=z[j%z.length]?
 |0,j,h=>by simp at h
 |n+1,j,h=>by
  simp only[jf];by_cases I:j<z.length
  .rw[kC I,Nat.mod_eq_of_lt I]
  .have U:j<n*z.length+z.length:=by simpa [uU]using h
   rw[lC ac,Dv z n (j-z.length) ac]
   congr 1
   exact(Nat.mod_eq_sub_mod ac).symm
theorem xc(z:ql):∀n,(jf z n).length=n*z.length
 |0=>by simp[jf]
 |n+1=>by simp[jf,xc z n,lF];omega
def Ao(W:bZ G z L.toList)(n:Nat):bZ G (jf z n) (((Array.range (n*z.length)).map (L[·% L.size]!))).toList:=by
 have V:=W.1;refine⟨by simp[xc],fun j c v hc Y=>?_⟩;have Z:j<n*z.length:=by
  have:=(dx.1 hc).1;rw[xc]at this;exact this
 rw[Dv z n j Z]at hc;simp only[Ae,Array.toList_range,ii,List.getElem?_range Z,iG,aC]at Y;have I:0<z.length:=by
  rcases Nat.eq_zero_or_pos z.length with e|e
  .rw[e]at Z;omega
  .exact e
 have m:j%z.length<z.length:=Nat.mod_lt _ I;have C:L.size=z.length:=by simpa using V.symm
 refine W.2 (j%z.length) c v hc ?_;rw[C]at Y;rw[<-Y];simp[C,m]
theorem Dw{J:Nat->Option (Nat×Nat)}:∀{o:qE}{cs Y:ql},mV J cs o=some Y->Y.length=cs.length
 |[],cs,Y,h=>by simp only[mV,aC]at h;rw[h]
 |(i,c)::o,cs,Y,h=>by
  simp only[mV]at h;split at h
  .simp at h
  .split at h
   .simp at h
   .rename_i hc;rw[Dw h,KR];apply Ad;intro M;exact hc (.inr ac)
def Dx{len:Nat}{ps:qE}{pv:List (Nat×Value)}(hl:ps.length=pv.length)(hp:∀(i:Nat) p q,ps[i]?=some p->pv[i]?=some q->p.1=q.1/\VR G p.2 q.2)
 (Z:ec P H t len ps=some (c,H')):mz P G w (Instr.buildSlice t len pv.toArray) id c H H':=by
 unfold ec at Z;split at Z
 .rename_i e hd;split at Z
  .rename_i s z O hz;split at Z
   .rename_i hc;obtain⟨h24,V⟩:=hc;split at Z
    .rename_i cs M;simp only[b9]at Z;obtain⟨rfl,rfl⟩:=Z;obtain⟨zv,m,W⟩:=tl hz;have J:=Ao (W G) len;obtain⟨C,o,L⟩:=w8 hl hp J M;have I:C.length=len*s:=by
      rw[<-L.1,Dw M,xc,V]
     refine⟨.cells cs 0 true,.cells (C++[]).toArray e,C.length+0,.slice (some ⟨w.heap.size,0,none⟩) len len,rfl,?_,.cells cs C [] e L,fun G' hG=>.sl hG (az _) ac⟩;rw[ij];show _=Result.ok (Value.slice (some ⟨w.heap.size,0,none⟩) len len) _
     .have Y:¬(len*s > 2^24):=by omega
      rw[V]at o;by_cases U:len*s=0
      .rw[U]at o;simp at o;simp[Instr.buildSlice,cO hd,iH O,U,newRow];rw[show Array.map (fun _:Nat=>(default:Value)) (Array.range 0)=#[]from by simp,o];rfl
      .simp only[tg]at o;simp[Instr.buildSlice,cO hd,iH O,Y,U,m,o,newRow]
    .simp at Z
   .simp at Z
  .simp at Z
 .simp at Z
theorem Dy{l r:AV}{cv:Value}(hl:VR G l M)(hc:VR G c cv)(m:mw P H t l c=some (r,H')):
 mz P G w (Instr.makeSlice t M cv) id r H H':=by
 unfold mw at m;split at m
 .rename_i e k1 l k2 c hd;cases hl;cases hc;split at m
  .rename_i s b z hs hb hz;split at m
   .rename_i C;obtain⟨o,h2,h3,h4⟩:=C;simp only[b9]at m;obtain⟨rfl,rfl⟩:=m;obtain⟨L,V,U⟩:=tl hz;obtain⟨i,hi,I⟩:∃i,P.info? e=some i/\i.bytes=b:=by simpa [cw,eI]using hb
    have m:cX=70368744177664:=rfl;rw[m]at h2 h3;have J:=Ao (U G) l;have Y:((Array.range (c*s)).map (L.cells[·% L.cells.size]!)).toList=((Array.range (l*s)).map (L.cells[·% L.cells.size]!)).toList++(((Array.range (c*s)).map (L.cells[·% L.cells.size]!)).toList.drop (l*s)):=by
     have W:l*s<=c*s:=uV _ o
     conv=>lhs;rw[<-Af (l*s) ((Array.range (c*s)).map (L.cells[·% L.cells.size]!)).toList]
     congr 1
     simp only[Ae,Array.toList_range,<-List.map_take];rw[List.take_range,th W]
    rw[h4]at J;have Z:zav G (.cells (jf z l) 0 true) _ _:=.cells _ _ (((Array.range (c*s)).map (L.cells[·% L.cells.size]!)).toList.drop (l*s)) e J;rw[<-Y,tg]at Z;refine⟨_,_,_,.slice (some ⟨w.heap.size,0,none⟩) l c,rfl,?_,Z,fun G' hG=>.sl hG o ?_⟩
    .show _=Result.ok (Value.slice (some ⟨w.heap.size,0,none⟩) l c) _;have dM:IntKind.i64.wrap (l:Int)=l:=rK _ ac;have w2:IntKind.i64.wrap (c:Int)=c:=rK _ ac;have O:¬((b:Int)*c > 2^48):=by
      have:(b:Int)*c=((c*b:Nat):Int):=by rw[Nat.mul_comm];simp
      rw[this];omega
     have h5:¬((281474976710656:Int)<(b:Int)*c):=by simpa using O
     have h6:¬(c<l):=ac;have p1:¬((c:Int)<0):=ac;have p2:¬((l:Int)<0):=ac;simp only[Instr.makeSlice,dy,cO hd,dC,asInt,asIntOf];by_cases h0:c*s=0
     .simp[pz hi,I,dM,w2,h5,h6,p1,p2,iH hs,h0,newRow];rw[show ∀f g:Nat->Value,Array.map f (Array.range 0)=Array.map g (Array.range 0)from fun f g=>aE]
     .simp[pz hi,I,dM,w2,h5,h6,p1,p2,iH hs,h0,V,newRow]
    .have W:l*s<=c*s:=uV _ o;simp;omega
   .simp at m
  .simp at m
 .simp at m
end
end Go.Ab
