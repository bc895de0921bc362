/- Lemmas for the last file. -/
import Derived.Laws.Tables
import Derived.Lib.Strings
import Derived.Test.YtbflaciihaijgaaGreatJEA
import Derived.WalkKit
set_option linter.all false
set_option maxHeartbeats 32000000
namespace Go.Ab
set_option maxRecDepth 20000
open Go
abbrev qS:=Option Value
abbrev qF:=List Value
variable{qf:Prop}
def au(h:qf:=by simp):=h
def Da(h:qf:=by simpa using hc):=h
def yw(h:qf:=by simpa using V):=h
def ac(h:qf:=by omega):=h
def mO(h:qf:=by rw[<- k r _ hr];exact hc):=h
def bW(h:qf:=by simp;omega):=h
def fG(h:qf:=by rw[aD,if_pos rfl]):=h
def gC(h:qf:=by rw[Hp.get_set,if_pos rfl]):=h
def oC(h:qf:=by rw[O];omega):=h
def Ao(h:qf:=by simp only[fJ];omega):=h
def ub(h:qf:=by simpa using Z):=h
def L3(h:qf:=by simpa [Instr.loadAt,Instr.sureAddr]using i):=h
def Ap(h:qf:=by simpa using C):=h
def HD(h:qf:=by rw[Nat.add_assoc];exact .ptr hr):=h
def sX(h:qf:=by simpa using Y):=h
def uc(h:qf:=by constructor):=h
def yx(h:qf:=by simp[binOp,Op.stringOp,ByteArray.toList_eq]):=h
def iZ(h:qf:=by assumption):=h
def HE(h:qf:=by rw[<- Nat.add_mul];congr 1;omega):=h
def wT(h:qf:=by rw[C];omega):=h
def Db(h:qf:=by simpa using hl):=h
def HF(h:qf:=by simpa [dt,Option.map_eq_some_iff]using hb):=h
def Dc(h:qf:=by simpa using m):=h
def fq(h:qf:=by rw[aD,if_neg ac]):=h
def je:=@List.getElem?_append_left
def lT:=@List.getElem?_append_right
def sY:=@List.getElem?_take
def ah:=@if_pos
def aH:=@Nat.le_refl
def dz:=@Nat.le_trans
def oD:=@Nat.lt_of_lt_of_le
def kh:=@Nat.eq_of_beq_eq_true
def HG:=@Nat.ne_of_beq_eq_false
def i4:=@decide_true
def gD:=@decide_false
def af:=@if_neg
def aI:=@Option.some.injEq
def jK:=@Nat.blt_eq
def kS:=@Array.getD_eq_getD_getElem?
def yy:=@Array.getElem?_setIfInBounds
def iJ:=@Prod.mk.injEq
def fH:=@List.getElem?_eq_some_iff
def aL:=@List.getElem?_eq_getElem
def bK:=@Nat.zero_add
def Dd:=@Go.RowKit.Below.heap_alloc
def dA:=@Nat.le_succ
def Aq:=@List.take_append_of_le_length
def fI:=@List.take_of_length_le
def De:=@List.drop_of_length_le
def fB:=@List.length_append
def mP:=@List.length_take
def eF:=@List.length_cons
def ik:=@List.length_nil
def Df:=@List.drop_drop
def nN:=@List.nil_append
def lU:=@List.append_assoc
def vd:=@List.getElem?_drop
def fT:=@Go.Sem.run_bind
def ki:=@Nat.add_assoc
def kT:=@List.length_drop
def js:=@Option.bind_eq_some_iff
def sZ:=@Option.map_eq_some_iff
def fV:=@Go.Result.andThen_ok
def dh:=@if_true
def lV:=@Go.Sem.run_pure
def oE:=@Array.ext'
def ta:=@List.getElem_of_mem
def gM:=@List.all_eq_true
def cB:=@List.getElem_mem
def As:=@Bool.eq_iff_iff
def pj:=@beq_iff_eq
def nO:=@Bool.true_eq_false
def dD:=@if_false
def kU:=@Bool.or_eq_false_iff
def nP:=@Nat.sub_self
def rq:=@Option.map_some
def kV:=@congrArg
def de:=@Nat.zero_le
def rr:=@Nat.add_mul
def L4:=@Array.toList_setIfInBounds
def sd:=@List.take_add_one
def HH:=@Decidable.byContradiction
def ve:=@Nat.add_zero
def wU:=@Array.toArray_toList
def ud:=@Nat.succ_mul
def HI:=@Array.toList_map
def eu:=@List.getElem?_map
def ue:=@List.getElem?_range
def bm:=@List.append_nil
def yz:=@Nat.mul_le_mul_right
def Dg:=@List.take_append_drop
def Dh:=@List.map_take
def At:=@Go.IntWalk.i64_in
def cT:=And.intro @aI.{0} @iJ.{0,0}
def lC:=And.intro @rq.{0,0} @aI.{0}
def oF:=And.intro @eF.{0} @ik.{0}
end Go.Ab
namespace Go.Ab
set_option maxRecDepth 20000
open Go Go.RowKit
structure Gh where
 β:Nat->Option (Nat×Nat×Nat)
 F:Nat->Nat->qS
 ρ:Nat->Int
structure Bs where
 dj:Nat
 ρ:Nat->Int
 bX:Cfg
variable{G Y:Gh}{c x a y:AV}{v Z L m:Value}{cs z:qt}{vs:qF}{w w':World}{B:Bs}{H H' X:Hp}{O b o i:Nat}{I:Type}{P:Program}{s:Sem Value}{j:Operand}{d:TypeDesc}{t:TypeId}{k:IntKind}{D:BinOp->Sx->Sx->qG}{lo:qC}
def ru(D:BinOp->Sx->Sx->qG)(ρ:Nat->Int):Prop:=∀V k a b r,D V a b=some r->ly V k (a.eval ρ) (b.eval ρ)=some (.bool r)
inductive VR (G:Gh):AV->Value->Prop
 |int (k:IntKind) (n:Int):VR G (.int k n) (.int k n)
 |sx (k:IntKind) (e:Sx):VR G (.sx k e) (.int k (e.eval G.ρ))
 |bool (b:Bool):VR G (.bool b) (.bool b)
 |aq (s:ByteArray) (l:qx) (h:s.data.toList=l):VR G (.aq l) (.string s)
 |bC:VR G .bC (.pointer none)
 |bi:VR G .bi (.map none)
 |bL:VR G .bL .nilFunc
 |ak:VR G .ak (.slice none 0 0)
 |ptr {r off b o x:Nat} (h:G.β r=some (b,o,x)):VR G (.ptr r off) (.pointer (some ⟨b,o+off,none⟩))
 |bj {cs:qt}{b o:Nat} (vs:Nat->Value) (hF:∀j,j<cs.length->G.F b (o+j)=some (vs j))
  (hv:∀(j:Nat) (c:AV),cs[j]?=some c->VR G c (vs j)):VR G (.bj cs) (.pointer (some ⟨b,o,none⟩))
 |sl {r off len z b o x cap:Nat} (h:G.β r=some (b,o,x)) (hl:len<=cap) (hc:off+cap*z<=x) :
  VR G (.sl r off len z) (.slice (some ⟨b,o+off,none⟩) len cap)
 |aE {xs:List qt}{b o cap z:Nat} (vs:Nat->Nat->Value) (hz:∀(i:Nat) (row:qt),xs[i]?=some row->row.length=z)
  (hF:∀i j,i<xs.length->j<z->G.F b (o+i*z+j)=some (vs i j))
  (hv:∀(i j:Nat) (row:qt) (c:AV),xs[i]?=some row->row[j]?=some c->VR G c (vs i j)) (hc:xs.length<=cap) :
  VR G (.aE xs) (.slice (some ⟨b,o,none⟩) xs.length cap)
 |bQ (a:Option Addr) (cap:Nat):VR G (.aE []) (.slice a 0 cap)
 |map {r b o x:Nat} (h:G.β r=some (b,o,x)):VR G (.map r) (.map (some b))
 |bm {f:Nat}{cs:qt}{vs:qF} (hl:cs.length=vs.length) (hv:∀(i:Nat) c v,cs[i]?=some c->vs[i]?=some v->VR G c v) :
  VR G (.bm f cs) (.func (.func f) #[] vs.toArray)
 |agg {cs:qt}{vs:qF} (hl:cs.length=vs.length) (hv:∀(i:Nat) c v,cs[i]?=some c->vs[i]?=some v->VR G c v) :
  VR G (.agg cs) (.agg vs.toArray)
 |aX {cs:qt}{vs:qF} (hl:cs.length=vs.length) (hv:∀(i:Nat) c v,cs[i]?=some c->vs[i]?=some v->VR G c v) :
  VR G (.aX cs) (.tuple vs.toArray)
def cc(G:Gh)(cs:qt)(vs:qF):Prop:=cs.length=vs.length/\∀(i:Nat) c v,cs[i]?=some c->vs[i]?=some v->VR G c v
def cc.nil(G:Gh):cc G [] []:=⟨rfl,au⟩
def mQ:=@cc.nil
def cc.cons(h:VR G c v)(M:cc G cs vs):cc G (c::cs) (v::vs):=by
 refine⟨by simp[M.1],fun i Y O hc V=>?_⟩;cases i with
 |zero=>simp at hc V;subst hc V;exact h
 |succ i=>exact M.2 i Y O Da yw
def kq:=@cc.cons
def cc.a7(h:cc G (c::cs) (v::vs)):VR G c v/\cc G cs vs:=
 ⟨h.2 0 c v rfl rfl,by simpa using h.1,fun i Y O hc V=>h.2 (i+1) Y O Da yw⟩
def cc.append{Z:qt}{us:qF}(h:cc G cs vs)(j:cc G Z us):cc G (cs++Z) (vs++us):=by
 refine⟨by simp[h.1,j.1],fun i c v hc V=>?_⟩;have J:=h.1;by_cases C:i<cs.length
 .rw[je C]at hc;rw[je ac]at V;exact h.2 i c v hc V
 .rw[lT ac]at hc;rw[lT ac]at V;rw[<-J]at V;exact j.2 _ c v hc V
def cc.drop(h:cc G cs vs)(n:Nat):cc G (cs.drop n) (vs.drop n):=
 ⟨by simp[h.1],fun i c v hc V=>h.2 (n+i) c v Da yw⟩
def cc.take(h:cc G cs vs)(n:Nat):cc G (cs.take n) (vs.take n):=by
 refine⟨by simp[h.1],fun i c v hc V=>?_⟩;rw[sY]at hc V;split at hc
 .rename_i C;rw[ah C]at V;exact h.2 i c v hc V
 .simp at hc
structure Ext (G G':Gh):Prop where
 β:∀r p,G.β r=some p->G'.β r=some p
 F:∀b o v,G.F b o=some v->G'.F b o=some v
 ρ:G'.ρ=G.ρ
def Ext.refl(G:Gh):Ext G G:=⟨fun _ _ h=>h,fun _ _ _ h=>h,rfl⟩
def yA:=@Ext.refl
def Ext.trans{a b c:Gh}(h:Ext a b)(k:Ext b c):Ext a c:=⟨fun r p hp=>k.β r p (h.β r p hp),fun x y v V=>k.F x y v (h.F x y v V),k.ρ.trans h.ρ⟩
def VR.mono{U:Gh}(e:Ext G U)(h:VR G c v):VR U c v:=by
 induction h with
 |int k n=>exact .int k n
 |sx k x=>rw[<-e.ρ];exact .sx k x
 |bool b=>exact .bool b
 |aq s l h=>exact .aq s l h
 |bC=>exact .bC
 |bi=>exact .bi
 |bL=>exact .bL
 |ak=>exact .ak
 |ptr h=>exact .ptr (e.β _ _ h)
 |bj vs Y _ ih=>exact .bj vs (fun j Z=>e.F _ _ _ (Y j Z)) ih
 |sl h J hc=>exact .sl (e.β _ _ h) J hc
 |aE vs I Y _ hc ih=>exact .aE vs I (fun i j C Z=>e.F _ _ _ (Y i j C Z)) ih hc
 |bQ a V=>exact .bQ a V
 |map h=>exact .map (e.β _ _ h)
 |bm J _ ih=>exact .bm J ih
 |agg J _ ih=>exact .agg J ih
 |aX J _ ih=>exact .aX J ih
def cc.mono(e:Ext G Y){c:qt}{v:qF}(h:cc G c v):cc Y c v:=⟨h.1,fun i a b z hb=>(h.2 i a b z hb).mono e⟩
theorem VR.bP(h:VR G c v):v.oneCell'=c.one:=by cases h<;>rfl
def VR.cells{G:Gh}{c:AV}{v:Value}(h:VR G c v):cc G c.cells v.cells.toList:=by
 cases h with
 |agg J V=>exact⟨by simpa [AV.cells,Value.cells]using J,by simpa [AV.cells,Value.cells]using V⟩
 |_=>exact kq (by constructor<;>assumption) (mQ _)
def ky(G:Gh)(w:World)(b o:Nat)(cs:qt):Prop:=∀(j:Nat) (c:AV),cs[j]?=some c->∃v,w.cell? ⟨b,o+j,none⟩=some v/\VR G c v
def fJ(x:Nat)(cs:qt):Bool->Nat
 |true=>x
 |false=>cs.length
def uf(G:Gh)(V:qO)(ms:List MapEntry):Prop:=
 V.length=ms.length/\∀(i:Nat) e m,V[i]?=some e->ms[i]?=some m->VR G e.1 m.key/\VR G e.2 m.val
structure R (B:Bs) (H:Hp) (w:World) (G:Gh):Prop where
 bO:B.dj<=w.heap.size
 b9:∀r p,G.β r=some p->r<H.next
 lt:∀r b o x,G.β r=some (b,o,x)->B.dj<=b/\b<w.heap.size
 cells:∀r b o x cs imm tip,G.β r=some (b,o,x)->H.get r=some (.cells cs imm tip)->ky G w b o cs
 aF:∀r b o x cs imm tip,G.β r=some (b,o,x)->H.get r=some (.cells cs imm tip)->∀j,j<imm->j<cs.length->∃v,G.F b (o+j)=some v
 ext:∀r b o x cs imm tip,G.β r=some (b,o,x)->H.get r=some (.cells cs imm tip)->cs.length<=fJ x cs tip
 bz:∀r b o x cs imm tip,G.β r=some (b,o,x)->H.get r=some (.cells cs imm tip)->∀j,imm<=j->j<fJ x cs tip ->
  (∃v,w.cell? ⟨b,o+j,none⟩=some v)/\w.frozen? ⟨b,o+j,none⟩=false/\G.F b (o+j)=none
 apart:∀r b o x cs imm tip r' b' o' x' cs' imm' tip',G.β r=some (b,o,x)->H.get r=some (.cells cs imm tip) ->
  G.β r'=some (b',o',x')->H.get r'=some (.cells cs' imm' tip')->r≠r' ->
  ∀j j',imm<=j->j<fJ x cs tip->imm'<=j'->j'<fJ x' cs' tip'->b=b'->o+j≠o'+j'
 map:∀r b o x es,G.β r=some (b,o,x)->H.get r=some (.map es)->∃ms clock,w.heap[b]?=some (.map ms clock)/\uf G es ms.toList
 aV:∀r b o x es r' b' o' x',G.β r=some (b,o,x)->H.get r=some (.map es)->G.β r'=some (b',o',x')->(H.get r').isSome->r≠r'->b≠b'
 ci:∀b o v,G.F b o=some v->w.cell? ⟨b,o,none⟩=some v
 val:G.ρ=B.ρ
 cr:ru B.bX.cl B.ρ
 bD:∀r b o x cs imm tip,G.β r=some (b,o,x)->H.get r=some (.cells cs imm tip)->cs.length<=x
structure Fr (G:Gh) (w w':World):Prop where
 os:w'.os=w.os
 tape:w'.tape=w.tape
 output:w'.output=w.output
 size:w.heap.size<=w'.heap.size
 block:∀k,k<w.heap.size->(∀r b o x,G.β r=some (b,o,x)->b≠k)->w'.heap[k]?=w.heap[k]?
def Fr.refl(G:Gh)(w:World):Fr G w w:=⟨rfl,rfl,rfl,aH _,fun _ _ _=>rfl⟩
def Au:=@Fr.refl
def ug(G Y:Gh)(w:World):Prop:=∀r b o x,Y.β r=some (b,o,x)->G.β r=some (b,o,x)\/w.heap.size<=b\/∃V j m,G.β V=some (b,j,m)
def Fr.trans{a b c:World}(h:Fr G a b)(k:Fr Y b c)(n:ug G Y a):Fr G a c:=
 ⟨k.os.trans h.os,k.tape.trans h.tape,k.output.trans h.output,dz h.size k.size,fun i C I=>
  (k.block i (oD C h.size) (fun r b o x hr J=>by
    rcases n r b o x hr with Z|Z|⟨V,j,m,Z⟩
    .exact I r b o x Z J
    .omega
    .exact I V b j m Z J)).trans (h.block i C I)⟩
def ug.refl(G:Gh)(w:World):ug G G w:=fun _ _ _ _ h=>.inl h
def wV:=@ug.refl
def ug.trans{i:Gh}(h:ug G Y w)(k:ug Y i w')(M:w.heap.size<=w'.heap.size):ug G i w:=fun r b o x hr=>by
 rcases k r b o x hr with Z|Z|⟨V,j,m,Z⟩
 .exact h r b o x Z
 .exact .inr (.inl ac)
 .rcases h V b j m Z with g|g|g
  .exact .inr (.inr ⟨V,j,m,g⟩)
  .exact .inr (.inl g)
  .exact .inr (.inr g)
structure Step (B:Bs) (nx:Nat) (G:Gh) (w:World) (H':Hp) (w':World) (G':Gh):Prop where
 r:R B H' w' G'
 ext:Ext G G'
 fr:Fr G w w'
 new:ug G G' w
 bY:∀r p,G'.β r=some p->G.β r=some p\/nx<=r
 mono:nx<=H'.next
 ch:∀b o v,G'.F b o=some v->G.F b o=some v\/B.dj<=b
variable{r:Nat}
def Step.refl(h:R B H w G):Step B H.next G w H w G:=⟨h,yA _,Au _ _,wV _ _,fun _ _ h=>.inl h,aH _,fun _ _ _ h=>.inl h⟩
def lD:=@Step.refl
def Step.trans{I:Hp}{Z:Gh}{j:World}(h:Step B O G w H' w' Y)(k:Step B H'.next Y w' I j Z):Step B O G w I j Z:=
 ⟨k.r,h.ext.trans k.ext,h.fr.trans k.fr h.new,h.new.trans k.new h.fr.size,fun r p hr=>by
  rcases k.bY r p hr with i|i
  .exact h.bY r p i
  .exact .inr (dz h.mono i),dz h.mono k.mono,fun b o v V=>by
  rcases k.ch b o v V with i|i
  .exact h.ch b o v i
  .exact .inr i⟩
structure TR (N:Nat) (G:Gh) (E:ax) (a:Act):Prop where
 size:a.tmps.size=N
 bG:∀t,VR G (E.at t) (a.tmps.getD t undef)
def TR.mono{N:Nat}{E:ax}{a:Act}(e:Ext G Y)(h:TR N G E a):TR N Y E a:=⟨h.size,fun t=>(h.bG t).mono e⟩
def VR.undef(G:Gh):VR G dK Go.undef:=.aX (cs:=[]) (vs:=[]) rfl au
def Av:=@VR.undef
@[simp] theorem uh {α:Type} (x y:α):mp true x y=x:=rfl
@[simp] theorem oG {α:Type} (x y:α):mp false x y=y:=rfl
theorem Aw(k:Nat):(T.e:T I).get k=none:=rfl
theorem wW(v:Option I)(l r:T I)(k:Nat):
 (T.n v l r).get k=mp (Nat.beq k 0) v (mp (Nat.beq (Nat.mod k 2) 1) (l.get (Nat.div k 2)) (r.get (Nat.sub (Nat.div k 2) 1))):=rfl
theorem Wy(v:Option I)(f:Nat)(t:T I)(k:Nat):wI v (f+1) t k=T.casesOn t
 (mp (Nat.beq k 0) (.n v .e .e) (mp (Nat.beq (Nat.mod k 2) 1) (.n none (wI v f .e (Nat.div k 2)) .e) (.n none .e (wI v f .e (Nat.sub (Nat.div k 2) 1)))))
 (fun u l r=>mp (Nat.beq k 0) (.n v l r) (mp (Nat.beq (Nat.mod k 2) 1) (.n u (wI v f l (Nat.div k 2)) r) (.n u l (wI v f r (Nat.sub (Nat.div k 2) 1))))):=rfl
def Wz(v:Option I):∀(f:Nat) (t:T I) (k j:Nat),k<f->(wI v f t k).get j=if j=k then v else t.get j:=by
 intro f;induction f with
 |zero=>intro t k j h;omega
 |succ f ih=>
  intro t k j h;have hd:∀n:Nat,Nat.div n 2=n/2:=fun _=>rfl;have O:∀n:Nat,Nat.mod n 2=n%2:=fun _=>rfl;have M:∀n:Nat,Nat.sub n 1=n-1:=fun _=>rfl;have Y:∀n m:Nat,Nat.beq n m=decide (n=m):=fun n m=>by
   cases h:Nat.beq n m with
   |true=>have e:=kh h;simp[e]
   |false=>have e:=HG h;simp[e]
  rw[Wy];cases t with
  |e=>
   simp only[];by_cases V:k=0
   .subst V;simp only[Y,i4,uh,wW,Aw];by_cases L:j=0<;>simp[L] ;cases decide (j.mod 2=1)<;>rfl
   .simp only[Y,V,gD,oG];by_cases U:Nat.mod k 2=1
    .simp only[U,i4,uh,wW,Y];by_cases z:j=0
     .subst z;simp[Aw];omega
     .simp only[z,gD,oG];by_cases Z:Nat.mod j 2=1
      .simp only[Z,i4,uh];rw[ih _ _ _ (by rw[hd];omega)];rw[hd,hd,O]at *;by_cases e:j=k
       .subst e;simp
       .rw[af ac,af e];rfl
      .simp only[Z,gD,oG,Aw];rw[af (by rintro rfl;exact Z U)]
    .simp only[U,gD,oG,wW,Y];by_cases z:j=0
     .subst z;simp[Aw];omega
     .simp only[z,gD,oG];by_cases Z:Nat.mod j 2=1
      .simp only[Z,i4,uh,Aw];rw[af (by rintro rfl;exact U Z)]
      .simp only[Z,gD,oG];rw[ih _ _ _ (by rw[hd,M];omega)];rw[hd,hd,M,M];rw[O]at U Z;by_cases e:j=k
       .subst e;simp
       .rw[af ac,af e];rfl
  |n u l r=>
   simp only[];by_cases V:k=0
   .subst V;simp only[Y,i4,uh,wW];by_cases L:j=0<;>simp[L]
   .simp only[Y,V,gD,oG];by_cases U:Nat.mod k 2=1
    .simp only[U,i4,uh,wW,Y];by_cases z:j=0
     .subst z;simp;omega
     .simp only[z,gD,oG];by_cases Z:Nat.mod j 2=1
      .simp only[Z,i4,uh];rw[ih _ _ _ (by rw[hd];omega)];rw[O]at U Z;rw[hd,hd];by_cases e:j=k
       .subst e;simp
       .rw[af ac,af e]
      .simp only[Z,gD,oG];rw[af (by rintro rfl;exact Z U)]
    .simp only[U,gD,oG,wW,Y];by_cases z:j=0
     .subst z;simp;omega
     .simp only[z,gD,oG];by_cases Z:Nat.mod j 2=1
      .simp only[Z,i4,uh];rw[af (by rintro rfl;exact U Z)]
      .simp only[Z,gD,oG];rw[ih _ _ _ (by rw[hd,M];omega)];rw[O]at U Z;rw[hd,hd,M,M];by_cases e:j=k
       .subst e;simp
       .rw[af ac,af e]
def T.get_set{I:Type}(t:T I)(k j:Nat)(v:Option I):(t.set k v).get j=if j=k then v else t.get j:=Wz v (k+1) t k j ac
def Di:=@T.get_set
def Hp.get_set(h:Hp)(r j:Nat)(b:HB):(h.set r b).get j=if j=r then some b else h.get j:=Di _ _ _ _
def aA:=@Hp.get_set
def gN(h:Hp)(r j:Nat):(h.aR r).get j=if j=r then none else h.get j:=Di _ _ _ _
def aD(h:Hp)(j:Nat)(b:HB):(h.alloc b).get j=if j=h.next then some b else h.get j:=Di _ _ _ _
@[simp] theorem br (h:Hp) (r:Nat) (b:HB):(h.set r b).next=h.next:=rfl
@[simp] theorem tc (h:Hp) (r:Nat):(h.aR r).next=h.next:=rfl
@[simp] theorem aZ (h:Hp) (b:HB):(h.alloc b).next=h.next+1:=rfl
theorem yB(E:ax)(d t:Nat)(v:AV):ax.at (T.set E d (some v)) t=if t=d then v else E.at t:=by
 unfold ax.at;rw[Di];split<;>rfl
def TR.put{N:Nat}{G:Gh}{E U:ax}{a:Act}(h:TR N G E a){M:Option Tmp}{c:AV}{v:Value}(V:VR G c v)(i:gB N E M c=some U):TR N G U (a.put M v):=by
 cases M with
 |none=>simp[gB]at i;subst i;exact h
 |some d=>
  simp only[gB]at i;split at i
  .rename_i hd;simp only[aI]at i;subst i;have C:d<N:=by simpa [jK]using hd
   refine⟨by simp[Act.put,h.size],fun t=>?_⟩;rw[yB];simp only[Act.put];by_cases e:t=d
   .subst e;rw[ah rfl];simpa [Array.getD,h.size,C]using V
   .rw[af e];have:=h.bG t;simpa [kS,yy,Ne.symm e]using this
  .simp at i
def rv(h:w.cell? ⟨b,o,none⟩=some v):b<w.heap.size:=World.block_lt_of_cell? w ⟨b,o,none⟩ h
def R.congr(h:R B H w G)(J:H'.next=H.next)(hg:∀r,(G.β r).isSome->H'.get r=H.get r):R B H' w G:=by
 have k:∀r p,G.β r=some p->H'.get r=H.get r:=fun r p hr=>hg r (by simp[hr]);exact{
  bO:=h.bO
  b9:=fun r p hr=>by rw[J];exact h.b9 r p hr
  lt:=h.lt
  cells:=fun r b o x g imm Z hr hc=>h.cells r b o x g imm Z hr mO
  aF:=fun r b o x g imm Z hr hc=>h.aF r b o x g imm Z hr mO
  ext:=fun r b o x g imm Z hr hc=>h.ext r b o x g imm Z hr mO
  bD:=fun r b o x g imm Z hr hc=>h.bD r b o x g imm Z hr mO
  bz:=fun r b o x g imm Z hr hc=>h.bz r b o x g imm Z hr mO
  apart:=fun r b o x g imm Z V M j m I U O hr hc Y i=>h.apart r b o x g imm Z V M j m I U O hr mO Y (by rw[<-k V _ Y];exact i)
  map:=fun r b o x L hr hc=>h.map r b o x L hr mO
  aV:=fun r b o x L V M j m hr hc Y C=>h.aV r b o x L V M j m hr mO Y (by rw[<-k V _ Y];exact C)
  ci:=h.ci
  val:=h.val
  cr:=h.cr}
def R.aR{B:Bs}{H:Hp}{w:World}{G:Gh}(h:R B H w G)(bV:Nat):R B (H.aR bV) w G:=by
 have k:∀j b,(H.aR bV).get j=some b->H.get j=some b:=fun j b O=>by
  rw[gN]at O;split at O
  .simp at O
  .exact O
 exact{
  bO:=h.bO
  b9:=h.b9
  lt:=h.lt
  cells:=fun r b o x g imm Z hr hc=>h.cells r b o x g imm Z hr (k _ _ hc)
  aF:=fun r b o x g imm Z hr hc=>h.aF r b o x g imm Z hr (k _ _ hc)
  ext:=fun r b o x g imm Z hr hc=>h.ext r b o x g imm Z hr (k _ _ hc)
  bD:=fun r b o x g imm Z hr hc=>h.bD r b o x g imm Z hr (k _ _ hc)
  bz:=fun r b o x g imm Z hr hc=>h.bz r b o x g imm Z hr (k _ _ hc)
  apart:=fun r b o x g imm Z M L J m I V U hr hc Y i=>h.apart r b o x g imm Z M L J m I V U hr (k _ _ hc) Y (k _ _ i)
  map:=fun r b o x C hr hc=>h.map r b o x C hr (k _ _ hc)
  aV:=fun r b o x C M L J m hr hc Y hs=>h.aV r b o x C M L J m hr (k _ _ hc) Y (by
   cases z:(H.aR bV).get M with
   |none=>simp[z]at hs
   |some b=>rw[k _ _ z];rfl)
  ci:=h.ci
  val:=h.val
  cr:=h.cr}
def Gh.add(G:Gh)(r:Nat)(p:Nat×Nat×Nat):Gh:={β:=fun k=>if k=r then some p else G.β k,F:=G.F,ρ:=G.ρ}
def ui(G:Gh)(r:Nat)(p:Nat×Nat×Nat):(G.add r p).β r=some p:=by simp[Gh.add]
def HJ{p:Nat×Nat×Nat}(h:∀q,G.β r=some q->False):Ext G (G.add r p):=
 ⟨fun k q j=>by
  simp only[Gh.add];split
  .rename_i e;subst e;exact(h q j).elim
  .exact j,fun _ _ _ h=>h,rfl⟩
def ky.mono(e:Ext G Y)(h:ky G w b o cs):ky Y w b o cs:=
 fun j c Z=>let ⟨v,i,g⟩:=h j c Z;⟨v,i,g.mono e⟩
def uf.mono{V:qO}{ms:List MapEntry}(e:Ext G Y)(h:uf G V ms):uf Y V ms:=
 ⟨h.1,fun i a b z hb=>⟨(h.2 i a b z hb).1.mono e,(h.2 i a b z hb).2.mono e⟩⟩
def L5{nx bV:Nat}(h:R B X w G)(hno:∀q,G.β bV=some q->False)(hlt0:bV<X.next)(J:X.get bV=some (.cells cs 0 true))(hnx:nx<=bV)
 (hv:cc G cs vs) (L:qF) (e:TypeId) :
 Step B nx G w X (w.alloc (.cells (vs++L).toArray e)) (G.add bV (w.heap.size,0,vs.length+L.length)):=by
 have U:Ext G (G.add bV (w.heap.size,0,vs.length+L.length)):=HJ hno;have C:∀k i o',k<w.heap.size->i=k->(w.alloc (.cells (vs++L).toArray e)).cell? ⟨i,o',none⟩=w.cell? ⟨i,o',none⟩:=fun k i o' hk hb=>World.cell?_alloc_lt _ _ _ (by simpa [hb]using hk);have hnew:∀j,(w.alloc (.cells (vs++L).toArray e)).cell? ⟨w.heap.size,j,none⟩=(vs++L)[j]?:=fun j=>by
  rw[World.cell?_alloc_new];simp
 have m:∀r p,(G.add bV (w.heap.size,0,vs.length+L.length)).β r=some p->(r=bV/\p=(w.heap.size,0,vs.length+L.length))\/(r≠bV/\G.β r=some p):=fun r p hr=>by
  simp only[Gh.add]at hr;split at hr
  .rename_i e;exact .inl ⟨e,by simpa using hr.symm⟩
  .rename_i e;exact .inr ⟨e,hr⟩
 refine⟨?_,U,⟨rfl,rfl,rfl,au,fun k hk _=>?_⟩,fun r b o x hr=>?_,fun r p hr=>(m r p hr).elim (fun e=>.inr (by rw[e.1];exact hnx)) (fun e=>.inl e.2),ac,fun _ _ _ h=>.inl h⟩
 .exact{
   bO:=by have:=h.bO;simp;omega
   b9:=fun r p hr=>by
    rcases m r p hr with⟨rfl,_⟩|⟨_,g⟩
    .exact hlt0
    .exact h.b9 r p g
   lt:=fun r b o x hr=>by
    rcases m r _ hr with⟨rfl,hp⟩|⟨_,g⟩
    .simp only[iJ]at hp;obtain⟨rfl,rfl,rfl⟩:=hp;exact⟨h.bO,au⟩
    .have:=h.lt r b o x g;exact⟨this.1,bW⟩
   cells:=fun r b o x I imm Z hr hc=>by
    rcases m r _ hr with⟨rfl,hp⟩|⟨Y,g⟩
    .simp only[iJ]at hp;obtain⟨rfl,rfl,rfl⟩:=hp;rw[J]at hc;simp only[aI,HB.cells.injEq]at hc;obtain⟨rfl,rfl,rfl⟩:=hc;intro j c z;have V:j<cs.length:=(fH.1 z).1;have hjv:j<vs.length:=by have:=hv.1;omega
     refine⟨vs[j],?_,(hv.2 j c _ z (aL hjv)).mono U⟩;rw[bK,hnew,je hjv,aL hjv]
    .intro j c z;obtain⟨v,h1,h2⟩:=h.cells r b o x I imm Z g hc j c z;exact⟨v,by rw[C _ _ _ (rv h1) rfl];exact h1,h2.mono U⟩
   aF:=fun r b o x I imm Z hr hc j z V=>by
    rcases m r _ hr with⟨rfl,hp⟩|⟨Y,g⟩
    .rw[J]at hc;simp only[aI,HB.cells.injEq]at hc;obtain⟨rfl,rfl,rfl⟩:=hc;omega
    .exact h.aF r b o x I imm Z g hc j z V
   ext:=fun r b o x I imm Z hr hc=>by
    rcases m r _ hr with⟨rfl,hp⟩|⟨Y,g⟩
    .simp only[iJ]at hp;obtain⟨rfl,rfl,rfl⟩:=hp;rw[J]at hc;simp only[aI,HB.cells.injEq]at hc;obtain⟨rfl,rfl,rfl⟩:=hc;have:=hv.1;simp only[fJ];omega
    .exact h.ext r b o x I imm Z g hc
   bD:=fun r b o x I imm Z hr hc=>by
    rcases m r _ hr with⟨rfl,hp⟩|⟨Y,g⟩
    .simp only[iJ]at hp;obtain⟨rfl,rfl,rfl⟩:=hp;rw[J]at hc;simp only[aI,HB.cells.injEq]at hc;obtain⟨rfl,rfl,rfl⟩:=hc;have:=hv.1;omega
    .exact h.bD r b o x I imm Z g hc
   bz:=fun r b o x I imm Z hr hc j z V=>by
    rcases m r _ hr with⟨rfl,hp⟩|⟨Y,g⟩
    .simp only[iJ]at hp;obtain⟨rfl,rfl,rfl⟩:=hp;rw[J]at hc;simp only[aI,HB.cells.injEq]at hc;obtain⟨rfl,rfl,rfl⟩:=hc;simp only[fJ]at V;refine⟨⟨(vs++L)[j]' bW,?_⟩,?_,?_⟩
     .rw[bK,hnew,aL]
     .simp
     .cases hf:G.F w.heap.size (0+j)with
      |none=>exact hf
      |some v=>have:=rv (h.ci _ _ _ hf);omega
    .obtain⟨⟨v,h1⟩,h2,h3⟩:=h.bz r b o x I imm Z g hc j z V;exact⟨⟨v,by rw[C _ _ _ (rv h1) rfl];exact h1⟩,by rw[World.frozen?_alloc_old _ _ _ (by have:=rv h1;simp;omega)];exact h2,h3⟩
   apart:=fun r b o x cs1 imm Z r' i o' x' cs2 imm' tip' hr hc g hc' Y j j' z V hj' hjl' he=>by
    rcases m r _ hr with⟨rfl,hp⟩|⟨hn1,O⟩
    .simp only[iJ]at hp;obtain⟨rfl,rfl,rfl⟩:=hp;rcases m r' _ g with⟨rfl,hp⟩|⟨hn2,M⟩
     .exact(Y rfl).elim
     .have:=(h.lt r' i o' x' M).2;omega
    .rcases m r' _ g with⟨rfl,hp⟩|⟨hn2,M⟩
     .simp only[iJ]at hp;obtain⟨rfl,rfl,rfl⟩:=hp;have:=(h.lt r b o x O).2;omega
     .exact h.apart r b o x cs1 imm Z r' i o' x' cs2 imm' tip' O hc M hc' Y j j' z V hj' hjl' he
   map:=fun r b o x es hr hc=>by
    rcases m r _ hr with⟨rfl,hp⟩|⟨Y,g⟩
    .rw[J]at hc;simp at hc
    .obtain⟨ms,clock,h1,h2⟩:=h.map r b o x es g hc;refine⟨ms,clock,?_,h2.mono U⟩;rw[Dd _ _ _ (h.lt r b o x g).2];exact h1
   aV:=fun r b o x es r' i o' x' hr hc g hs Y=>by
    rcases m r _ hr with⟨rfl,hp⟩|⟨hn1,O⟩
    .rw[J]at hc;simp at hc
    .rcases m r' _ g with⟨rfl,hp⟩|⟨hn2,M⟩
     .simp only[iJ]at hp;obtain⟨rfl,rfl,rfl⟩:=hp;have:=(h.lt r b o x O).2;omega
     .exact h.aV r b o x es r' i o' x' O hc M hs Y
   ci:=fun b o v hf=>by
    have:=h.ci b o v hf;rw[C _ _ _ (rv this) rfl];exact this
   val:=h.val
   cr:=h.cr}
 .exact Dd _ _ _ hk
 .rcases m r _ hr with⟨rfl,hp⟩|⟨_,g⟩
  .simp only[iJ]at hp;obtain⟨rfl,rfl,rfl⟩:=hp;exact .inr (.inl (aH _))
  .exact .inl g
def L6{nx bV:Nat}(h:R B X w G)(hno:∀q,G.β bV=some q->False)(hlt0:bV<X.next)(J:X.get bV=some (.map []))(hnx:nx<=bV):
 Step B nx G w X (w.alloc (.map #[] 0)) (G.add bV (w.heap.size,0,0)):=by
 have O:Ext G (G.add bV (w.heap.size,0,0)):=HJ hno;have M:∀k L z,k<w.heap.size->L=k->(w.alloc (.map #[] 0)).cell? ⟨L,z,none⟩=w.cell? ⟨L,z,none⟩:=fun k L z hk hb=>World.cell?_alloc_lt _ _ _ (by simpa [hb]using hk);have m:∀r p,(G.add bV (w.heap.size,0,0)).β r=some p->(r=bV/\p=(w.heap.size,0,0))\/(r≠bV/\G.β r=some p):=fun r p hr=>by
  simp only[Gh.add]at hr;split at hr
  .rename_i e;exact .inl ⟨e,by simpa using hr.symm⟩
  .rename_i e;exact .inr ⟨e,hr⟩
 refine⟨?_,O,⟨rfl,rfl,rfl,au,fun k hk _=>?_⟩,fun r b o x hr=>?_,fun r p hr=>(m r p hr).elim (fun e=>.inr (by rw[e.1];exact hnx)) (fun e=>.inl e.2),ac,fun _ _ _ h=>.inl h⟩
 .exact{
   bO:=by have:=h.bO;simp;omega
   b9:=fun r p hr=>by
    rcases m r p hr with⟨rfl,_⟩|⟨_,g⟩
    .exact hlt0
    .exact h.b9 r p g
   lt:=fun r b o x hr=>by
    rcases m r _ hr with⟨rfl,hp⟩|⟨_,g⟩
    .simp only[iJ]at hp;obtain⟨rfl,rfl,rfl⟩:=hp;exact⟨h.bO,au⟩
    .have:=h.lt r b o x g;exact⟨this.1,bW⟩
   cells:=fun r b o x I imm Z hr hc=>by
    rcases m r _ hr with⟨rfl,hp⟩|⟨Y,g⟩
    .rw[J]at hc;simp at hc
    .intro j c hj;obtain⟨v,i,h2⟩:=h.cells r b o x I imm Z g hc j c hj;exact⟨v,by rw[M _ _ _ (rv i) rfl];exact i,h2.mono O⟩
   aF:=fun r b o x I imm Z hr hc j hj V=>by
    rcases m r _ hr with⟨rfl,hp⟩|⟨Y,g⟩
    .rw[J]at hc;simp at hc
    .exact h.aF r b o x I imm Z g hc j hj V
   ext:=fun r b o x I imm Z hr hc=>by
    rcases m r _ hr with⟨rfl,hp⟩|⟨Y,g⟩
    .rw[J]at hc;simp at hc
    .exact h.ext r b o x I imm Z g hc
   bD:=fun r b o x I imm Z hr hc=>by
    rcases m r _ hr with⟨rfl,hp⟩|⟨Y,g⟩
    .rw[J]at hc;simp at hc
    .exact h.bD r b o x I imm Z g hc
   bz:=fun r b o x I imm Z hr hc j hj V=>by
    rcases m r _ hr with⟨rfl,hp⟩|⟨Y,g⟩
    .rw[J]at hc;simp at hc
    .obtain⟨⟨v,i⟩,h2,h3⟩:=h.bz r b o x I imm Z g hc j hj V;exact⟨⟨v,by rw[M _ _ _ (rv i) rfl];exact i⟩,by rw[World.frozen?_alloc_old _ _ _ (by have:=rv i;simp;omega)];exact h2,h3⟩
   apart:=fun r b o x cs1 imm Z r' L z x' cs2 imm' tip' hr hc g hc' Y j j' hj V hj' hjl' he=>by
    rcases m r _ hr with⟨rfl,hp⟩|⟨hn1,C⟩
    .rw[J]at hc;simp at hc
    .rcases m r' _ g with⟨rfl,hp⟩|⟨hn2,U⟩
     .rw[J]at hc';simp at hc'
     .exact h.apart r b o x cs1 imm Z r' L z x' cs2 imm' tip' C hc U hc' Y j j' hj V hj' hjl' he
   map:=fun r b o x es hr hc=>by
    rcases m r _ hr with⟨rfl,hp⟩|⟨Y,g⟩
    .simp only[iJ]at hp;obtain⟨rfl,rfl,rfl⟩:=hp;rw[J]at hc;simp only[aI,HB.map.injEq]at hc;subst hc;exact⟨#[],0,by show(w.heap.push _)[w.heap.size]?=_;simp,rfl,au⟩
    .obtain⟨ms,clock,i,h2⟩:=h.map r b o x es g hc;refine⟨ms,clock,?_,h2.mono O⟩;rw[Dd _ _ _ (h.lt r b o x g).2];exact i
   aV:=fun r b o x es r' L z x' hr hc g hs Y=>by
    rcases m r _ hr with⟨rfl,hp⟩|⟨hn1,C⟩
    .simp only[iJ]at hp;obtain⟨rfl,rfl,rfl⟩:=hp;rcases m r' _ g with⟨rfl,hp⟩|⟨hn2,U⟩
     .exact(Y rfl).elim
     .have:=(h.lt r' L z x' U).2;omega
    .rcases m r' _ g with⟨rfl,hp⟩|⟨hn2,U⟩
     .simp only[iJ]at hp;obtain⟨rfl,rfl,rfl⟩:=hp;have:=(h.lt r b o x C).2;omega
     .exact h.aV r b o x es r' L z x' C hc U hs Y
   ci:=fun b o v hf=>by
    have:=h.ci b o v hf;rw[M _ _ _ (rv this) rfl];exact this
   val:=h.val
   cr:=h.cr}
 .exact Dd _ _ _ hk
 .rcases m r _ hr with⟨rfl,hp⟩|⟨_,g⟩
  .simp only[iJ]at hp;obtain⟨rfl,rfl,rfl⟩:=hp;exact .inr (.inl (aH _))
  .exact .inl g
def R.more(h:R B H w G)(J:H.next<=X.next)(hg:∀r,r<H.next->X.get r=H.get r):R B X w G:=by
 have k:∀r p,G.β r=some p->X.get r=H.get r:=fun r p hr=>hg r (h.b9 r p hr);exact{
  bO:=h.bO
  b9:=fun r p hr=>oD (h.b9 r p hr) J
  lt:=h.lt
  cells:=fun r b o x g imm Z hr hc=>h.cells r b o x g imm Z hr mO
  aF:=fun r b o x g imm Z hr hc=>h.aF r b o x g imm Z hr mO
  ext:=fun r b o x g imm Z hr hc=>h.ext r b o x g imm Z hr mO
  bD:=fun r b o x g imm Z hr hc=>h.bD r b o x g imm Z hr mO
  bz:=fun r b o x g imm Z hr hc=>h.bz r b o x g imm Z hr mO
  apart:=fun r b o x g imm Z V M j m I U O hr hc Y i=>h.apart r b o x g imm Z V M j m I U O hr mO Y (by rw[<-k V _ Y];exact i)
  map:=fun r b o x L hr hc=>h.map r b o x L hr mO
  aV:=fun r b o x L V M j m hr hc Y C=>h.aV r b o x L V M j m hr mO Y (by rw[<-k V _ Y];exact C)
  ci:=h.ci
  val:=h.val
  cr:=h.cr}
def R.alloc(h:R B H w G)(j:HB):R B (H.alloc j) w G:=
 h.more (dA _) (fun r hr=>fq)
def Dj(h:R B H w G)(V:cc G cs vs)(L:qF)(e:TypeId):
 Step B H.next G w (H.alloc (.cells cs 0 true)) (w.alloc (.cells (vs++L).toArray e)) (G.add H.next (w.heap.size,0,vs.length+L.length)):=
 L5 (h.alloc _) (fun q Z=>by have:=h.b9 _ _ Z;omega) au fG (aH _) V L e
def WA(h:R B H w G):
 Step B H.next G w (H.alloc (.map [])) (w.alloc (.map #[] 0)) (G.add H.next (w.heap.size,0,0)):=
 L6 (h.alloc _) (fun q L=>by have:=h.b9 _ _ L;omega) au fG (aH _)
inductive zlk (G:Gh):HB->Obj->Nat->Prop
 |cells (cs:qt) (vs spare:qF) (e:TypeId) (hv:cc G cs vs):zlk G (.cells cs 0 true) (.cells (vs++spare).toArray e) (vs.length+spare.length)
 |map:zlk G (.map []) (.map #[] 0) 0
def L7{bV:Nat}{j:HB}{g:Obj}{ext:Nat}(h:R B X w G)(V:∀q,G.β bV=some q->False)(I:bV<X.next)(hg:X.get bV=some j)(Z:O<=bV)(Y:zlk G j g ext):
 Step B O G w X (w.alloc g) (G.add bV (w.heap.size,0,ext)):=by
 cases Y with
 |cells M vs L e U=>exact L5 h V I hg Z U L e
 |map=>exact L6 h V I hg Z
def se(P:Program)(G:Gh)(w:World)(s:Sem I)(f:Value->I)(c:AV)(H H':Hp):Prop:=
 ∃j g ext v,H'=H.alloc j/\s.run P w=.ok (f v) (w.alloc g)/\zlk G j g ext/\∀Y:Gh,Y.β H.next=some (w.heap.size,0,ext)->VR Y c v
def se.sim(h:R B H w G)(O:se P G w s id c H H'):∃v M Y,s.run P w=.ok v M/\VR Y c v/\Step B H.next G w H' M Y:=by
 obtain⟨j,g,ext,v,rfl,i,Z,m⟩:=O;exact⟨v,_,_,i,m _ (ui _ _ _),L7 (h.alloc _) (fun q L=>by have:=h.b9 _ _ L;omega) au fG (aH _) Z⟩
def se.next(O:se P G w s id c H H'):se P G w (do pure (.value (<-s)):Sem Next) Next.value c H H':=by
 obtain⟨j,g,ext,v,U,i,Z,m⟩:=O;exact⟨j,g,ext,v,U,by simp[i],Z,m⟩
def WB{U j:Nat}(h:b=U->o≠j):(⟨b,o,none⟩:Addr)≠⟨U,j,none⟩:=fun e=>by
 simp only[Addr.mk.injEq]at e;exact h e.1 e.2.1
theorem WC(h:R B H w G){x:Nat}{cs':qt}{imm:Nat}{tip:Bool}(hr:G.β r=some (b,o,x))(hc:H.get r=some (.cells cs imm tip))
 {j:Nat} (hj:imm<=j) (hjl:j<fJ x cs tip) 
 (hcs:∀(i:Nat) c,cs'[i]?=some c->(i=j/\VR G c v)\/(i≠j/\cs[i]?=some c)) (hl:cs'.length<=fJ x cs tip) (hl':tip=false->cs'.length=cs.length) :
 Step B H.next G w (H.set r (.cells cs' imm tip)) (w.setCell ⟨b,o+j,none⟩ v) G:=by
 obtain⟨⟨u,hu⟩,hfz,hF⟩:=h.bz r b o x cs imm tip hr hc j hj hjl;have hsame:(w.setCell ⟨b,o+j,none⟩ v).cell? ⟨b,o+j,none⟩=some v:=World.cell?_setCell_same _ _ _ hu;have M:∀b' o',(b'=b->o'≠o+j)->(w.setCell ⟨b,o+j,none⟩ v).cell? ⟨b',o',none⟩=w.cell? ⟨b',o',none⟩:=fun b' o' hne=>
  World.cell?_setCell_other _ _ _ _ (WB fun e e'=>hne e.symm e'.symm)
 have hreach:fJ x cs' tip=fJ x cs tip:=by
  cases tip with
  |true=>rfl
  |false=>exact hl' rfl
 have Y:∀k,k≠r->(H.set r (.cells cs' imm tip)).get k=H.get k:=fun k hk=>by rw[aA,af hk]
 have J:(H.set r (.cells cs' imm tip)).get r=some (.cells cs' imm tip):=gC;have hkeep:∀b' o' v',G.F b' o'=some v'->(b'=b->o'≠o+j):=fun b' o' v' hf e e'=>by subst e;subst e';rw[hF]at hf;simp at hf
 have hcell:∀b' o',(∃v',w.cell? ⟨b',o',none⟩=some v')->∃v',(w.setCell ⟨b,o+j,none⟩ v).cell? ⟨b',o',none⟩=some v':=fun b' o' ⟨v',hv'⟩=>by
  by_cases e:b'=b/\o'=o+j
  .obtain⟨rfl,rfl⟩:=e;exact⟨v,hsame⟩
  .exact⟨v',by rw[M b' o' (fun e1 e2=>e ⟨e1,e2⟩)];exact hv'⟩
 refine⟨?_,yA _,⟨rfl,rfl,rfl,au,fun k hk hn=>?_⟩,wV _ _,fun _ _ h=>.inl h,aH _,fun _ _ _ h=>.inl h⟩
 .exact{
   bO:=by have:=h.bO;simpa using this
   b9:=h.b9
   lt:=fun r b o x hr=>by have:=h.lt r b o x hr;simpa using this
   cells:=fun V L I C Z O U g z=>by
    by_cases e:V=r
    .subst e;rw[hr]at g;simp only[cT]at g;obtain⟨rfl,rfl,rfl⟩:=g;rw[J]at z;simp only[aI,HB.cells.injEq]at z;obtain⟨rfl,rfl,rfl⟩:=z;intro i c hi;rcases hcs i c hi with⟨rfl,hv⟩|⟨hne,hi'⟩
     .exact⟨v,hsame,hv⟩
     .obtain⟨v',h1,h2⟩:=h.cells V b o x cs imm tip hr hc i c hi';exact⟨v',by rw[M _ _ (fun _=>ac)];exact h1,h2⟩
    .rw[Y V e]at z;intro i c hi;obtain⟨v',h1,h2⟩:=h.cells V L I C Z O U g z i c hi;refine⟨v',?_,h2⟩;rw[M]
     .exact h1
     .have m:i<Z.length:=(fH.1 hi).1;have hex:=h.ext V L I C Z O U g z;by_cases hi1:O<=i
      .exact h.apart V L I C Z O U r b o x cs imm tip g z hr hc e i j hi1 ac hj hjl
      .obtain⟨u',hu'⟩:=h.aF V L I C Z O U g z i ac m;exact hkeep _ _ _ hu'
   aF:=fun V L I C Z O U g z i hi m=>by
    by_cases e:V=r
    .subst e;rw[hr]at g;simp only[cT]at g;obtain⟨rfl,rfl,rfl⟩:=g;rw[J]at z;simp only[aI,HB.cells.injEq]at z;obtain⟨rfl,rfl,rfl⟩:=z;rcases hcs i _ (aL m)with⟨rfl,_⟩|⟨_,hi'⟩
     .omega
     .exact h.aF V b o x cs imm tip hr hc i hi (fH.1 hi').1
    .rw[Y V e]at z;exact h.aF V L I C Z O U g z i hi m
   ext:=fun V L I C Z O U g z=>by
    by_cases e:V=r
    .subst e;rw[hr]at g;simp only[cT]at g;obtain⟨rfl,rfl,rfl⟩:=g;rw[J]at z;simp only[aI,HB.cells.injEq]at z;obtain⟨rfl,rfl,rfl⟩:=z;rw[hreach];exact hl
    .rw[Y V e]at z;exact h.ext V L I C Z O U g z
   bD:=fun V L I C Z O U g z=>by
    by_cases e:V=r
    .subst e;rw[hr]at g;simp only[cT]at g;obtain⟨rfl,rfl,rfl⟩:=g;rw[J]at z;simp only[aI,HB.cells.injEq]at z;obtain⟨rfl,rfl,rfl⟩:=z;rcases Bool.eq_false_or_eq_true tip with e1|e1
     .subst e1;exact hl
     .rw[hl' e1];exact h.bD _ _ _ _ _ _ _ hr hc
    .rw[Y V e]at z;exact h.bD V L I C Z O U g z
   bz:=fun V L I C Z O U g z i hi m=>by
    by_cases e:V=r
    .subst e;rw[hr]at g;simp only[cT]at g;obtain⟨rfl,rfl,rfl⟩:=g;rw[J]at z;simp only[aI,HB.cells.injEq]at z;obtain⟨rfl,rfl,rfl⟩:=z;rw[hreach]at m;obtain⟨h1,h2,h3⟩:=h.bz V b o x cs imm tip hr hc i hi m;exact⟨hcell _ _ h1,by rw[World.frozen?_setCell];exact h2,h3⟩
    .rw[Y V e]at z;obtain⟨h1,h2,h3⟩:=h.bz V L I C Z O U g z i hi m;exact⟨hcell _ _ h1,by rw[World.frozen?_setCell];exact h2,h3⟩
   apart:=fun V L I C Z O U r2 b2 o2 x2 cs2 imm2 tip2 g z hr2 hc2 hne i i' hi m hi' hil'=>by
    have key:∀k bk ok xk csk immk tipk,G.β k=some (bk,ok,xk)->(H.set r (.cells cs' imm tip)).get k=some (.cells csk immk tipk) ->
     ∃cs0,H.get k=some (.cells cs0 immk tipk)/\fJ xk cs0 tipk=fJ xk csk tipk:=fun k bk ok xk csk immk tipk hk hck=>by
     by_cases e:k=r
     .subst e;rw[hr]at hk;simp only[cT]at hk;obtain⟨rfl,rfl,rfl⟩:=hk;rw[J]at hck;simp only[aI,HB.cells.injEq]at hck;obtain⟨rfl,rfl,rfl⟩:=hck;exact⟨cs,hc,hreach.symm⟩
     .rw[Y k e]at hck;exact⟨csk,hck,rfl⟩
    obtain⟨c1,g1,e1⟩:=key V L I C Z O U g z;obtain⟨c2,g2,e2⟩:=key r2 b2 o2 x2 cs2 imm2 tip2 hr2 hc2;exact h.apart V L I C c1 O U r2 b2 o2 x2 c2 imm2 tip2 g g1 hr2 g2 hne i i' hi ac hi' ac
   map:=fun V L I C es g z=>by
    by_cases e:V=r
    .subst e;rw[J]at z;simp at z
    .rw[Y V e]at z;obtain⟨ms,clock,h1,h2⟩:=h.map V L I C es g z;refine⟨ms,clock,?_,h2⟩;have hb:L≠b:=fun eb=>by
      subst eb;unfold World.cell? at hu;rw[h1]at hu;simp at hu
     rw[Below.heap_setCell _ _ _ _ hb];exact h1
   aV:=fun V L I C es r2 b2 o2 x2 g z hr2 hs hne=>by
    by_cases e:V=r
    .subst e;rw[J]at z;simp at z
    .rw[Y V e]at z;refine h.aV V L I C es r2 b2 o2 x2 g z hr2 ?_ hne;by_cases e2:r2=r
     .subst e2;rw[hc];rfl
     .rw[Y r2 e2]at hs;exact hs
   ci:=fun b' o' v' hf=>by rw[M _ _ (hkeep _ _ _ hf)];exact h.ci _ _ _ hf
   val:=h.val
   cr:=h.cr}
 .exact Below.heap_setCell _ _ _ _ (fun e=>hn r b o x hr e.symm)
def WD(P:Program)(h:R B H w G){x:Nat}{imm:Nat}{tip:Bool}(hr:G.β r=some (b,o,x))(Z:H.get r=some (.cells cs imm tip))
 {j:Nat} (Y:imm<=j) (J:j<fJ x cs tip)  (g:v.oneCell'=true) :
 (store ⟨b,o+j,none⟩ v).run P w=.ok () (w.setCell ⟨b,o+j,none⟩ v):=by
 obtain⟨⟨u,z⟩,i,_⟩:=h.bz r b o x cs imm tip hr Z j Y J;rw[run_store P w _ v _ g,z];simp[i]
def WE(cs:qt)(off:Nat)(c:AV)(Z:qt)(h:off<=cs.length):splice cs off (c::Z)=splice (splice cs off [c]) (off+1) Z:=by
 unfold splice;have i:(List.take off cs++[c]++List.drop (off+[c].length) cs).take (off+1)=List.take off cs++[c]:=by
  rw[Aq bW,fI bW]
 have g:(List.take off cs++[c]++List.drop (off+[c].length) cs).drop (off+1+Z.length)=List.drop (off+(Z.length+1)) cs:=by
  rw[List.drop_append,De bW];simp only[fB,mP,oF,Df,nN]
  congr 1
  omega
 rw[i,g];simp
def WF(cs:qt)(off:Nat):splice cs off []=cs:=by simp[splice]
def WG(cs:qt)(off:Nat)(Z:qt)(h:off+Z.length<=cs.length):(splice cs off Z).length=cs.length:=by simp[splice];omega
def WH(cs:qt)(off:Nat)(Z:qt)(h:off<=cs.length):(splice cs off Z).length=max cs.length (off+Z.length):=by simp[splice];omega
def L8(cs Z:qt):splice cs cs.length Z=cs++Z:=by simp[splice]
def splice_one{j:Nat}(c:AV)(Z:j<=cs.length){d:AV}(h:(splice cs j [c])[i]?=some d):(i=j/\d=c)\/(i≠j/\cs[i]?=some d):=by
 unfold splice at h;by_cases C:i<j
 .rw[lU,je bW,sY,ah C]at h;exact .inr ⟨ac,h⟩
 .by_cases e:i=j
  .subst e;rw[lU,lT bW]at h;have I:i-(List.take i cs).length=0:=bW;rw[I]at h;simp at h;exact .inl ⟨rfl,h.symm⟩
  .rw[lT bW]at h;rw[vd]at h;refine .inr ⟨e,?_⟩;rw[<-h]
   congr 1
   simp;omega
def pm(b o i:Nat):(⟨b,o,none⟩:Addr).add i=⟨b,o+i,none⟩:=by
 unfold Addr.add;split
 .rename_i e;subst e;rfl
 .rfl
def Step.congr(h:Step B O G w H w' Y)(I:H'.next=H.next)(hg:∀r,(Y.β r).isSome->H'.get r=H.get r):Step B O G w H' w' Y:=
 ⟨h.r.congr I hg,h.ext,h.fr,h.new,h.bY,by rw[I];exact h.mono,h.ch⟩
theorem HK(P:Program){x:Nat}{imm:Nat}{tip:Bool}(hr:G.β r=some (b,o,x))(off:Nat):∀(Y:qt) (vs:qF) (g:qt) (i:Nat) (H:Hp) (w:World),R B H w G ->
 H.get r=some (.cells g imm tip)->cc G Y vs->(∀v∈vs,v.oneCell'=true)->imm<=off+i->off+i<=g.length->off+i+Y.length<=fJ x g tip->(tip=false->off+i+Y.length<=g.length) ->
 ∃z,(storeCells ⟨b,o+off,none⟩ vs i).run P w=.ok () z/\Step B H.next G w (H.set r (.cells (splice g (off+i) Y) imm tip)) z G:=by
 intro Y;induction Y with
 |nil=>
  intro vs g i H w I hc hv V hi U C _;have L:vs=[]:=by have:=hv.1;simpa using this.symm
  subst L;refine⟨w,rfl,(lD I).congr rfl fun k _=>?_⟩;rw[aA,WF];split
  .rename_i e;subst e;rw[hc]
  .rfl
 |cons c Y ih=>
  intro vs g i H w I hc hv V hi U C Z;cases vs with
  |nil=>have:=hv.1;simp at this
  |cons v vs=>
   obtain⟨hv1,L⟩:=hv.a7;simp only[eF]at C Z;have O:(splice g (off+i) [c]).length=max g.length (off+i+1):=WH _ _ _ U;have hext:=I.ext r b o x g imm tip hr hc;have m:=WC I hr hc (j:=off+i) (cs':=splice g (off+i) [c]) (v:=v) hi ac
    (fun k d hk=>by
      rcases splice_one c U hk with⟨e1,e2⟩|h2
      .subst e2;exact .inl ⟨e1,hv1⟩
      .exact .inr h2)
    (by rw[O];cases tip with
        |true=>simp only[fJ]at *;omega
        |false=>have:=Z rfl;simp only[fJ]at *;omega)
    (fun ht=>by have:=Z ht;rw[O];omega)
   have J:=WD P I hr hc (j:=off+i) hi ac (v:=v) (V v au);have hg1:(H.set r (.cells (splice g (off+i) [c]) imm tip)).get r=some (.cells (splice g (off+i) [c]) imm tip):=gC;have M:fJ x (splice g (off+i) [c]) tip=fJ x g tip:=by
    cases tip with
    |true=>rfl
    |false=>have:=Z rfl;simp only[fJ];omega
   obtain⟨z,hw',hs'⟩:=ih vs (splice g (off+i) [c]) (i+1) _ _ m.r hg1 L (fun u hu=>V u (by simp[hu])) ac oC (by rw[M];omega) (fun ht=>by have:=Z ht;rw[O];omega);refine⟨z,?_,(m.trans hs').congr rfl fun k _=>?_⟩
   .simp only[storeCells,fT];rw[pm,ki,J];exact hw'
   .rw[aA,aA,aA,WE _ _ _ _ U];split
    .rfl
    .rfl
def L9(h:R B H w G){x:Nat}{imm:Nat}(hr:G.β r=some (b,o,x))(hc:H.get r=some (.cells cs imm true)){off:Nat}(hoff:off<=cs.length):
 Step B H.next G w ((H.aR r).alloc (.cells (cs.drop off) (imm-off) true)) w (G.add H.next (b,o+off,x-off)):=by
 have hno:∀q,G.β H.next=some q->False:=fun q hq=>by have:=h.b9 _ _ hq;omega
 have hext:Ext G (G.add H.next (b,o+off,x-off)):=HJ hno;have hrn:r≠H.next:=fun e=>by subst e;exact hno _ hr
 have V:∀k p,(G.add H.next (b,o+off,x-off)).β k=some p->(k=H.next/\p=(b,o+off,x-off))\/(k≠H.next/\G.β k=some p):=fun k p O=>by
  simp only[Gh.add]at O;split at O
  .rename_i e;exact .inl ⟨e,by simpa using O.symm⟩
  .rename_i e;exact .inr ⟨e,O⟩
 have Z:∀k q,k≠H.next->((H.aR r).alloc (.cells (cs.drop off) (imm-off) true)).get k=some q->k≠r/\H.get k=some q:=fun k q O hq=>by
  rw[aD,tc,af O,gN]at hq;split at hq
  .simp at hq
  .rename_i e;exact⟨e,hq⟩
 have J:((H.aR r).alloc (.cells (cs.drop off) (imm-off) true)).get H.next=some (.cells (cs.drop off) (imm-off) true):=by rw[aD,tc,ah rfl]
 have hlen:=h.ext r b o x cs imm true hr hc;simp only[fJ]at hlen;refine⟨?_,hext,Au _ _,fun k b' o' x' O=>?_,fun k p O=>(V k p O).elim (fun e=>.inr (by rw[e.1];exact aH _)) (fun e=>.inl e.2),au,fun _ _ _ h=>.inl h⟩
 .exact{
   bO:=h.bO
   b9:=fun k p O=>by
    rcases V k p O with⟨rfl,_⟩|⟨_,z⟩
    .simp
    .have:=h.b9 k p z;simp;omega
   lt:=fun k b' o' x' O=>by
    rcases V k _ O with⟨rfl,hp⟩|⟨_,z⟩
    .simp only[iJ]at hp;obtain⟨rfl,rfl,rfl⟩:=hp;exact h.lt r _ _ _ hr
    .exact h.lt k b' o' x' z
   cells:=fun k b' o' x' I g U O C=>by
    rcases V k _ O with⟨rfl,hp⟩|⟨Y,z⟩
    .simp only[iJ]at hp;obtain⟨rfl,rfl,rfl⟩:=hp;rw[J]at C;simp only[aI,HB.cells.injEq]at C;obtain⟨rfl,rfl,rfl⟩:=C;intro j c hj;rw[vd]at hj;obtain⟨v,h1,h2⟩:=h.cells r _ _ _ _ _ _ hr hc (off+j) c hj;exact⟨v,by rw[ki];exact h1,h2.mono hext⟩
    .obtain⟨_,m⟩:=Z k _ Y C;exact(h.cells k b' o' x' I g U z m).mono hext
   aF:=fun k b' o' x' I g U O C j hj hjl=>by
    rcases V k _ O with⟨rfl,hp⟩|⟨Y,z⟩
    .simp only[iJ]at hp;obtain⟨rfl,rfl,rfl⟩:=hp;rw[J]at C;simp only[aI,HB.cells.injEq]at C;obtain⟨rfl,rfl,rfl⟩:=C;rw[kT]at hjl;rw[ki];exact h.aF r _ _ _ _ _ _ hr hc (off+j) ac ac
    .obtain⟨_,m⟩:=Z k _ Y C;exact h.aF k b' o' x' I g U z m j hj hjl
   ext:=fun k b' o' x' I g U O C=>by
    rcases V k _ O with⟨rfl,hp⟩|⟨Y,z⟩
    .simp only[iJ]at hp;obtain⟨rfl,rfl,rfl⟩:=hp;rw[J]at C;simp only[aI,HB.cells.injEq]at C;obtain⟨rfl,rfl,rfl⟩:=C;simp only[fJ,kT];omega
    .obtain⟨_,m⟩:=Z k _ Y C;exact h.ext k b' o' x' I g U z m
   bD:=fun k b' o' x' I g U O C=>by
    rcases V k _ O with⟨rfl,hp⟩|⟨Y,z⟩
    .simp only[iJ]at hp;obtain⟨rfl,rfl,rfl⟩:=hp;rw[J]at C;simp only[aI,HB.cells.injEq]at C;obtain⟨rfl,rfl,rfl⟩:=C;simp only[kT];omega
    .obtain⟨_,m⟩:=Z k _ Y C;exact h.bD k b' o' x' I g U z m
   bz:=fun k b' o' x' I g U O C j hj hjl=>by
    rcases V k _ O with⟨rfl,hp⟩|⟨Y,z⟩
    .simp only[iJ]at hp;obtain⟨rfl,rfl,rfl⟩:=hp;rw[J]at C;simp only[aI,HB.cells.injEq]at C;obtain⟨rfl,rfl,rfl⟩:=C;simp only[fJ]at hjl;rw[ki];exact h.bz r _ _ _ _ _ _ hr hc (off+j) ac Ao
    .obtain⟨_,m⟩:=Z k _ Y C;exact h.bz k b' o' x' I g U z m j hj hjl
   apart:=fun k1 b1 o1 x1 cs1 imm1 tip1 k2 b2 o2 x2 cs2 imm2 tip2 hk1 M hk2 hc2 Y j1 j2 hj1 hl1 hj2 hl2 he=>by
    rcases V k1 _ hk1 with⟨rfl,hp⟩|⟨hn1,i⟩
    .simp only[iJ]at hp;obtain⟨rfl,rfl,rfl⟩:=hp;rw[J]at M;simp only[aI,HB.cells.injEq]at M;obtain⟨rfl,rfl,rfl⟩:=M;simp only[fJ]at hl1;rcases V k2 _ hk2 with⟨rfl,hp⟩|⟨hn2,hk2'⟩
     .exact(Y rfl).elim
     .obtain⟨hr2,hc2'⟩:=Z k2 _ hn2 hc2;rw[ki];exact h.apart r _ _ _ _ _ _ k2 b2 o2 x2 cs2 imm2 tip2 hr hc hk2' hc2' (Ne.symm hr2) (off+j1) j2 ac Ao hj2 hl2 he
    .obtain⟨hr1,L⟩:=Z k1 _ hn1 M;rcases V k2 _ hk2 with⟨rfl,hp⟩|⟨hn2,hk2'⟩
     .simp only[iJ]at hp;obtain⟨rfl,rfl,rfl⟩:=hp;rw[J]at hc2;simp only[aI,HB.cells.injEq]at hc2;obtain⟨rfl,rfl,rfl⟩:=hc2;simp only[fJ]at hl2;rw[ki];exact h.apart k1 b1 o1 x1 cs1 imm1 tip1 r _ _ _ _ _ _ i L hr hc hr1 j1 (off+j2) hj1 hl1 ac Ao he
     .obtain⟨hr2,hc2'⟩:=Z k2 _ hn2 hc2;exact h.apart k1 b1 o1 x1 cs1 imm1 tip1 k2 b2 o2 x2 cs2 imm2 tip2 i L hk2' hc2' Y j1 j2 hj1 hl1 hj2 hl2 he
   map:=fun k b' o' x' es O C=>by
    rcases V k _ O with⟨rfl,hp⟩|⟨Y,z⟩
    .rw[J]at C;simp at C
    .obtain⟨_,m⟩:=Z k _ Y C;obtain⟨ms,clock,h1,h2⟩:=h.map k b' o' x' es z m;exact⟨ms,clock,h1,h2.mono hext⟩
   aV:=fun k1 b1 o1 x1 es k2 b2 o2 x2 hk1 M hk2 hs Y=>by
    rcases V k1 _ hk1 with⟨rfl,hp⟩|⟨hn1,i⟩
    .rw[J]at M;simp at M
    .obtain⟨hr1,L⟩:=Z k1 _ hn1 M;rcases V k2 _ hk2 with⟨rfl,hp⟩|⟨hn2,hk2'⟩
     .simp only[iJ]at hp;obtain⟨rfl,rfl,rfl⟩:=hp;exact h.aV k1 b1 o1 x1 es r _ _ _ i L hr (by rw[hc];rfl) hr1
     .cases hh:((H.aR r).alloc (.cells (cs.drop off) (imm-off) true)).get k2 with
      |none=>simp[hh]at hs
      |some q=>
       obtain⟨_,hq⟩:=Z k2 q hn2 hh;exact h.aV k1 b1 o1 x1 es k2 b2 o2 x2 i L hk2' (by rw[hq];rfl) Y
   ci:=h.ci
   val:=h.val
   cr:=h.cr}
 .rcases V k _ O with⟨rfl,hp⟩|⟨_,z⟩
  .simp only[iJ]at hp;obtain⟨rfl,rfl,rfl⟩:=hp;exact .inr (.inr ⟨r,o,x,hr⟩)
  .exact .inl z
def Gh.aG(G:Gh)(w:World)(b o n:Nat):Gh:={β:=G.β,F:=fun U j=>match G.F U j with
 |some v=>some v
 |none=>if U=b/\o<=j/\j<o+n then w.cell? ⟨U,j,none⟩else none,ρ:=G.ρ}
def WI(G:Gh)(w:World)(b o n:Nat):Ext G (G.aG w b o n):=⟨fun _ _ h=>h,fun U j v h=>by simp[Gh.aG,h],rfl⟩
def Ax(h:R B H w G){x:Nat}{imm:Nat}{tip:Bool}(hr:G.β r=some (b,o,x))(hc:H.get r=some (.cells cs imm tip)){n:Nat}(himm:imm<=n)(hn:n<=cs.length)(V:Bool)(ht:V=true->tip=true):
 Step B H.next G w (H.set r (.cells cs n V)) w (G.aG w b o n):=by
 have i:Ext G (G.aG w b o n):=WI _ _ _ _ _;have Y:∀k,k≠r->(H.set r (.cells cs n V)).get k=H.get k:=fun k L=>by rw[aA,af L]
 have J:(H.set r (.cells cs n V)).get r=some (.cells cs n V):=gC;have hex:=h.ext r b o x cs imm tip hr hc;have hreach:∀j,n<=j->j<fJ x cs V->j<fJ x cs tip:=fun j hj M=>by
  cases V with
  |true=>rw[ht rfl];exact M
  |false=>simp only[fJ]at M;omega
 have hF:∀O Z v,(G.aG w b o n).F O Z=some v->w.cell? ⟨O,Z,none⟩=some v:=fun O Z v hf=>by
  simp only[Gh.aG]at hf;split at hf
  .rename_i u hu;simp only[aI]at hf;subst hf;exact h.ci _ _ _ hu
  .split at hf
   .exact hf
   .simp at hf
 have hFin:∀j,j<n->∃v,(G.aG w b o n).F b (o+j)=some v:=fun j hj=>by
  obtain⟨v,h1,_⟩:=h.cells r b o x cs imm tip hr hc j _ (aL ac);simp only[Gh.aG];split
  .rename_i u _;exact⟨u,rfl⟩
  .rw[ah ⟨by trivial,ac,ac⟩];exact⟨v,h1⟩
 have hFout:∀O Z,G.F O Z=none->(O=b->Z<o\/o+n<=Z)->(G.aG w b o n).F O Z=none:=fun O Z hf hne=>by
  simp only[Gh.aG,hf];rw[af];rintro⟨e1,e2,e3⟩;have:=hne e1;omega
 refine⟨?_,i,Au _ _,wV _ _,fun _ _ h=>.inl h,aH _,fun O Z v' hv=>?_⟩;rotate_left
 .simp only[Gh.aG]at hv;split at hv
  .rename_i v'' hF';exact .inl (by rw[hF'];exact hv)
  .split at hv
   .rename_i hc';exact .inr (by rw[hc'.1];exact(h.lt r b o x hr).1)
   .simp at hv
 exact{
  bO:=h.bO
  b9:=h.b9
  lt:=h.lt
  cells:=fun k O Z m I g U L C=>by
   by_cases e:k=r
   .subst e;have z:G.β k=some (O,Z,m):=L;rw[hr]at z;simp only[cT]at z;obtain⟨rfl,rfl,rfl⟩:=z;rw[J]at C;simp only[aI,HB.cells.injEq]at C;obtain⟨rfl,rfl,rfl⟩:=C;exact(h.cells k _ _ _ _ _ _ hr hc).mono i
   .rw[Y k e]at C;exact(h.cells k O Z m I g U L C).mono i
  aF:=fun k O Z m I g U L C j hj M=>by
   by_cases e:k=r
   .subst e;have z:G.β k=some (O,Z,m):=L;rw[hr]at z;simp only[cT]at z;obtain⟨rfl,rfl,rfl⟩:=z;rw[J]at C;simp only[aI,HB.cells.injEq]at C;obtain⟨rfl,rfl,rfl⟩:=C;exact hFin j hj
   .rw[Y k e]at C;obtain⟨v,hv⟩:=h.aF k O Z m I g U L C j hj M;exact⟨v,i.F _ _ _ hv⟩
  ext:=fun k O Z m I g U L C=>by
   by_cases e:k=r
   .subst e;have z:G.β k=some (O,Z,m):=L;rw[hr]at z;simp only[cT]at z;obtain⟨rfl,rfl,rfl⟩:=z;rw[J]at C;simp only[aI,HB.cells.injEq]at C;obtain⟨rfl,rfl,rfl⟩:=C;cases V with
    |true=>rw[ht rfl]at hex;exact hex
    |false=>exact aH _
   .rw[Y k e]at C;exact h.ext k O Z m I g U L C
  bD:=fun k O Z m I g U L C=>by
   by_cases e:k=r
   .subst e;have z:G.β k=some (O,Z,m):=L;rw[hr]at z;simp only[cT]at z;obtain⟨rfl,rfl,rfl⟩:=z;rw[J]at C;simp only[aI,HB.cells.injEq]at C;obtain⟨rfl,rfl,rfl⟩:=C;exact h.bD _ _ _ _ _ _ _ hr hc
   .rw[Y k e]at C;exact h.bD k O Z m I g U L C
  bz:=fun k O Z m I g U L C j hj M=>by
   by_cases e:k=r
   .subst e;have z:G.β k=some (O,Z,m):=L;rw[hr]at z;simp only[cT]at z;obtain⟨rfl,rfl,rfl⟩:=z;rw[J]at C;simp only[aI,HB.cells.injEq]at C;obtain⟨rfl,rfl,rfl⟩:=C;have h1:=hreach j hj M;obtain⟨g1,g2,g3⟩:=h.bz k _ _ _ _ _ _ hr hc j ac h1;exact⟨g1,g2,hFout _ _ g3 (fun _=>ac)⟩
   .rw[Y k e]at C;obtain⟨g1,g2,g3⟩:=h.bz k O Z m I g U L C j hj M;refine⟨g1,g2,hFout _ _ g3 (fun eb=>?_)⟩;by_cases hin:o<=Z+j/\Z+j<o+n
    .exfalso;have hj0:Z+j-o<cs.length:=ac;have hj1:Z+j-o<fJ x cs tip:=ac;by_cases hi:imm<=Z+j-o
     .exact h.apart k O Z m I g U r b o x cs imm tip L C hr hc e j (Z+j-o) hj M hi hj1 eb ac
     .obtain⟨v,hv⟩:=h.aF r b o x cs imm tip hr hc (Z+j-o) ac hj0;rw[show o+(Z+j-o)=Z+j by omega,<-eb,g3]at hv;simp at hv
    .omega
  apart:=fun k1 b1 o1 x1 cs1 imm1 U k2 b2 o2 x2 cs2 imm2 tip2 hk1 hc1 hk2 hc2 hne j1 j2 hj1 hl1 hj2 hl2 he=>by
   have key:∀k bk ok xk csk immk tipk j,G.β k=some (bk,ok,xk)->(H.set r (.cells cs n V)).get k=some (.cells csk immk tipk)->immk<=j->j<fJ xk csk tipk ->
    ∃cs0 imm0 tip0,H.get k=some (.cells cs0 imm0 tip0)/\imm0<=j/\j<fJ xk cs0 tip0:=fun k bk ok xk csk immk tipk j L C hj M=>by
    by_cases e:k=r
    .subst e;have z:G.β k=some (bk,ok,xk):=L;rw[hr]at z;simp only[cT]at z;obtain⟨rfl,rfl,rfl⟩:=z;rw[J]at C;simp only[aI,HB.cells.injEq]at C;obtain⟨rfl,rfl,rfl⟩:=C;exact⟨cs,imm,tip,hc,ac,hreach j hj M⟩
    .rw[Y k e]at C;exact⟨csk,immk,tipk,C,hj,M⟩
   obtain⟨c1,i1,t1,g1,a1,l1⟩:=key k1 b1 o1 x1 cs1 imm1 U j1 hk1 hc1 hj1 hl1;obtain⟨c2,i2,t2,g2,a2,l2⟩:=key k2 b2 o2 x2 cs2 imm2 tip2 j2 hk2 hc2 hj2 hl2;exact h.apart k1 b1 o1 x1 c1 i1 t1 k2 b2 o2 x2 c2 i2 t2 hk1 g1 hk2 g2 hne j1 j2 a1 l1 a2 l2 he
  map:=fun k O Z m es L C=>by
   by_cases e:k=r
   .subst e;rw[J]at C;simp at C
   .rw[Y k e]at C;obtain⟨ms,clock,h1,h2⟩:=h.map k O Z m es L C;exact⟨ms,clock,h1,h2.mono i⟩
  aV:=fun k1 b1 o1 x1 es k2 b2 o2 x2 hk1 hc1 hk2 hs hne=>by
   by_cases e:k1=r
   .subst e;rw[J]at hc1;simp at hc1
   .rw[Y k1 e]at hc1;refine h.aV k1 b1 o1 x1 es k2 b2 o2 x2 hk1 hc1 hk2 ?_ hne;by_cases e2:k2=r
    .subst e2;rw[hc];rfl
    .rw[Y k2 e2]at hs;exact hs
  ci:=hF
  val:=h.val
  cr:=h.cr}
def WJ(h:R B H w G){x:Nat}(hr:G.β r=some (b,o,x))(hx:cs.length<=x)(hc:ky G w b o cs)(hF:∀j,j<cs.length->∃v,G.F b (o+j)=some v)
 (hmap:∀r1 b1 o1 x1 es,G.β r1=some (b1,o1,x1)->H.get r1=some (.map es)->b1≠b) :
 Step B H.next G w (H.set r (.cells cs cs.length false)) w G:=by
 have Z:∀k,k≠r->(H.set r (.cells cs cs.length false)).get k=H.get k:=fun k Y=>by rw[aA,af Y]
 have J:(H.set r (.cells cs cs.length false)).get r=some (.cells cs cs.length false):=gC;have hβ:∀k U O m,k=r->G.β k=some (U,O,m)->U=b/\O=o/\m=x:=fun k U O m e Y=>by
  subst e;rw[hr]at Y;simp only[cT]at Y;exact⟨Y.1.symm,Y.2.1.symm,Y.2.2.symm⟩
 have L:∀I g V,(H.set r (.cells cs cs.length false)).get r=some (.cells I g V)->I=cs/\g=cs.length/\V=false:=fun I g V Y=>by
  rw[J]at Y;simp only[aI,HB.cells.injEq]at Y;exact⟨Y.1.symm,Y.2.1.symm,Y.2.2.symm⟩
 refine⟨?_,yA _,Au _ _,wV _ _,fun _ _ h=>.inl h,aH _,fun _ _ _ h=>.inl h⟩;exact{
  bO:=h.bO
  b9:=h.b9
  lt:=h.lt
  cells:=fun k U O m I g V Y C=>by
   by_cases e:k=r
   .obtain⟨rfl,rfl,rfl⟩:=hβ k _ _ _ e Y;subst e;obtain⟨rfl,rfl,rfl⟩:=L _ _ _ C;exact hc
   .rw[Z k e]at C;exact h.cells k U O m I g V Y C
  aF:=fun k U O m I g V Y C j hj M=>by
   by_cases e:k=r
   .obtain⟨rfl,rfl,rfl⟩:=hβ k _ _ _ e Y;subst e;obtain⟨rfl,rfl,rfl⟩:=L _ _ _ C;exact hF j M
   .rw[Z k e]at C;exact h.aF k U O m I g V Y C j hj M
  ext:=fun k U O m I g V Y C=>by
   by_cases e:k=r
   .subst e;obtain⟨rfl,rfl,rfl⟩:=L _ _ _ C;exact aH _
   .rw[Z k e]at C;exact h.ext k U O m I g V Y C
  bD:=fun k U O m I g V Y C=>by
   by_cases e:k=r
   .subst e;obtain⟨rfl,rfl,rfl⟩:=L _ _ _ C;obtain⟨_,_,rfl⟩:=hβ _ _ _ _ rfl Y;exact hx
   .rw[Z k e]at C;exact h.bD k U O m I g V Y C
  bz:=fun k U O m I g V Y C j hj M=>by
   by_cases e:k=r
   .subst e;obtain⟨rfl,rfl,rfl⟩:=L _ _ _ C;simp only[fJ]at M;omega
   .rw[Z k e]at C;exact h.bz k U O m I g V Y C j hj M
  apart:=fun k1 b1 o1 x1 cs1 imm1 tip1 k2 b2 o2 x2 cs2 imm2 tip2 i z hk2 hc2 hne j1 j2 hj1 hl1 hj2 hl2 he=>by
   by_cases e1:k1=r
   .subst e1;obtain⟨rfl,rfl,rfl⟩:=L _ _ _ z;simp only[fJ]at hl1;omega
   .by_cases e2:k2=r
    .subst e2;obtain⟨rfl,rfl,rfl⟩:=L _ _ _ hc2;simp only[fJ]at hl2;omega
    .rw[Z k1 e1]at z;rw[Z k2 e2]at hc2;exact h.apart k1 b1 o1 x1 cs1 imm1 tip1 k2 b2 o2 x2 cs2 imm2 tip2 i z hk2 hc2 hne j1 j2 hj1 hl1 hj2 hl2 he
  map:=fun k U O m es Y C=>by
   by_cases e:k=r
   .subst e;rw[J]at C;simp at C
   .rw[Z k e]at C;exact h.map k U O m es Y C
  aV:=fun k1 b1 o1 x1 es k2 b2 o2 x2 i z hk2 hs hne=>by
   by_cases e:k1=r
   .subst e;rw[J]at z;simp at z
   .rw[Z k1 e]at z;by_cases e2:k2=r
    .obtain⟨rfl,rfl,rfl⟩:=hβ k2 _ _ _ e2 hk2;exact hmap k1 b1 o1 x1 es i z
    .rw[Z k2 e2]at hs;exact h.aV k1 b1 o1 x1 es k2 b2 o2 x2 i z hk2 hs hne
  ci:=h.ci
  val:=h.val
  cr:=h.cr}
def wX(P:Program)(B:Bs)(H:Hp)(G:Gh)(w:World)(s:Sem Next)(c:AV)(H':Hp):Prop:=
 ∃n M Y v,s.run P w=.ok n M/\(n=.value v\/(n=.skip/\v=undef))/\VR Y c v/\Step B H.next G w H' M Y
theorem Ma(h:zZ v=some c):VR G c v:=by
 unfold zZ at h;split at h<;>simp only[aI,reduceCtorEq]at h<;>subst h<;>constructor;rfl
theorem Mb{G:Gh}:∀{vs:qF}{g:qt},vs.mapM zZ=some g->cc G g vs
 |[],g,h=>by simp at h;subst h;exact mQ G
 |v::vs,g,h=>by
  rw[List.mapM_cons]at h;simp only[Option.bind_eq_bind,js,Option.pure_def,aI]at h;obtain⟨c,hc,I,L,rfl⟩:=h;exact kq (Ma hc) (Mb L)
def yC(h:ym v=some c):VR G c v:=by
 unfold ym at h;split at h
 .rename_i g;simp only[sZ]at h;obtain⟨l,J,rfl⟩:=h;have:=Mb (G:=G) J;exact .agg (vs:=g.toList) this.1 this.2
 .exact Ma h
theorem ky.list{G:Gh}{w:World}{b:Nat}:∀{cs:qt}{o:Nat},ky G w b o cs->∃vs,cc G cs vs/\∀(j:Nat) v,vs[j]?=some v->w.cell? ⟨b,o+j,none⟩=some v
 |[],o,_=>⟨[],mQ G,au⟩
 |c::cs,o,h=>by
  obtain⟨v,i,g⟩:=h 0 c rfl;obtain⟨vs,Y,J⟩:=ky.list (cs:=cs) (o:=o+1) (fun j d Z=>by
   obtain⟨u,L,V⟩:=h (j+1) d ub;exact⟨u,by rw[show o+1+j=o+(j+1) by omega];exact L,V⟩)
  refine⟨v::vs,kq g Y,fun j u Z=>?_⟩;cases j with
  |zero=>simp at Z;subst Z;exact i
  |succ j=>rw[show o+(j+1)=o+1+j by omega];exact J j u ub
def ky.drop(h:ky G w b o cs)(n:Nat):ky G w b (o+n) (cs.drop n):=fun j c Z=>by
 rw[vd]at Z;rw[ki];exact h (n+j) c Z
def ky.take(h:ky G w b o cs)(n:Nat):ky G w b o (cs.take n):=fun j c Z=>by
 rw[sY]at Z;split at Z
 .exact h j c Z
 .simp at Z
section
variable {P:Program} {w:World} {t:TypeId}
def eG(h:P.underlying t=some d):(underlying t).run P w=.ok d w:=by simp[underlying,h]
def vh{i:TypeInfo}(h:P.info? t=some i):(typeInfo t).run P w=.ok i w:=by simp[typeInfo,h]
def Mc{s:Nat}(h:bE P t=some s):∃i,P.info? t=some i/\i.size=s:=by simpa [bE,sZ]using h
def lW{s:Nat}(h:bE P t=some s):(sizeOf t).run P w=.ok s w:=by
 obtain⟨i,Z,g⟩:=Mc h;simp[sizeOf,vh Z,g]
def Md(h:wJ P t=some c):∃i v,P.info? t=some i/\i.zero=some v/\ym v=some c:=by
 unfold wJ at h;split at h
 .rename_i x d s Y Z hp al fa g V ms J;exact⟨_,g,J,rfl,h⟩
 .simp at h
def WK(h:wJ P t=some c):∃v,(∀w,(zeroValue t).run P w=.ok v w)/\∀G,VR G c v:=by
 obtain⟨i,v,Z,g,m⟩:=Md h;exact⟨v,fun w=>by simp[zeroValue,vh Z,g],fun G=>yC m⟩
def HL(h:cS P t=some z):∃i v c,P.info? t=some i/\i.zero=some v/\ym v=some c/\c.cells=z:=by
 unfold cS at h;split at h
 .rename_i c hc;simp only[aI]at h;obtain⟨i,v,Z,g,m⟩:=Md hc;exact⟨i,v,c,Z,g,m,h⟩
 .simp at h
def yD(h:cS P t=some z):∃v,(∀w,(zeroValue t).run P w=.ok v w)/\∀G,cc G z v.cells.toList:=by
 obtain⟨i,v,c,Z,g,m,rfl⟩:=HL h;exact⟨v,fun w=>by simp[zeroValue,vh Z,g],fun G=>(yC m).cells⟩
def HM:TypeDesc->Bool
 | .struct _|.array _ _=>true
 |_=>false
theorem Dk(h:P.underlying t=some d):(isAgg t).run P w=.ok (HM d) w:=by
 simp only[isAgg,fT,eG h,fV];cases d<;>rfl
def Me{off:Nat}(h:dd P t cs off=some c):
 (∃d s,P.underlying t=some d/\HM d=true/\bE P t=some s/\((cs.drop off).take s).length=s/\c=.agg ((cs.drop off).take s)) \/
 (∃d,P.underlying t=some d/\HM d=false/\cs[off]?=some c):=by
 unfold dd at h;split at h
 .rename_i f hd;split at h
  .rename_i s M;simp only[]at h;split at h
   .rename_i J;simp only[aI]at h;exact .inl ⟨_,s,hd,rfl,M,J,h.symm⟩
   .simp at h
  .simp at h
 .rename_i n e hd;split at h
  .rename_i s M;simp only[]at h;split at h
   .rename_i J;simp only[aI]at h;exact .inl ⟨_,s,hd,rfl,M,J,h.symm⟩
   .simp at h
  .simp at h
 .rename_i d i g hd;refine .inr ⟨d,hd,?_,h⟩;cases d<;>first|rfl|exact(i _ rfl).elim|exact(g _ _ rfl).elim
 .simp at h
def Mf{off:Nat}(U:ky G w b o cs)(h:dd P t cs off=some c):
 ∃v,(loadVar t ⟨b,o+off,none⟩).run P w=.ok v w/\VR G c v:=by
 rcases Me h with⟨d,s,hd,z,M,J,rfl⟩|⟨d,hd,z,hc⟩
 .obtain⟨vs,i,g⟩:=((U.drop off).take s).list;refine⟨.agg vs.toArray,?_,.agg i.1 i.2⟩;simp only[loadVar,fT,Dk hd,z,fV,dh,lW M];have C:vs.length=s:=by rw[<-i.1];exact J
  rw[<-C,run_loadCells_list _ _ vs (fun j v Z=>by rw[pm];exact g j v Z)];rfl
 .obtain⟨v,i,g⟩:=U off c hc;refine⟨v,?_,g⟩;simp[loadVar,Dk hd,z,i]
def Dm{off:Nat}(V:cc G cs vs)(h:dd P t cs off=some c):
 ∃v,(part t vs.toArray off).run P w=.ok v w/\VR G c v:=by
 rcases Me h with⟨d,s,hd,z,M,J,rfl⟩|⟨d,hd,z,hc⟩
 .have i:=(V.drop off).take s;refine⟨.agg ((vs.drop off).take s).toArray,?_,.agg i.1 i.2⟩;simp only[part,fT,Dk hd,z,fV,dh,lW M,lV]
  congr 2
  apply oE;simp
 .have j:off<cs.length:=(fH.1 hc).1;have Z:off<vs.length:=by have:=V.1;omega
  refine⟨vs[off],?_,V.2 off c _ hc (aL Z)⟩;simp[part,Dk hd,z,Z]
end
def yE(h:R B H w G){s:Sem Next}(hr:s.run P w=.ok (.value v) w)(V:VR G c v):wX P B H G w s c H:=
 ⟨.value v,w,G,v,hr,.inl rfl,V,lD h⟩
def my{x:qC}(h:ret H x=some (c,H')):x=some c/\H'=H:=by
 cases x with
 |none=>simp[ret]at h
 |some v=>simp[ret]at h;exact⟨by rw[h.1],h.2.symm⟩
section
variable {P:Program} {B:Bs} {G:Gh} {H H':Hp} {w:World} (h:R B H w G) {c:AV}
include h
def Mg(z:VR G a L)(J:gL P H t a=some c):∃v,(Instr.loadAt t L).run P w=.ok v w/\VR G c v:=by
 unfold gL at J;split at J
 .rename_i r I;cases z with
  |ptr hr=>
   split at J
   .rename_i Y V U hc;obtain⟨v,i,g⟩:=Mf (h.cells _ _ _ _ _ _ _ hr hc) J;exact⟨v,L3,g⟩
   .simp at J
 .rename_i Y;cases z with
  |bj vs M C=>
   rename_i b o;have O:ky G w b o Y:=fun j d Z=>⟨vs j,h.ci _ _ _ (M j (fH.1 Z).1),C j d Z⟩;obtain⟨v,i,g⟩:=Mf O J;exact⟨v,L3,g⟩
 .simp at J
def WL{av:Value}(ha:VR G a av)(hx:VR G x Z)(M:mr P H t a x=some H'):
 ∃U,(Instr.storeAt t av Z).run P w=.ok () U/\Step B H.next G w H' U G:=by
 unfold mr at M;split at M
 .rename_i r I;cases ha with
  |ptr hr=>
   rename_i b o ex;split at M
   .rename_i cs L z s hc m;split at M
    .rename_i O;obtain⟨h1,h2,h3,h4⟩:=O;simp only[aI]at M;subst M;have J:=hx.cells;have C:Z.cells.toList.length=s:=by rw[<-J.1];exact h1
     have g:∀v∈Z.cells.toList,v.oneCell'=true:=fun v hv=>by
      obtain⟨i,hi,rfl⟩:=ta hv;have Y:i<x.cells.length:=by rw[J.1];exact hi
      rw[(J.2 i _ _ (aL Y) (aL hi)).bP];exact gM.1 h4 _ (cB Y)
     have hex:=h.ext r b o ex cs L z hr hc;obtain⟨U,hw,j⟩:=HK P hr I x.cells Z.cells.toList cs 0 H w h hc J g ac ac ac (fun _=>ac);refine⟨U,?_,by simpa using j⟩;have V:Z.cells.size=s:=Ap;simp only[Instr.storeAt,Instr.sureAddr,fT,lV,fV,storeVar,lW m,V];simpa using hw
    .simp at M
   .simp at M
 .simp at M
end
section
variable {P:Program} {B:Bs} {G:Gh} {H H':Hp} {w:World}
def WM(z:VR G a Z)(C:uV P t a i=some c):∃v,(Instr.fieldAt t Z i).run P w=.ok v w/\VR G c v:=by
 unfold uV at C;split at C
 .rename_i V hd;split at C
  .rename_i f U;split at C
   .rename_i s M;have L:∀b o,Z=.pointer (some ⟨b,o,none⟩)->(Instr.fieldAt t Z i).run P w=.ok (.pointer (some ⟨b,o+f.offset,none⟩)) w:=fun b o e=>by
     subst e;simp only[Instr.fieldAt,fT,eG hd,fV];simp[U,Instr.sureAddr,fieldPlace,lW M,pm]
    split at C
    .rename_i r I;simp only[aI]at C;subst C;cases z with
     |ptr hr=>exact⟨_,L _ _ rfl,HD⟩
    .rename_i g;simp only[aI]at C;subst C;cases z with
     |bj vs O J=>
      refine⟨_,L _ _ rfl,.bj (fun j=>vs (f.offset+j)) (fun j Y=>?_) (fun j d Y=>?_)⟩
      .rw[kT]at Y;rw[ki];exact O _ ac
      .rw[vd]at Y;exact J _ _ Y
    .simp at C
   .simp at C
  .simp at C
 .simp at C
def WN{Y:Value}(z:VR G a Y)(C:wK P t a i=some c):∃v,(Instr.field t Y i).run P w=.ok v w/\VR G c v:=by
 unfold wK at C;split at C
 .rename_i Z O hd;cases z with
  |agg J U=>
   rename_i vs;split at C
   .rename_i f L;obtain⟨v,V,g⟩:=Dm (P:=P) (w:=w) ⟨J,U⟩ C;refine⟨v,?_,g⟩;simp only[Instr.field,fT,eG hd,fV];simp only[L,fT,asAgg,lV,fV];exact V
   .simp at C
 .simp at C
def WO{i:AV}{g iv:Value}(V:VR G a g)(hi:VR G i iv)(C:ej P t a i=some c):∃v,(Instr.indexAt t g iv).run P w=.ok v w/\VR G c v:=by
 unfold ej at C;split at C
 .rename_i kk k;cases hi;split at C
  .rename_i e hd;split at C
   .rename_i s M;split at C
    .rename_i r I U z;split at C
     .rename_i Y;simp only[aI]at C;subst C;cases V with
      |sl hr hl hc=>
       rename_i b o x J;refine⟨.pointer (some ⟨b,o+I+k*s,none⟩),?_,HD⟩;simp only[Instr.indexAt,asIntOf,fT,lV,fV,eG hd];have h1:(0:Int)<=Int.ofNat k:=Int.natCast_nonneg k;have h2:(Int.ofNat k)<(U:Int):=sX;simp[lW M,Y,pm]
     .simp at C
    .rename_i xs;split at C
     .rename_i L Z;split at C
      .rename_i O;simp only[aI]at C;subst C;have Y:k<xs.length:=(fH.1 Z).1;cases V with
       |aE vs hz hF hv hc=>
        rename_i b o J z;have m:s=z:=by rw[<-O];exact hz k L Z
        subst m;refine⟨.pointer (some ⟨b,o+k*s,none⟩),?_,.bj (vs k) (fun j hj=>hF k j Y ac) (fun j d hj=>hv k j L d Z hj)⟩;simp only[Instr.indexAt,asIntOf,fT,lV,fV,eG hd];simp[lW M,Y,pm]
       |bQ a J=>simp at Y
      .simp at C
     .simp at C
    .simp at C
   .simp at C
  .rename_i n e hd;split at C
   .rename_i s M;split at C
    .rename_i r I;split at C
     .rename_i Y;simp only[aI]at C;subst C;cases V with
      |ptr hr=>
       rename_i b o x;refine⟨.pointer (some ⟨b,o+I+k*s,none⟩),?_,HD⟩;simp only[Instr.indexAt,asIntOf,fT,lV,fV,eG hd];simp[lW M,Y,pm,Instr.sureAddr]
     .simp at C
    .simp at C
   .simp at C
  .simp at C
 .simp at C
def WP{i:AV}(z:VR G a L)(V:VR G i Z)(C:sc P t a i=some c):∃v,(Instr.index t L Z).run P w=.ok v w/\VR G c v:=by
 unfold sc at C;split at C
 .rename_i I k;cases V;split at C
  .rename_i s hd;split at C
   .rename_i b hb;simp only[aI]at C;subst C;cases z with
    |aq Y l J=>
     subst J;refine⟨_,?_,.int .u8 b.toNat⟩;have j:k<Y.size:=by
      have:=(fH.1 hb).1;simpa using this
     have hg:Y[k]?=some b:=by
      rw[ByteArray.getElem?_lt' _ _ j];have:=(fH.1 hb).2;simp at this;rw[<-this];rfl
     simp only[Instr.index,asIntOf,fT,lV,fV,eG hd];simp[hg]
   .simp at C
  .rename_i n e m hd;split at C
   .rename_i j;split at C
    .rename_i s M;cases z with
     |agg J O=>
      rename_i vs;obtain⟨v,U,g⟩:=Dm (P:=P) (w:=w) ⟨J,O⟩ C;refine⟨v,?_,g⟩;simp only[Instr.index,asIntOf,fT,lV,fV,eG hd];simp[lW M,j,U]
    .simp at C
   .simp at C
  .simp at C
 .simp at C
def WQ(z:VR G a L)(C:extract a i=some c):∃v,(Instr.extract L i).run P w=.ok v w/\VR G c v:=by
 unfold extract at C;split at C
 .rename_i g;cases z with
  |aX J V=>
   rename_i vs;have Y:i<g.length:=(fH.1 C).1;have Z:i<vs.length:=ac;exact⟨vs[i],by simp[Instr.extract,Z],V i c _ C (aL Z)⟩
 .simp at C
def HN{op:BinOp}{a b:Int}(m:op≠.shl/\op≠.shr)(h:ly op k a b=some c)(xt:TypeId):∃v,(binOp op xt (.int k a) (.int k b)).run P w=.ok v w/\VR G c v:=by
 cases op<;>simp only[ly,aI,reduceCtorEq]at h<;>first
  |(subst h;exact⟨_,by simp[binOp,Op.intArith,Op.intBits,Op.intCmp];rfl,uc⟩)
  |(subst h;exact⟨.int k (k.wrap (BitVec.ofInt k.bits a &&& ~~~ BitVec.ofInt k.bits b).toNat),by simp[binOp,Op.intBits],uc⟩)
  |(split at h
    ·simp at h
    .rename_i hb;simp only[aI]at h;subst h;exact⟨_,by simp[binOp,Op.intDiv,hb];rfl,uc⟩)
  |simp at m
theorem WR{op:BinOp}{a b:ByteArray}(h:z6 op a.data.toList b.data.toList=some c)(xt:TypeId):∃v,(binOp op xt (.string a) (.string b)).run P w=.ok v w/\VR G c v:=by
 have j:∀x y,uW x y=Op.bytesLess x y:=fun x=>by
  induction x with
  |nil=>intro y;cases y<;>rfl
  |cons p x ih=>intro y;cases y with
   |nil=>rfl
   |cons q y=>simp[uW,Op.bytesLess,ih]
 cases op<;>simp only[z6,aI,reduceCtorEq,j]at h<;>first
  |(subst h;exact⟨.bool (a.data.toList == b.data.toList),yx,uc⟩)
  |(subst h;exact⟨.bool !(a.data.toList == b.data.toList),yx,uc⟩)
  |(subst h;exact⟨.bool (Op.bytesLess a.data.toList b.data.toList),yx,uc⟩)
  |(subst h;exact⟨.bool !(Op.bytesLess a.data.toList b.data.toList),yx,uc⟩)
  |(subst h;exact⟨.bool (Op.bytesLess a.data.toList b.data.toList||a.data.toList == b.data.toList),yx,uc⟩)
  |(subst h;exact⟨.bool !(Op.bytesLess a.data.toList b.data.toList||a.data.toList == b.data.toList),yx,uc⟩)
  |(split at h
    ·rename_i hb;simp only[aI]at h;subst h;refine⟨.string (a++b),?_,.aq _ _ ?_⟩
     .have Z:¬((a.size+b.size:Nat):Int) > IntKind.i64.max:=by
       have i:a.size+b.size<=70368744177664:=by simpa [dL]using hb
       have g:IntKind.i64.max=9223372036854775807:=rfl;rw[g];omega
      simp only[binOp,Op.stringOp,af Z];rfl
     .simp
    .simp at h)
def Mh(V:Nat){r:Bool}{xt:TypeId}(z:VR G x Z)(Y:VR G y m)(h:yn P xt x y=some r):(Op.equalIn (V+1) xt Z m).run P w=.ok r w:=by
 unfold yn at h;split at h;all_goals first
  |(rename_i hd
    split at h<;>simp only[aI,reduceCtorEq]at h<;>subst h<;>cases z<;>cases Y<;>simp[Op.equalIn,eG hd]
    done)
  |(rename_i e hd
    split at h<;>simp only[aI,reduceCtorEq]at h<;>subst h<;>cases z<;>cases Y<;>simp[Op.equalIn,eG hd]
    done)
  |(rename_i U O hd
    split at h<;>simp only[aI,reduceCtorEq]at h<;>subst h<;>cases z<;>cases Y<;>simp[Op.equalIn,eG hd]
    done)
  |(rename_i U O M hd
    split at h<;>simp only[aI,reduceCtorEq]at h<;>subst h<;>cases z<;>cases Y<;>simp[Op.equalIn,eG hd]
    done)
  |simp at h
def Dn{op:BinOp}{x y:Operand}{d:AV}{cv dv:Value}(g:VR G c cv)(hd:VR G d dv)(h:∀l m,c=.agg l->d=.agg m->False):(eqGuard op t x y cv dv).run P w=.ok () w:=by
 cases op<;>first|rfl|(cases g<;>cases hd<;>first|rfl|exact(h _ _ rfl rfl).elim)
def WS(a b:ByteArray):(a == b)=(a.data.toList == b.data.toList):=by
 cases a with
 |mk x=>cases b with
  |mk y=>
   show(x == y)=_;rw[As,pj,pj];exact⟨fun h=>by rw[h],fun h=>oE h⟩
def Mi(V:Nat){r:Bool}{xt:TypeId}(z:VR G x Z)(Y:VR G y m)(h:Hy P xt x y=some r):(Op.equalIn (V+1) xt Z m).run P w=.ok r w:=by
 unfold Hy at h;split at h
 .split at h
  .rename_i hd;split at h
   .rename_i j;simp only[aI]at h;subst h j;cases z;cases Y;simp[Op.equalIn,eG hd]
   .simp at h
  .simp at h
 .split at h
  .rename_i hd;simp only[aI]at h;subst h;cases z with
   |aq a M U=>cases Y with
    |aq b g hb=>
     subst U hb;simp only[Op.equalIn,fT,eG hd,fV,lV,WS]
  .simp at h
 .exact Mh V z Y h
theorem HO{xs M:qt}{L j:qF}(Y:cc G xs L)(U:cc G M j)(V:Nat):∀(O:List Field) (r:Bool),yo P xs M O=some r ->
 Sem.run P (forIn O (none,()) fun(f:Field) (_:qG×Unit)=>
         if f.name="_" then pure (ForInStep.yield (none,()))
         else do
          let a <-part f.type L.toArray f.offset
          let b <-part f.type j.toArray f.offset
          let c <-Op.equalIn (V+1) f.type a b
          if c=false then pure (ForInStep.done (some false,()))else pure (ForInStep.yield (none,())))
  w=.ok (match r with|true=>(none,())|false=>(some false,())) w
 |[],r,h=>by
  simp only[yo,aI]at h;subst h;rfl
 |f::O,r,h=>by
  unfold yo at h;rw[List.forIn_cons];split at h
  .rename_i I;rw[ah (by simpa using I)];simp only[fT,lV,fV];exact HO Y U V O r h
  .rename_i I;rw[af (by simpa using I)];split at h
   .rename_i a b i hb;obtain⟨g,z,m⟩:=Dm (P:=P) (w:=w) Y i;obtain⟨bv,Z,C⟩:=Dm (P:=P) (w:=w) U hb;split at h
    .rename_i J;have:=Mi (P:=P) (w:=w) V m C J;simp only[fT,z,Z,this,fV,nO,dD,lV];exact HO Y U V O r h
    .rename_i J;have:=Mi (P:=P) (w:=w) V m C J;simp only[aI]at h;subst h;simp only[fT,z,Z,this,fV,dh,lV]
    .simp at h
   .simp at h
theorem WT(d:Nat){C:Array Field}{xs Y:Array Value}(hd:P.underlying t=some (.struct C))(Z:P.stoodInHeld t=false):
 (Op.equalIn (d+1) t (.agg xs) (.agg Y)).run P w=(Sem.run P (forIn C.toList (none,()) fun(f:Field) (_:qG×Unit)=>
   if f.name="_" then pure (ForInStep.yield (none,()))
   else do
    let a <-part f.type xs f.offset
    let b <-part f.type Y f.offset
    let c <-Op.equalIn d f.type a b
    if c=false then pure (ForInStep.done (some false,()))else pure (ForInStep.yield (none,())))
   w).andThen fun a M=>Sem.run P (match a.1 with|some r=>pure r|none=>pure true) M:=by
 simp[Op.equalIn,eG hd,Z]
 congr 1
 funext a M
 rcases a with⟨_ |_,_⟩<;>rfl
def WU(V:Nat){Y:Value}{r:Bool}{xt:TypeId}(U:VR G x Y)(O:VR G y m)(h:ua P xt x y=some r):(Op.equalIn (V+2) xt Y m).run P w=.ok r w:=by
 unfold ua at h;split at h
 .unfold CN at h;split at h
  .rename_i C hd;split at h
   .simp at h
   .rename_i hg;simp only[kU]at hg;cases U with
    |agg i M=>cases O with
     |agg z Z=>
      have:=HO (P:=P) (w:=w) ⟨i,M⟩ ⟨z,Z⟩ V C.toList r h;rw[WT (V+1) hd hg.1,this];cases r<;>rfl
  .simp at h
 .exact Mh (V+1) U O h
def WV{r:Bool}{xt:TypeId}(z:VR G x Z)(Y:VR G y m)(h:ua P xt x y=some r):(Op.equal xt Z m).run P w=.ok r w:=WU 9998 z Y h
def WW{op:BinOp}{x y:Operand}{xs Y:qt}(z:VR G (.agg xs) Z)(V:VR G (.agg Y) m){r:Bool}(h:CN P t xs Y=some r):(eqGuard op t x y Z m).run P w=.ok () w:=by
 unfold CN at h;split at h
 .split at h
  .simp at h
  .rename_i hg;simp only[kU]at hg;cases z;cases V;cases op<;>first|rfl|simp[eqGuard,hg.2]
 .simp at h
def WX{op:BinOp}{xt:TypeId}{J:Operand}(z:VR G x Z)(Y:VR G y m)(V:∀k a k' b,x=.int k a->y=.int k' b->False)
 (i:∀a b,x=.aq a->y=.aq b->False) (I:∀k a,x=.sx k a->False) (U:∀k a k' b,x=.int k a->y=.sx k' b->False) (h:z7 P op xt x y=some c) :
 ∃v,(do eqGuard op xt j J Z m;binOp op xt Z m:Sem Value).run P w=.ok v w/\VR G c v:=by
 unfold z7 at h;have O:∃r,ua P xt x y=some r/\((op=.eql/\c=.bool r)\/(op=.neq/\c=.bool !r)):=by
  split at h
  .split at h
   .rename_i r hr;simp only[aI]at h;exact⟨r,hr,.inl ⟨rfl,h.symm⟩⟩
   .simp at h
  .split at h
   .rename_i r hr;simp only[aI]at h;exact⟨r,hr,.inr ⟨rfl,h.symm⟩⟩
   .simp at h
  .simp at h
 obtain⟨r,hr,L⟩:=O;have hg:(eqGuard op xt j J Z m).run P w=.ok () w:=by
  have g:=hr;unfold ua at g;split at g
  .exact WW z Y g
  .rename_i M;exact Dn z Y M
 have C:=WV (P:=P) (w:=w) z Y hr;simp only[fT,hg,fV];rcases L with⟨rfl,rfl⟩|⟨rfl,rfl⟩
 .refine⟨.bool r,?_,.bool r⟩;have:binOp .eql xt Z m=(do pure (.bool (<-Op.equal xt Z m)):Sem Value):=by
   cases z<;>cases Y<;>first|rfl|exact(V _ _ _ _ rfl rfl).elim|exact(i _ _ rfl rfl).elim|exact(I _ _ rfl).elim|exact(U _ _ _ _ rfl rfl).elim
  rw[this];simp[C]
 .refine⟨.bool !r,?_,.bool _⟩;have:binOp .neq xt Z m=(do pure (.bool (!(<-Op.equal xt Z m))):Sem Value):=by
   cases z<;>cases Y<;>first|rfl|exact(V _ _ _ _ rfl rfl).elim|exact(i _ _ rfl rfl).elim|exact(I _ _ rfl).elim|exact(U _ _ _ _ rfl rfl).elim
  rw[this];simp[C]
def Mj{e:Sx}(z:VR G x Z)(h:CL x=some (k,e)):Z=.int k (e.eval G.ρ):=by
 unfold CL at h;split at h
 .simp only[cT]at h;obtain⟨rfl,rfl⟩:=h;cases z;rfl
 .simp only[cT]at h;obtain⟨rfl,rfl⟩:=h;cases z;rfl
 .simp at h
def WY{op:BinOp}{a b n:Int}(h:ly op k a b=some (.int k n)):Hv op k a b=n:=by simp[Hv,h]
def WZ(Z:ru D G.ρ){op:BinOp}{a b:Sx}(h:Hw D op k a b=some c)(xt:TypeId):
 ∃v,(binOp op xt (.int k (a.eval G.ρ)) (.int k (b.eval G.ρ))).run P w=.ok v w/\VR G c v:=by
 have Y:∀(op:BinOp) (n:Int),(op≠.shl/\op≠.shr)->ly op k (a.eval G.ρ) (b.eval G.ρ)=some (.int k n)->c=.sx k (.ca op k a b) ->
  ∃v,(binOp op xt (.int k (a.eval G.ρ)) (.int k (b.eval G.ρ))).run P w=.ok v w/\VR G c v:=fun op n m C hc=>by
  obtain⟨v,i,g⟩:=HN (P:=P) (w:=w) (G:=G) m C xt;cases g;refine⟨_,i,?_⟩;subst hc;have:VR G (.sx k (.ca op k a b)) (.int k ((Sx.ca op k a b).eval G.ρ)):=.sx _ _;simp only[Sx.eval,WY C]at this;exact this
 have I:D .eql b (.lit 0)=some false->b.eval G.ρ≠0:=fun hd=>by
  have:=Z _ k _ _ _ hd;simp[ly,Sx.eval]at this;exact this
 cases op<;>simp only[Hw,aI,reduceCtorEq]at h<;>first
  |exact Y _ _ au rfl h.symm
  |(split at h
    ·rename_i hd;simp only[aI]at h;first
      |exact Y .quo (k.wrap ((a.eval G.ρ).tdiv (b.eval G.ρ))) au (by simp only[ly,af (I hd)]) h.symm
      |exact Y .rem ((a.eval G.ρ).tmod (b.eval G.ρ)) au (by simp only[ly,af (I hd)]) h.symm
    .simp at h)
  |(split at h
    ·rename_i r hd;simp only[aI]at h;subst h;exact HN (P:=P) (w:=w) (G:=G) au (Z _ k _ _ _ hd) xt
    .simp at h)
def Mk(L:ru D G.ρ){op:BinOp}{xt:TypeId}{U:Operand}{Y:Value}(O:VR G x Z)(M:VR G y Y)(V:∀l m,x=.agg l->y=.agg m->False)(h:CM D op x y=some c):
 ∃v,(do eqGuard op xt j U Z Y;binOp op xt Z Y:Sem Value).run P w=.ok v w/\VR G c v:=by
 have hg:=Dn (P:=P) (w:=w) (op:=op) (t:=xt) (x:=j) (y:=U) O M V;simp only[fT,hg,fV];unfold CM at h;split at h
 .rename_i k a k' b z I;have C:=Mj O z;have i:=Mj M I;subst C i;split at h
  .rename_i J;subst J;exact WZ L h xt
  .simp at h
 .simp at h
def W0(U:ru D G.ρ){op:BinOp}{xt:TypeId}{m:Operand}{V:Value}(z:VR G x Z)(Y:VR G y V)(h:eK P D op xt x y=some c):
 ∃v,(do eqGuard op xt j m Z V;binOp op xt Z V:Sem Value).run P w=.ok v w/\VR G c v:=by
 unfold eK at h;split at h
 .rename_i k a k' b;have hg:=Dn (P:=P) (w:=w) (op:=op) (t:=xt) (x:=j) (y:=m) z Y au;simp only[fT,hg,fV];cases z;cases Y;unfold uX at h;split at h
  .unfold yp at h;split at h
   .simp only[aI]at h;subst h;refine⟨_,?_,.int _ _⟩;simp only[binOp,Op.shift];rw[af au];rfl
   .simp at h
  .unfold yp at h;split at h
   .simp only[aI]at h;subst h;refine⟨_,?_,.int _ _⟩;simp only[binOp,Op.shift];rw[af au];rfl
   .simp at h
  .rename_i i g;split at h
   .rename_i O;subst O;exact HN ⟨i,g⟩ h xt
   .simp at h
 .rename_i a b;have hg:=Dn (P:=P) (w:=w) (op:=op) (t:=xt) (x:=j) (y:=m) z Y au;simp only[fT,hg,fV];cases z with
  |aq L _ M=>
   cases Y with
   |aq J _ hb=>
    subst M hb;exact WR h xt
 .exact Mk U z Y au h
 .exact Mk U z Y au h
 .exact WX z Y iZ iZ iZ iZ h
def W1{op:UnOp}(z:VR G x Z)(h:uY op x=some c):∃v,(Op.unary op Z).run P w=.ok v w/\VR G c v:=by
 unfold uY at h;split at h
 .cases z;simp only[aI]at h;subst h;refine⟨_,rfl,?_⟩;exact .sx _ _
 .cases z;simp only[aI]at h;subst h;refine⟨_,rfl,?_⟩;exact .sx _ _
 .cases z;simp only[ly,aI]at h;subst h;exact⟨_,rfl,.int _ _⟩
 .cases z;simp only[ly,aI]at h;subst h;exact⟨_,rfl,.int _ _⟩
 .cases z;simp only[aI]at h;subst h;exact⟨_,rfl,.bool _⟩
 .simp at h
end
def wY(G:Gh):qC->qS->Prop
 |none,none=>True
 |some c,some v=>VR G c v
 |_,_=>False
section
variable {P:Program} {B:Bs} {G:Gh} {H H':Hp} {w:World}
def Do{k y:Nat}(code:BoundsCode)(h:VR G c v)(hb:ig 0 (some c)=some k)(j:k<=y):(Instr.sliceBound v y code).run P w=.ok k w:=by
 unfold ig at hb;split at hb
 .simp at *
 .rename_i U n e;simp only[aI]at hb e;subst hb;subst e;cases h;simp[Instr.sliceBound,asIntOf,j]
 .simp at hb
theorem W9{d k:Nat}(h:ig d (some c)=some k):ig 0 (some c)=some k:=by
 unfold ig at *;split at h<;>simp_all
def HP{Y:qC}{C I:qS}{l h len cap:Nat}(J:wY G lo C)(U:wY G Y I)(Z:ig 0 lo=some l)(V:ig len Y=some h)(h1:l<=h)(h2:h<=len)(m:len<=cap)(O:Bool):
 (Instr.sliceBounds O len cap C I none).run P w=.ok (l,h,cap) w:=by
 cases Y with
 |none=>
  cases I with
  |some v=>exact U.elim
  |none=>
   simp only[ig,aI]at V;subst V;cases lo with
   |none=>
    cases C with
    |some v=>exact J.elim
    |none=>
     simp only[ig,aI]at Z;subst Z;simp[Instr.sliceBounds]
   |some c=>
    cases C with
    |none=>exact J.elim
    |some v=>simp[Instr.sliceBounds,Do _ J Z h1]
 |some M=>
  cases I with
  |none=>exact U.elim
  |some z=>
   have L:=W9 V;cases lo with
   |none=>
    cases C with
    |some v=>exact J.elim
    |none=>
     simp only[ig,aI]at Z;subst Z;simp[Instr.sliceBounds,Do _ U L (show h<=cap by omega)]
   |some c=>
    cases C with
    |none=>exact J.elim
    |some v=>simp[Instr.sliceBounds,Do _ J Z h1,Do _ U L (show h<=cap by omega)]
def Xa{xv:Value}{Z:qC}{lov hiv:qS}(hx:VR G x xv)(hl:wY G lo lov)(hh:wY G Z hiv)(h:gU P t x lo Z=some c):
 ∃v,(Instr.sliceAt t xv lov hiv none).run P w=.ok v w/\VR G c v:=by
 unfold gU at h;split at h
 .rename_i s hd;split at h
  .rename_i l hh' J U;split at h
   .rename_i hc;simp only[aI]at h;subst h;cases hx with
    |aq m _ hs=>
     subst hs;have hb:=HP (P:=P) (w:=w) (cap:=m.size) hl hh J U hc.1 hc.2 (by show m.data.toList.length<=m.data.size;simp) false;have hsz:m.data.toList.length=m.size:=by show m.data.toList.length=m.data.size;simp
     rw[hsz]at hb;refine⟨.string (m.extract l hh'),?_,.aq _ _ (Lib.extract_data _ _ _)⟩;simp only[Instr.sliceAt,fT,eG hd,fV,Instr.slice];simp[hb]
   .simp at h
  .simp at h
 .rename_i e y hd;split at h
  .rename_i z hz;have L:∀(a:Option Addr) (V cap l Y:Nat),xv=.slice a V cap->ig 0 lo=some l->ig V Z=some Y->l<=Y->Y<=V->V<=cap ->
    (Instr.sliceAt t xv lov hiv none).run P w=.ok (.slice (if cap=l then a else a.map (·.add (l*z))) (Y-l) (cap-l)) w:=fun a V cap l Y e1 J U h1 g h3=>by
    subst e1;simp only[Instr.sliceAt,fT,eG hd,fV,Instr.slice];simp[HP hl hh J U h1 g h3,lW hz]
   split at h
   .rename_i r off V z';split at h
    .rename_i l Y J U;split at h
     .rename_i hc;obtain⟨h1,g,rfl⟩:=hc;cases hx with
      |sl hr hlc hx'=>
       rename_i b o x cap;have:=L _ V cap l Y rfl J U h1 g hlc;split at h
       .rename_i e1;simp only[aI]at h;subst h;subst e1;rw[nP]at this;exact⟨_,this,.bQ _ _⟩
       .rename_i hne;simp only[aI]at h;subst h;rw[af ac]at this;refine⟨_,this,?_⟩;simp only[rq,pm];rw[ki];refine .sl hr ac ?_;have e3:(cap-l)*z'+l*z'=cap*z':=HE;omega
     .simp at h
    .simp at h
   .rename_i xs;split at h
    .rename_i l Y J U;split at h
     .rename_i hc;obtain⟨h1,g⟩:=hc;split at h
      .rename_i he;simp only[aI]at h;subst h;have C:Y-l=0:=by
        have:=kV List.length he;simp only[mP,kT,ik]at this;omega
       cases hx with
       |aE vs hzz hF hv I=>
        have:=L _ _ _ l Y rfl J U h1 g I;rw[C]at this;exact⟨_,this,.bQ _ _⟩
       |bQ a cap=>
        have:=L _ _ _ l Y rfl J U h1 g (de cap);rw[C]at this;exact⟨_,this,.bQ _ _⟩
      .rename_i row rows he;split at h
       .rename_i hrl;simp only[aI]at h;subst h;have hpos:0<Y-l:=by
         have:=kV List.length he;simp only[mP,kT,eF]at this;omega
        cases hx with
        |bQ a cap=>simp at g;omega
        |aE vs hzz hF hv I=>
         rename_i b o cap z';have O:=L _ _ _ l Y rfl J U h1 g I;rw[af ac]at O;have M:∀i:Nat,(row::rows)[i]?=if i<Y-l then xs[l+i]? else none:=fun i=>by
          rw[<-he,sY,vd]
         have hz':z'=z:=by
          have:=M 0;rw[ah hpos]at this;rw[<-hzz (l+0) row (by rw[<-this];rfl)];exact hrl
         subst hz';have C:(row::rows).length=Y-l:=by
          rw[<-he];simp only[mP,kT];omega
         refine⟨_,O,?_⟩;simp only[rq,pm];rw[<-C];refine .aE (z:=z') (fun i j=>vs (l+i) j) (fun i rw' Z=>?_) (fun i j Z hj=>?_) (fun i j rw' d Z hj=>?_) wT
         .rw[M i]at Z;split at Z
          .exact hzz _ _ Z
          .simp at Z
         .have:=hF (l+i) j (by rw[C]at Z;omega) hj;rw[<-this]
          congr 1
          rw[rr];omega
         .rw[M i]at Z;split at Z
          .exact hv _ _ _ _ Z hj
          .simp at Z
       .simp at h
     .simp at h
    .simp at h
   .split at h
    .rename_i J U;simp only[aI]at h;subst h;cases hx;have:=L none 0 0 0 0 rfl J U (aH _) (aH _) (aH _);exact⟨_,this,.ak⟩
    .simp at h
   .simp at h
  .simp at h
 .simp at h
def cc.splice{Z:qt}{nv:qF}(h:cc G cs vs)(I:cc G Z nv)(off:Nat):cc G (Ab.splice cs off Z) (vs.take off++nv++vs.drop (off+nv.length)):=by
 unfold Ab.splice;rw[I.1];exact((h.take off).append I).append (h.drop _)
theorem Ml(off:Nat):∀(U:qF) (k:Nat) (cells:Array Value),off+k+U.length<=cells.size ->
 ((U.zipIdx k).foldl (fun g (c,j)=>g.setIfInBounds (off+j) c) cells).toList=cells.toList.take (off+k)++U++cells.toList.drop (off+k+U.length)
 |[],k,cells,_=>by simp
 |v::U,k,cells,h=>by
  simp only[eF]at h;rw[List.zipIdx_cons,List.foldl_cons,Ml off U (k+1) _ bW];simp only[L4,eF];have hp:off+k<cells.toList.length:=bW;have i:(cells.toList.set (off+k) v).take (off+(k+1))=cells.toList.take (off+k)++[v]:=by
   rw[<-ki,sd,List.take_set_of_le (aH _),List.getElem?_set_self hp];rfl
  rw[i,List.drop_set_of_lt ac,show off+(k+1)+U.length=off+k+(U.length+1) by omega];simp
theorem Dp{V:Nat->Option (Nat×Nat)}:∀{ps:qM}{pv:List (Nat×Value)}{cs out:qt}{vs:qF},ps.length=pv.length ->
 (∀(i:Nat) p q,ps[i]?=some p->pv[i]?=some q->p.1=q.1/\VR G p.2 q.2)->cc G cs vs->sU V cs ps=some out ->
 ∃O,Instr.fill V vs.toArray pv=some O.toArray/\cc G out O
 |[],[],cs,out,vs,_,_,hv,h=>by
  simp only[sU,aI]at h;subst h;exact⟨vs,rfl,hv⟩
 |[],q::pv,_,_,_,hl,_,_,_=>by simp at hl
 |p::ps,[],_,_,_,hl,_,_,_=>by simp at hl
 |(i,c)::ps,(i',v)::pv,cs,out,vs,hl,hp,hv,h=>by
  obtain⟨rfl,U⟩:=hp 0 (i,c) (i',v) rfl rfl;simp only[]at U;simp only[sU]at h;split at h
  .simp at h
  .rename_i I Y L;split at h
   .simp at h
   .rename_i Z;have J:=U.cells;have C:v.cells.size=c.cells.length:=by rw[J.1];simp
    have M:v.cells.size=Y/\I+v.cells.size<=vs.length:=by
     rw[C,<-hv.1];constructor
     .apply HH;intro z;exact Z (.inl z)
     .apply HH;intro z;exact Z (.inr ac)
    obtain⟨O,h1,h2⟩:=Dp (ps:=ps) (pv:=pv) (cs:=Ab.splice cs I c.cells) (out:=out) (vs:=vs.take I++v.cells.toList++vs.drop (I+v.cells.toList.length))
     Db (fun j p q g hq=>hp (j+1) p q (by simpa using g) (by simpa using hq)) (hv.splice J I) h
    refine⟨O,?_,h2⟩;simp only[Instr.fill,L];rw[af bW];rw[<-h1]
    congr 1
    apply oE;have m:=Ml I v.cells.toList 0 vs.toArray bW;simp only[ve]at m;rw[List.toList_toArray,<-m];rw[<-Array.foldl_toList,Array.toList_zipIdx]
theorem Dq{E:ax}{a:Act}:∀{ps:List (Nat×Operand)}{out:qM},(∀p∈ps,∀c,aS E p.2=some c->VR G c (a.eval p.2))->mw E ps=some out ->
 out.length=(ps.map fun x=>(x.1,a.eval x.2)).length/\∀(i:Nat) p q,out[i]?=some p->(ps.map fun x=>(x.1,a.eval x.2))[i]?=some q->p.1=q.1/\VR G p.2 q.2
 |[],out,_,h=>by
  simp only[mw,aI]at h;subst h;exact⟨rfl,au⟩
 |(i,x)::ps,out,hE,h=>by
  simp only[mw]at h;split at h
  .rename_i v vs V Y;simp only[aI]at h;subst h;obtain⟨U,g⟩:=Dq (ps:=ps) (out:=vs) (fun p hp=>hE p (by simp[hp])) Y;refine⟨by simpa using U,fun j p q Z L=>?_⟩;cases j with
   |zero=>
    simp at Z L;subst Z L;exact⟨rfl,hE (i,x) au v V⟩
   |succ j=>exact g j p q ub (by simpa using L)
  .simp at h
def Xb{ps:qM}{pv:List (Nat×Value)}(hl:ps.length=pv.length)(hp:∀(i:Nat) p q,ps[i]?=some p->pv[i]?=some q->p.1=q.1/\VR G p.2 q.2)(h:dU P t ps=some c):
 ∃v,(Instr.build t pv.toArray).run P w=.ok v w/\VR G c v:=by
 unfold dU at h;split at h
 .rename_i z V M hd;split at h
  .rename_i U Z;split at h
   .rename_i L hf;simp only[aI]at h;subst h;obtain⟨it,zv,zc,j,I,m,rfl⟩:=HL M;have J:=(yC (G:=G) m).cells;obtain⟨O,Y,g⟩:=Dp hl hp J hf;refine⟨.agg O.toArray,run_build w t _ _ ?_,.agg g.1 g.2⟩;simp only[Program.built,j,hd,I];unfold LZ at Z;rw[Z];simp only[wU]at Y;simpa using Y
   .simp at h
  .simp at h
 .rename_i z n e M hd;split at h
  .rename_i s hs;split at h
   .rename_i L hf;simp only[aI]at h;subst h;obtain⟨it,zv,zc,j,I,m,rfl⟩:=HL M;have J:=(yC (G:=G) m).cells;obtain⟨ie,hie,C⟩:=Mc hs;obtain⟨O,Y,g⟩:=Dp hl hp J hf;refine⟨.agg O.toArray,run_build w t _ _ ?_,.agg g.1 g.2⟩;simp only[Program.built,j,hd,I,hie,C];simp only[wU]at Y;simpa using Y
   .simp at h
  .simp at h
 .simp at h
theorem rep_get(z:qt):∀(n j:Nat),j<n*z.length->(kM z n)[j]?=z[j%z.length]?
 |0,j,h=>by simp at h
 |n+1,j,h=>by
  simp only[kM];by_cases Z:j<z.length
  .rw[je Z,Nat.mod_eq_of_lt Z]
  .have Y:j<n*z.length+z.length:=by simpa [ud]using h
   rw[lT ac,rep_get z n (j-z.length) ac]
   congr 1
   exact(Nat.mod_eq_sub_mod ac).symm
theorem Dr(z:qt):∀n,(kM z n).length=n*z.length
 |0=>by simp[kM]
 |n+1=>by simp[kM,Dr z n,rr];omega
def HQ{Z:Array Value}(I:cc G z Z.toList)(n:Nat):cc G (kM z n) (((Array.range (n*z.length)).map (Z[·% Z.size]!))).toList:=by
 have J:=I.1;refine⟨by simp[Dr],fun j c v hc V=>?_⟩;have Y:j<n*z.length:=by
  have:=(fH.1 hc).1;rw[Dr]at this;exact this
 rw[rep_get z n j Y]at hc;simp only[HI,Array.toList_range,eu,ue Y,lC]at V;have C:0<z.length:=by
  rcases Nat.eq_zero_or_pos z.length with e|e
  .rw[e]at Y;omega
  .exact e
 have O:j%z.length<z.length:=Nat.mod_lt _ C;have L:Z.size=z.length:=by simpa using J.symm
 refine I.2 (j%z.length) c v hc ?_;rw[L]at V;rw[<-V];simp[L,O]
theorem Mm{V:Nat->Option (Nat×Nat)}:∀{C:qM}{g Y:qt},sU V g C=some Y->Y.length=g.length
 |[],g,Y,h=>by simp only[sU,aI]at h;rw[h]
 |(i,c)::C,g,Y,h=>by
  simp only[sU]at h;split at h
  .simp at h
  .split at h
   .simp at h
   .rename_i hc;rw[Mm h,WG];apply HH;intro I;exact hc (.inr ac)
def Mn{len:Nat}{ps:qM}{pv:List (Nat×Value)}(hl:ps.length=pv.length)(hp:∀(i:Nat) p q,ps[i]?=some p->pv[i]?=some q->p.1=q.1/\VR G p.2 q.2)
 (hb:et P H t len ps=some (c,H')):se P G w (Instr.buildSlice t len pv.toArray) id c H H':=by
 unfold et at hb;split at hb
 .rename_i e hd;split at hb
  .rename_i s z M hz;split at hb
   .rename_i hc;obtain⟨h24,L⟩:=hc;split at hb
    .rename_i g C;simp only[cT]at hb;obtain⟨rfl,rfl⟩:=hb;obtain⟨zv,Y,V⟩:=yD hz;have I:=HQ (V G) len;obtain⟨O,Z,m⟩:=Dp hl hp I C;have j:O.length=len*s:=by
      rw[<-m.1,Mm C,Dr,L]
     refine⟨.cells g 0 true,.cells (O++[]).toArray e,O.length+0,.slice (some ⟨w.heap.size,0,none⟩) len len,rfl,?_,.cells g O [] e m,fun G' hG=>.sl hG (aH _) ac⟩;rw[bm];show _=Result.ok (Value.slice (some ⟨w.heap.size,0,none⟩) len len) _
     .have J:¬(len*s > 2^24):=by omega
      rw[L]at Z;by_cases U:len*s=0
      .rw[U]at Z;simp at Z;simp[Instr.buildSlice,eG hd,lW M,U,newRow];rw[show Array.map (fun _:Nat=>(default:Value)) (Array.range 0)=#[]from by simp,Z];rfl
      .simp only[wU]at Z;simp[Instr.buildSlice,eG hd,lW M,J,U,Y,Z,newRow]
    .simp at hb
   .simp at hb
  .simp at hb
 .simp at hb
theorem Mo{l r:AV}{lv cv:Value}(hl:VR G l lv)(hc:VR G c cv)(O:j9 P H t l c=some (r,H')):
 se P G w (Instr.makeSlice t lv cv) id r H H':=by
 unfold j9 at O;split at O
 .rename_i e k1 l k2 c hd;cases hl;cases hc;split at O
  .rename_i s b z hs hb hz;split at O
   .rename_i V;obtain⟨M,h2,h3,h4⟩:=V;simp only[cT]at O;obtain⟨rfl,rfl⟩:=O;obtain⟨Y,L,C⟩:=yD hz;obtain⟨i,hi,U⟩:∃i,P.info? e=some i/\i.bytes=b:=HF;have O:dL=70368744177664:=rfl;rw[O]at h2 h3;have I:=HQ (C G) l;have j:((Array.range (c*s)).map (Y.cells[·% Y.cells.size]!)).toList=((Array.range (l*s)).map (Y.cells[·% Y.cells.size]!)).toList++(((Array.range (c*s)).map (Y.cells[·% Y.cells.size]!)).toList.drop (l*s)):=by
     have J:l*s<=c*s:=yz _ M
     conv=>lhs;rw[<-Dg (l*s) ((Array.range (c*s)).map (Y.cells[·% Y.cells.size]!)).toList]
     congr 1
     simp only[HI,Array.toList_range,<-Dh];rw[List.take_range,Nat.min_eq_left J]
    rw[h4]at I;have Z:zlk G (.cells (kM z l) 0 true) _ _:=.cells _ _ (((Array.range (c*s)).map (Y.cells[·% Y.cells.size]!)).toList.drop (l*s)) e I;rw[<-j,wU]at Z;refine⟨_,_,_,.slice (some ⟨w.heap.size,0,none⟩) l c,rfl,?_,Z,fun G' hG=>.sl hG M ?_⟩
    .show _=Result.ok (Value.slice (some ⟨w.heap.size,0,none⟩) l c) _;have dC:IntKind.i64.wrap (l:Int)=l:=At _ ac;have w2:IntKind.i64.wrap (c:Int)=c:=At _ ac;have m:¬((b:Int)*c > 2^48):=by
      have:(b:Int)*c=((c*b:Nat):Int):=by rw[Nat.mul_comm];simp
      rw[this];omega
     have h5:¬((281474976710656:Int)<(b:Int)*c):=Dc;have h6:¬(c<l):=ac;have p1:¬((c:Int)<0):=ac;have p2:¬((l:Int)<0):=ac;simp only[Instr.makeSlice,fT,eG hd,fV,asInt,asIntOf];by_cases h0:c*s=0
     .simp[vh hi,U,dC,w2,h5,h6,p1,p2,lW hs,h0,newRow];rw[show ∀f g:Nat->Value,Array.map f (Array.range 0)=Array.map g (Array.range 0)from fun f g=>au]
     .simp[vh hi,U,dC,w2,h5,h6,p1,p2,lW hs,h0,L,newRow]
    .have J:l*s<=c*s:=yz _ M;simp;omega
   .simp at O
  .simp at O
 .simp at O
end
end Go.Ab
