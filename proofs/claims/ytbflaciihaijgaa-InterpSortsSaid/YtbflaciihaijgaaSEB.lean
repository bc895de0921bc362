/- Lemmas for the last file. -/
import Derived.Laws.Tables
import Derived.Lib.Strings
import Derived.Test.YtbflaciihaijgaaSEA
import Derived.WalkKit
set_option linter.all false
set_option maxHeartbeats 32000000
namespace Go.Ab
set_option maxRecDepth 20000
open Go
abbrev qz:=Option Value
abbrev ql:=List Value
variable{qb:Prop}
def aK(h:qb:=by simp):=h
def nC(h:qb:=by simpa using hc):=h
def kM(h:qb:=by simpa using M):=h
def aa(h:qb:=by omega):=h
def fd(h:qb:=by rw[<- k r _ hr];exact hc):=h
def dj(h:qb:=by simp;omega):=h
def va(h:qb:=by rw[World.frozen?_alloc_old _ _ _ (by have:=h9 m;simp;omega)];exact h2):=h
def sF(h:qb:=by have:=h.bW _ _ A;omega):=h
def gK(h:qb:=by rw[aP,if_pos rfl]):=h
def eN(h:qb:=by rw[Hp.get_set,if_pos rfl]):=h
def kN(h:qb:=by rw[W];omega):=h
def nD(h:qb:=by simp only[cn];omega):=h
def vb(h:qb:=by simpa [Instr.loadAt,Instr.sureAddr]using m):=h
def jY(h:qb:=by simpa using A):=h
def sG(h:qb:=by rw[Nat.add_assoc];exact .ptr hr):=h
def jj(h:qb:=by constructor):=h
def lY(h:qb:=by simp[binOp,Op.stringOp,ByteArray.toList_eq]):=h
def nE(h:qb:=by assumption):=h
def vc(h:qb:=by show J.data.toList.length=J.data.size;simp):=h
def sH(h:qb:=by rw[<- Nat.add_mul];congr 1;omega):=h
def nF(h:qb:=by simpa using I):=h
def hZ(h:qb:=by rw[aP,if_neg aa]):=h
def h8:=@List.getElem?_append_left
def jk:=@List.getElem?_append_right
def jZ:=@List.getElem?_take
def aD:=@if_pos
def aA:=@Nat.le_refl
def dB:=@Nat.le_trans
def eO:=@Nat.lt_of_lt_of_le
def dN:=@Nat.eq_of_beq_eq_true
def sI:=@Nat.ne_of_beq_eq_false
def jl:=@decide_true
def gm:=@decide_false
def aw:=@if_neg
def ak:=@Option.some.injEq
def fA:=@Nat.blt_eq
def dO:=@Array.getD_eq_getD_getElem?
def kO:=@Array.getElem?_setIfInBounds
def cY:=@Prod.mk.injEq
def ci:=@List.getElem?_eq_some_iff
def bq:=@List.getElem?_eq_getElem
def dd:=@Nat.zero_add
def pG:=@Go.RowKit.Below.heap_alloc
def fB:=@Nat.le_succ
def ve:=@List.take_append_of_le_length
def iI:=@List.take_of_length_le
def kP:=@List.drop_of_length_le
def lZ:=@List.length_append
def kQ:=@List.length_take
def de:=@List.length_cons
def l0:=@List.length_nil
def j0:=@List.nil_append
def jm:=@List.append_assoc
def j3:=@List.getElem?_drop
def cw:=@Go.Sem.run_bind
def eP:=@Nat.add_assoc
def gn:=@List.length_drop
def aX:=@Option.bind_eq_some_iff
def dC:=@Option.map_eq_some_iff
def cA:=@Go.Result.andThen_ok
def cy:=@if_true
def eA:=@Go.Sem.run_pure
def fT:=@Array.ext'
def fU:=@List.all_eq_true
def jn:=@List.getElem_mem
def gL:=@beq_iff_eq
def cT:=@if_false
def sJ:=@Bool.or_eq_false_iff
def nG:=@Nat.sub_self
def eB:=@Option.map_some
def eC:=@Nat.zero_le
def gM:=@Nat.add_mul
def vh:=@Array.toList_setIfInBounds
def l1:=@List.take_add_one
def sK:=@List.getElem?_set_self
def sL:=@Decidable.byContradiction
def iJ:=@Nat.add_zero
def l2:=@Array.toArray_toList
def nH:=@Nat.succ_mul
def sM:=@Array.toList_map
def gp:=@List.getElem?_map
def jo:=@List.append_nil
def nI:=@Nat.mul_le_mul_right
def l3:=@Go.IntWalk.i64_in
def bm:=And.intro @ak.{0} @cY.{0,0}
end Go.Ab
namespace Go.Ab
set_option maxRecDepth 20000
open Go Go.RowKit
structure Gh where
 β:Nat->Option (Nat×Nat×Nat)
 F:Nat->Nat->qz
 ρ:Nat->Int
structure Bs where
 cH:Nat
 ρ:Nat->Int
 cfg:Cfg
variable{G O J:Gh}{c x a y:AV}{v Y m L:Value}{cs z:qh}{vs:ql}{w w':World}{B:Bs}{H H' X:Hp}{V b o j i:Nat}{W:Type}{P:Program}{s:Sem Value}{d:TypeDesc}{t M:TypeId}{k:IntKind}{Z:Array Value}{D:BinOp->Sx->Sx->qo}
def fV(D:BinOp->Sx->Sx->qo)(ρ:Nat->Int):Prop:=∀W k a b r,D W a b=some r->dI W k (a.eval ρ) (b.eval ρ)=some (.bool r)
inductive VR (G:Gh):AV->Value->Prop
 |int (k:IntKind) (n:Int):VR G (.int k n) (.int k n)
 |sx (k:IntKind) (e:Sx):VR G (.sx k e) (.int k (e.eval G.ρ))
 |bool (b:Bool):VR G (.bool b) (.bool b)
 |ad (s:ByteArray) (l:qi) (h:s.data.toList=l):VR G (.ad l) (.string s)
 |aY:VR G .aY (.pointer none)
 |aO:VR G .aO (.map none)
 |bh:VR G .bh .nilFunc
 |ab:VR G .ab (.slice none 0 0)
 |ptr {r off b o x:Nat} (h:G.β r=some (b,o,x)):VR G (.ptr r off) (.pointer (some ⟨b,o+off,none⟩))
 |aN {cs:qh}{b o:Nat} (vs:Nat->Value) (hF:∀j,j<cs.length->G.F b (o+j)=some (vs j))
  (hv:∀(j:Nat) (c:AV),cs[j]?=some c->VR G c (vs j)):VR G (.aN cs) (.pointer (some ⟨b,o,none⟩))
 |sl {r off len z b o x cap:Nat} (h:G.β r=some (b,o,x)) (hl:len<=cap) (hc:off+cap*z<=x) :
  VR G (.sl r off len z) (.slice (some ⟨b,o+off,none⟩) len cap)
 |af {xs:List qh}{b o cap z:Nat} (vs:Nat->Nat->Value) (hz:∀(i:Nat) (row:qh),xs[i]?=some row->row.length=z)
  (hF:∀i j,i<xs.length->j<z->G.F b (o+i*z+j)=some (vs i j))
  (hv:∀(i j:Nat) (row:qh) (c:AV),xs[i]?=some row->row[j]?=some c->VR G c (vs i j)) (hc:xs.length<=cap) :
  VR G (.af xs) (.slice (some ⟨b,o,none⟩) xs.length cap)
 |b1 (a:Option Addr) (cap:Nat):VR G (.af []) (.slice a 0 cap)
 |map {r b o x:Nat} (h:G.β r=some (b,o,x)):VR G (.map r) (.map (some b))
 |bj {f:Nat}{cs:qh}{vs:ql} (hl:cs.length=vs.length) (hv:∀(i:Nat) c v,cs[i]?=some c->vs[i]?=some v->VR G c v) :
  VR G (.bj f cs) (.func (.func f) #[] vs.toArray)
 |agg {cs:qh}{vs:ql} (hl:cs.length=vs.length) (hv:∀(i:Nat) c v,cs[i]?=some c->vs[i]?=some v->VR G c v) :
  VR G (.agg cs) (.agg vs.toArray)
 |aC {cs:qh}{vs:ql} (hl:cs.length=vs.length) (hv:∀(i:Nat) c v,cs[i]?=some c->vs[i]?=some v->VR G c v) :
  VR G (.aC cs) (.tuple vs.toArray)
def bb(G:Gh)(cs:qh)(vs:ql):Prop:=cs.length=vs.length/\∀(i:Nat) c v,cs[i]?=some c->vs[i]?=some v->VR G c v
def bb.nil(G:Gh):bb G [] []:=⟨rfl,aK⟩
def iK:=@bb.nil
def bb.cons(h:VR G c v)(J:bb G cs vs):bb G (c::cs) (v::vs):=by
 refine⟨by simp[J.1],fun i F o hc M=>?_⟩;cases i with
 |zero=>simp at hc M;subst hc M;exact h
 |succ i=>exact J.2 i F o nC kM
def gq:=@bb.cons
def bb.aE(h:bb G (c::cs) (v::vs)):VR G c v/\bb G cs vs:=
 ⟨h.2 0 c v rfl rfl,by simpa using h.1,fun i F o hc M=>h.2 (i+1) F o nC kM⟩
def bb.append{ds:qh}{I:ql}(h:bb G cs vs)(U:bb G ds I):bb G (cs++ds) (vs++I):=by
 refine⟨by simp[h.1,U.1],fun i c v hc M=>?_⟩;have O:=h.1;by_cases Z:i<cs.length
 .rw[h8 Z]at hc;rw[h8 aa]at M;exact h.2 i c v hc M
 .rw[jk aa]at hc;rw[jk aa]at M;rw[<-O]at M;exact U.2 _ c v hc M
def bb.drop(h:bb G cs vs)(n:Nat):bb G (cs.drop n) (vs.drop n):=
 ⟨by simp[h.1],fun i c v hc M=>h.2 (n+i) c v nC kM⟩
def bb.take(h:bb G cs vs)(n:Nat):bb G (cs.take n) (vs.take n):=by
 refine⟨by simp[h.1],fun i c v hc M=>?_⟩;rw[jZ]at hc M;split at hc
 .rename_i I;rw[aD I]at M;exact h.2 i c v hc M
 .simp at hc
structure Ext (G G':Gh):Prop where
 β:∀r p,G.β r=some p->G'.β r=some p
 F:∀b o v,G.F b o=some v->G'.F b o=some v
 ρ:G'.ρ=G.ρ
def Ext.refl(G:Gh):Ext G G:=⟨fun _ _ h=>h,fun _ _ _ h=>h,rfl⟩
def l4:=@Ext.refl
def Ext.trans{a b c:Gh}(h:Ext a b)(k:Ext b c):Ext a c:=⟨fun r p hp=>k.β r p (h.β r p hp),fun x y v M=>k.F x y v (h.F x y v M),k.ρ.trans h.ρ⟩
def VR.mono{Z:Gh}(e:Ext G Z)(h:VR G c v):VR Z c v:=by
 induction h with
 |int k n=>exact .int k n
 |sx k x=>rw[<-e.ρ];exact .sx k x
 |bool b=>exact .bool b
 |ad s l h=>exact .ad s l h
 |aY=>exact .aY
 |aO=>exact .aO
 |bh=>exact .bh
 |ab=>exact .ab
 |ptr h=>exact .ptr (e.β _ _ h)
 |aN vs J _ ih=>exact .aN vs (fun j V=>e.F _ _ _ (J j V)) ih
 |sl h O hc=>exact .sl (e.β _ _ h) O hc
 |af vs C J _ hc ih=>exact .af vs C (fun i j I V=>e.F _ _ _ (J i j I V)) ih hc
 |b1 a F=>exact .b1 a F
 |map h=>exact .map (e.β _ _ h)
 |bj O _ ih=>exact .bj O ih
 |agg O _ ih=>exact .agg O ih
 |aC O _ ih=>exact .aC O ih
def bb.mono(e:Ext G O){c:qh}{v:ql}(h:bb G c v):bb O c v:=⟨h.1,fun i a b S C=>(h.2 i a b S C).mono e⟩
theorem VR.a9(h:VR G c v):v.oneCell'=c.one:=by cases h<;>rfl
def VR.cells{G:Gh}{c:AV}{v:Value}(h:VR G c v):bb G c.cells v.cells.toList:=by
 cases h with
 |agg O M=>exact⟨by simpa [AV.cells,Value.cells]using O,by simpa [AV.cells,Value.cells]using M⟩
 |_=>exact gq (by constructor<;>assumption) (iK _)
def dD(G:Gh)(w:World)(b o:Nat)(cs:qh):Prop:=∀(j:Nat) (c:AV),cs[j]?=some c->∃v,w.cell? ⟨b,o+j,none⟩=some v/\VR G c v
def cn(x:Nat)(cs:qh):Bool->Nat
 |true=>x
 |false=>cs.length
def jp(G:Gh)(es:qx)(ms:List MapEntry):Prop:=
 es.length=ms.length/\∀(i:Nat) e m,es[i]?=some e->ms[i]?=some m->VR G e.1 m.key/\VR G e.2 m.val
structure R (B:Bs) (H:Hp) (w:World) (G:Gh):Prop where
 a8:B.cH<=w.heap.size
 bW:∀r p,G.β r=some p->r<H.next
 lt:∀r b o x,G.β r=some (b,o,x)->B.cH<=b/\b<w.heap.size
 cells:∀r b o x cs imm tip,G.β r=some (b,o,x)->H.get r=some (.cells cs imm tip)->dD G w b o cs
 bO:∀r b o x cs imm tip,G.β r=some (b,o,x)->H.get r=some (.cells cs imm tip)->∀j,j<imm->j<cs.length->∃v,G.F b (o+j)=some v
 ext:∀r b o x cs imm tip,G.β r=some (b,o,x)->H.get r=some (.cells cs imm tip)->cs.length<=cn x cs tip
 aV:∀r b o x cs imm tip,G.β r=some (b,o,x)->H.get r=some (.cells cs imm tip)->∀j,imm<=j->j<cn x cs tip ->
  (∃v,w.cell? ⟨b,o+j,none⟩=some v)/\w.frozen? ⟨b,o+j,none⟩=false/\G.F b (o+j)=none
 apart:∀r b o x cs imm tip r' b' o' x' cs' imm' tip',G.β r=some (b,o,x)->H.get r=some (.cells cs imm tip) ->
  G.β r'=some (b',o',x')->H.get r'=some (.cells cs' imm' tip')->r≠r' ->
  ∀j j',imm<=j->j<cn x cs tip->imm'<=j'->j'<cn x' cs' tip'->b=b'->o+j≠o'+j'
 map:∀r b o x es,G.β r=some (b,o,x)->H.get r=some (.map es)->∃ms clock,w.heap[b]?=some (.map ms clock)/\jp G es ms.toList
 au:∀r b o x es r' b' o' x',G.β r=some (b,o,x)->H.get r=some (.map es)->G.β r'=some (b',o',x')->(H.get r').isSome->r≠r'->b≠b'
 bR:∀b o v,G.F b o=some v->w.cell? ⟨b,o,none⟩=some v
 val:G.ρ=B.ρ
 ca:fV B.cfg.bC B.ρ
 a2:∀r b o x cs imm tip,G.β r=some (b,o,x)->H.get r=some (.cells cs imm tip)->cs.length<=x
structure Fr (G:Gh) (w w':World):Prop where
 os:w'.os=w.os
 tape:w'.tape=w.tape
 output:w'.output=w.output
 size:w.heap.size<=w'.heap.size
 block:∀k,k<w.heap.size->(∀r b o x,G.β r=some (b,o,x)->b≠k)->w'.heap[k]?=w.heap[k]?
def Fr.refl(G:Gh)(w:World):Fr G w w:=⟨rfl,rfl,rfl,aA _,fun _ _ _=>rfl⟩
def nJ:=@Fr.refl
def jq(G O:Gh)(w:World):Prop:=∀r b o x,O.β r=some (b,o,x)->G.β r=some (b,o,x)\/w.heap.size<=b\/∃Z L Y,G.β Z=some (b,L,Y)
def Fr.trans{a b c:World}(h:Fr G a b)(k:Fr O b c)(n:jq G O a):Fr G a c:=
 ⟨k.os.trans h.os,k.tape.trans h.tape,k.output.trans h.output,dB h.size k.size,fun i I S=>
  (k.block i (eO I h.size) (fun r b o x hr F=>by
    rcases n r b o x hr with m|m|⟨Z,L,Y,m⟩
    .exact S r b o x m F
    .omega
    .exact S Z b L Y m F)).trans (h.block i I S)⟩
def jq.refl(G:Gh)(w:World):jq G G w:=fun _ _ _ _ h=>.inl h
def kR:=@jq.refl
def jq.trans(h:jq G O w)(k:jq O J w')(V:w.heap.size<=w'.heap.size):jq G J w:=fun r b o x hr=>by
 rcases k r b o x hr with m|m|⟨Y,L,W,m⟩
 .exact h r b o x m
 .exact .inr (.inl aa)
 .rcases h Y b L W m with Z|Z|Z
  .exact .inr (.inr ⟨Y,L,W,Z⟩)
  .exact .inr (.inl Z)
  .exact .inr (.inr Z)
structure Step (B:Bs) (nx:Nat) (G:Gh) (w:World) (H':Hp) (w':World) (G':Gh):Prop where
 r:R B H' w' G'
 ext:Ext G G'
 fr:Fr G w w'
 new:jq G G' w
 cj:∀r p,G'.β r=some p->G.β r=some p\/nx<=r
 mono:nx<=H'.next
 cA:∀b o v,G'.F b o=some v->G.F b o=some v\/B.cH<=b
variable{r:Nat}
def Step.refl(h:R B H w G):Step B H.next G w H w G:=⟨h,l4 _,nJ _ _,kR _ _,fun _ _ h=>.inl h,aA _,fun _ _ _ h=>.inl h⟩
def eh:=@Step.refl
def Step.trans{Z:Hp}{L:World}(h:Step B V G w H' w' O)(k:Step B H'.next O w' Z L J):Step B V G w Z L J:=
 ⟨k.r,h.ext.trans k.ext,h.fr.trans k.fr h.new,h.new.trans k.new h.fr.size,fun r p hr=>by
  rcases k.cj r p hr with m|m
  .exact h.cj r p m
  .exact .inr (dB h.mono m),dB h.mono k.mono,fun b o v M=>by
  rcases k.cA b o v M with m|m
  .exact h.cA b o v m
  .exact .inr m⟩
structure TR (N:Nat) (G:Gh) (E:ae) (a:Act):Prop where
 size:a.tmps.size=N
 a3:∀t,VR G (E.at t) (a.tmps.getD t undef)
def TR.mono{N:Nat}{E:ae}{a:Act}(e:Ext G O)(h:TR N G E a):TR N O E a:=⟨h.size,fun t=>(h.a3 t).mono e⟩
def VR.undef(G:Gh):VR G b5 Go.undef:=.aC (cs:=[]) (vs:=[]) rfl aK
def nK:=@VR.undef
@[simp] theorem jr {α:Type} (x y:α):et true x y=x:=rfl
@[simp] theorem fW {α:Type} (x y:α):et false x y=y:=rfl
theorem nL(k:Nat):(T.e:T W).get k=none:=rfl
theorem kS(v:Option W)(l r:T W)(k:Nat):
 (T.n v l r).get k=et (Nat.beq k 0) v (et (Nat.beq (Nat.mod k 2) 1) (l.get (Nat.div k 2)) (r.get (Nat.sub (Nat.div k 2) 1))):=rfl
theorem z4(v:Option W)(f:Nat)(t:T W)(k:Nat):kC v (f+1) t k=T.casesOn t
 (et (Nat.beq k 0) (.n v .e .e) (et (Nat.beq (Nat.mod k 2) 1) (.n none (kC v f .e (Nat.div k 2)) .e) (.n none .e (kC v f .e (Nat.sub (Nat.div k 2) 1)))))
 (fun u l r=>et (Nat.beq k 0) (.n v l r) (et (Nat.beq (Nat.mod k 2) 1) (.n u (kC v f l (Nat.div k 2)) r) (.n u l (kC v f r (Nat.sub (Nat.div k 2) 1))))):=rfl
def z5{U:Type}(v:Option U):∀(f:Nat) (t:T U) (k j:Nat),k<f->(kC v f t k).get j=if j=k then v else t.get j:=by
 intro f;induction f with
 |zero=>intro t k j h;omega
 |succ f ih=>
  intro t k j h;have hd:∀n:Nat,Nat.div n 2=n/2:=fun _=>rfl;have W:∀n:Nat,Nat.mod n 2=n%2:=fun _=>rfl;have J:∀n:Nat,Nat.sub n 1=n-1:=fun _=>rfl;have A:∀n m:Nat,Nat.beq n m=decide (n=m):=fun n m=>by
   cases h:Nat.beq n m with
   |true=>have e:=dN h;simp[e]
   |false=>have e:=sI h;simp[e]
  rw[z4];cases t with
  |e=>
   simp only[];by_cases M:k=0
   .subst M;simp only[A,jl,jr,kS,nL];by_cases V:j=0<;>simp[V] ;cases decide (j.mod 2=1)<;>rfl
   .simp only[A,M,gm,fW];by_cases Y:Nat.mod k 2=1
    .simp only[Y,jl,jr,kS,A];by_cases O:j=0
     .subst O;simp[nL];omega
     .simp only[O,gm,fW];by_cases Z:Nat.mod j 2=1
      .simp only[Z,jl,jr];rw[ih _ _ _ (by rw[hd];omega)];rw[hd,hd,W]at *;by_cases e:j=k
       .subst e;simp
       .rw[aw aa,aw e];rfl
      .simp only[Z,gm,fW,nL];rw[aw (by rintro rfl;exact Z Y)]
    .simp only[Y,gm,fW,kS,A];by_cases O:j=0
     .subst O;simp[nL];omega
     .simp only[O,gm,fW];by_cases Z:Nat.mod j 2=1
      .simp only[Z,jl,jr,nL];rw[aw (by rintro rfl;exact Y Z)]
      .simp only[Z,gm,fW];rw[ih _ _ _ (by rw[hd,J];omega)];rw[hd,hd,J,J];rw[W]at Y Z;by_cases e:j=k
       .subst e;simp
       .rw[aw aa,aw e];rfl
  |n u l r=>
   simp only[];by_cases M:k=0
   .subst M;simp only[A,jl,jr,kS];by_cases V:j=0<;>simp[V]
   .simp only[A,M,gm,fW];by_cases Y:Nat.mod k 2=1
    .simp only[Y,jl,jr,kS,A];by_cases O:j=0
     .subst O;simp;omega
     .simp only[O,gm,fW];by_cases Z:Nat.mod j 2=1
      .simp only[Z,jl,jr];rw[ih _ _ _ (by rw[hd];omega)];rw[W]at Y Z;rw[hd,hd];by_cases e:j=k
       .subst e;simp
       .rw[aw aa,aw e]
      .simp only[Z,gm,fW];rw[aw (by rintro rfl;exact Z Y)]
    .simp only[Y,gm,fW,kS,A];by_cases O:j=0
     .subst O;simp;omega
     .simp only[O,gm,fW];by_cases Z:Nat.mod j 2=1
      .simp only[Z,jl,jr];rw[aw (by rintro rfl;exact Y Z)]
      .simp only[Z,gm,fW];rw[ih _ _ _ (by rw[hd,J];omega)];rw[W]at Y Z;rw[hd,hd,J,J];by_cases e:j=k
       .subst e;simp
       .rw[aw aa,aw e]
def T.get_set{W:Type}(t:T W)(k j:Nat)(v:Option W):(t.set k v).get j=if j=k then v else t.get j:=z5 v (k+1) t k j aa
def pH:=@T.get_set
def Hp.get_set(h:Hp)(r j:Nat)(b:HB):(h.set r b).get j=if j=r then some b else h.get j:=pH _ _ _ _
def a0:=@Hp.get_set
def fX(h:Hp)(r j:Nat):(h.aG r).get j=if j=r then none else h.get j:=pH _ _ _ _
def aP(h:Hp)(j:Nat)(b:HB):(h.alloc b).get j=if j=h.next then some b else h.get j:=pH _ _ _ _
@[simp] theorem cH (h:Hp) (r:Nat) (b:HB):(h.set r b).next=h.next:=rfl
@[simp] theorem kT (h:Hp) (r:Nat):(h.aG r).next=h.next:=rfl
@[simp] theorem cb (h:Hp) (b:HB):(h.alloc b).next=h.next+1:=rfl
theorem l5(E:ae)(d t:Nat)(v:AV):ae.at (T.set E d (some v)) t=if t=d then v else E.at t:=by
 unfold ae.at;rw[pH];split<;>rfl
def TR.put{N:Nat}{G:Gh}{E o:ae}{a:Act}(h:TR N G E a){S:Option Tmp}{c:AV}{v:Value}(M:VR G c v)(J:cF N E S c=some o):TR N G o (a.put S v):=by
 cases S with
 |none=>simp[cF]at J;subst J;exact h
 |some d=>
  simp only[cF]at J;split at J
  .rename_i hd;simp only[ak]at J;subst J;have Z:d<N:=by simpa [fA]using hd
   refine⟨by simp[Act.put,h.size],fun t=>?_⟩;rw[l5];simp only[Act.put];by_cases e:t=d
   .subst e;rw[aD rfl];simpa [Array.getD,h.size,Z]using M
   .rw[aw e];have:=h.a3 t;simpa [dO,kO,Ne.symm e]using this
  .simp at J
def h9(h:w.cell? ⟨b,o,none⟩=some v):b<w.heap.size:=World.block_lt_of_cell? w ⟨b,o,none⟩ h
def R.congr(h:R B H w G)(M:H'.next=H.next)(J:∀r,(G.β r).isSome->H'.get r=H.get r):R B H' w G:=by
 have k:∀r p,G.β r=some p->H'.get r=H.get r:=fun r p hr=>J r (by simp[hr]);exact{
  a8:=h.a8
  bW:=fun r p hr=>by rw[M];exact h.bW r p hr
  lt:=h.lt
  cells:=fun r b o x cs imm Z hr hc=>h.cells r b o x cs imm Z hr fd
  bO:=fun r b o x cs imm Z hr hc=>h.bO r b o x cs imm Z hr fd
  ext:=fun r b o x cs imm Z hr hc=>h.ext r b o x cs imm Z hr fd
  a2:=fun r b o x cs imm Z hr hc=>h.a2 r b o x cs imm Z hr fd
  aV:=fun r b o x cs imm Z hr hc=>h.aV r b o x cs imm Z hr fd
  apart:=fun r b o x cs imm Z W b' L U A C V hr hc Y S=>h.apart r b o x cs imm Z W b' L U A C V hr fd Y (by rw[<-k W _ Y];exact S)
  map:=fun r b o x O hr hc=>h.map r b o x O hr fd
  au:=fun r b o x O W b' L U hr hc Y I=>h.au r b o x O W b' L U hr fd Y (by rw[<-k W _ Y];exact I)
  bR:=h.bR
  val:=h.val
  ca:=h.ca}
def R.aG{B:Bs}{H:Hp}{w:World}{G:Gh}(h:R B H w G)(bi:Nat):R B (H.aG bi) w G:=by
 have k:∀j b,(H.aG bi).get j=some b->H.get j=some b:=fun j b V=>by
  rw[fX]at V;split at V
  .simp at V
  .exact V
 exact{
  a8:=h.a8
  bW:=h.bW
  lt:=h.lt
  cells:=fun r b o x cs imm Z hr hc=>h.cells r b o x cs imm Z hr (k _ _ hc)
  bO:=fun r b o x cs imm Z hr hc=>h.bO r b o x cs imm Z hr (k _ _ hc)
  ext:=fun r b o x cs imm Z hr hc=>h.ext r b o x cs imm Z hr (k _ _ hc)
  a2:=fun r b o x cs imm Z hr hc=>h.a2 r b o x cs imm Z hr (k _ _ hc)
  aV:=fun r b o x cs imm Z hr hc=>h.aV r b o x cs imm Z hr (k _ _ hc)
  apart:=fun r b o x cs imm Z U b' L S A C W hr hc Y O=>h.apart r b o x cs imm Z U b' L S A C W hr (k _ _ hc) Y (k _ _ O)
  map:=fun r b o x M hr hc=>h.map r b o x M hr (k _ _ hc)
  au:=fun r b o x M U b' L S hr hc Y I=>h.au r b o x M U b' L S hr (k _ _ hc) Y (by
   cases J:(H.aG bi).get U with
   |none=>simp[J]at I
   |some b=>rw[k _ _ J];rfl)
  bR:=h.bR
  val:=h.val
  ca:=h.ca}
def Gh.add(G:Gh)(r:Nat)(p:Nat×Nat×Nat):Gh:={β:=fun k=>if k=r then some p else G.β k,F:=G.F,ρ:=G.ρ}
def js(G:Gh)(r:Nat)(p:Nat×Nat×Nat):(G.add r p).β r=some p:=by simp[Gh.add]
def sN{p:Nat×Nat×Nat}(h:∀q,G.β r=some q->False):Ext G (G.add r p):=
 ⟨fun k q A=>by
  simp only[Gh.add];split
  .rename_i e;subst e;exact(h q A).elim
  .exact A,fun _ _ _ h=>h,rfl⟩
def dD.mono(e:Ext G O)(h:dD G w b o cs):dD O w b o cs:=
 fun j c V=>let ⟨v,m,Z⟩:=h j c V;⟨v,m,Z.mono e⟩
def jp.mono{es:qx}{ms:List MapEntry}(e:Ext G O)(h:jp G es ms):jp O es ms:=
 ⟨h.1,fun i a b S C=>⟨(h.2 i a b S C).1.mono e,(h.2 i a b S C).2.mono e⟩⟩
def vi{nx bi:Nat}(h:R B X w G)(hno:∀q,G.β bi=some q->False)(hlt0:bi<X.next)(V:X.get bi=some (.cells cs 0 true))(hnx:nx<=bi)
 (hv:bb G cs vs) (W:ql) (e:TypeId) :
 Step B nx G w X (w.alloc (.cells (vs++W).toArray e)) (G.add bi (w.heap.size,0,vs.length+W.length)):=by
 have S:Ext G (G.add bi (w.heap.size,0,vs.length+W.length)):=sN hno;have L:∀k b' C,k<w.heap.size->b'=k->(w.alloc (.cells (vs++W).toArray e)).cell? ⟨b',C,none⟩=w.cell? ⟨b',C,none⟩:=fun k b' C hk hb=>World.cell?_alloc_lt _ _ _ (by simpa [hb]using hk);have hnew:∀j,(w.alloc (.cells (vs++W).toArray e)).cell? ⟨w.heap.size,j,none⟩=(vs++W)[j]?:=fun j=>by
  rw[World.cell?_alloc_new];simp
 have F:∀r p,(G.add bi (w.heap.size,0,vs.length+W.length)).β r=some p->(r=bi/\p=(w.heap.size,0,vs.length+W.length))\/(r≠bi/\G.β r=some p):=fun r p hr=>by
  simp only[Gh.add]at hr;split at hr
  .rename_i e;exact .inl ⟨e,by simpa using hr.symm⟩
  .rename_i e;exact .inr ⟨e,hr⟩
 refine⟨?_,S,⟨rfl,rfl,rfl,aK,fun k hk _=>?_⟩,fun r b o x hr=>?_,fun r p hr=>(F r p hr).elim (fun e=>.inr (by rw[e.1];exact hnx)) (fun e=>.inl e.2),aa,fun _ _ _ h=>.inl h⟩
 .exact{
   a8:=by have:=h.a8;simp;omega
   bW:=fun r p hr=>by
    rcases F r p hr with⟨rfl,_⟩|⟨_,Z⟩
    .exact hlt0
    .exact h.bW r p Z
   lt:=fun r b o x hr=>by
    rcases F r _ hr with⟨rfl,hp⟩|⟨_,Z⟩
    .simp only[cY]at hp;obtain⟨rfl,rfl,rfl⟩:=hp;exact⟨h.a8,aK⟩
    .have:=h.lt r b o x Z;exact⟨this.1,dj⟩
   cells:=fun r b o x A imm Y hr hc=>by
    rcases F r _ hr with⟨rfl,hp⟩|⟨O,Z⟩
    .simp only[cY]at hp;obtain⟨rfl,rfl,rfl⟩:=hp;rw[V]at hc;simp only[ak,HB.cells.injEq]at hc;obtain⟨rfl,rfl,rfl⟩:=hc;intro j c J;have U:j<cs.length:=(ci.1 J).1;have hjv:j<vs.length:=by have:=hv.1;omega
     refine⟨vs[j],?_,(hv.2 j c _ J (bq hjv)).mono S⟩;rw[dd,hnew,h8 hjv,bq hjv]
    .intro j c J;obtain⟨v,m,h2⟩:=h.cells r b o x A imm Y Z hc j c J;exact⟨v,by rw[L _ _ _ (h9 m) rfl];exact m,h2.mono S⟩
   bO:=fun r b o x A imm Y hr hc j J U=>by
    rcases F r _ hr with⟨rfl,hp⟩|⟨O,Z⟩
    .rw[V]at hc;simp only[ak,HB.cells.injEq]at hc;obtain⟨rfl,rfl,rfl⟩:=hc;omega
    .exact h.bO r b o x A imm Y Z hc j J U
   ext:=fun r b o x A imm Y hr hc=>by
    rcases F r _ hr with⟨rfl,hp⟩|⟨O,Z⟩
    .simp only[cY]at hp;obtain⟨rfl,rfl,rfl⟩:=hp;rw[V]at hc;simp only[ak,HB.cells.injEq]at hc;obtain⟨rfl,rfl,rfl⟩:=hc;have:=hv.1;simp only[cn];omega
    .exact h.ext r b o x A imm Y Z hc
   a2:=fun r b o x A imm Y hr hc=>by
    rcases F r _ hr with⟨rfl,hp⟩|⟨O,Z⟩
    .simp only[cY]at hp;obtain⟨rfl,rfl,rfl⟩:=hp;rw[V]at hc;simp only[ak,HB.cells.injEq]at hc;obtain⟨rfl,rfl,rfl⟩:=hc;have:=hv.1;omega
    .exact h.a2 r b o x A imm Y Z hc
   aV:=fun r b o x A imm Y hr hc j J U=>by
    rcases F r _ hr with⟨rfl,hp⟩|⟨O,Z⟩
    .simp only[cY]at hp;obtain⟨rfl,rfl,rfl⟩:=hp;rw[V]at hc;simp only[ak,HB.cells.injEq]at hc;obtain⟨rfl,rfl,rfl⟩:=hc;simp only[cn]at U;refine⟨⟨(vs++W)[j]' dj,?_⟩,?_,?_⟩
     .rw[dd,hnew,bq]
     .simp
     .cases hf:G.F w.heap.size (0+j)with
      |none=>exact hf
      |some v=>have:=h9 (h.bR _ _ _ hf);omega
    .obtain⟨⟨v,m⟩,h2,h3⟩:=h.aV r b o x A imm Y Z hc j J U;exact⟨⟨v,by rw[L _ _ _ (h9 m) rfl];exact m⟩,va,h3⟩
   apart:=fun r b o x cs1 imm Y r' b' C x' cs2 imm' tip' hr hc Z hc' O j j' J U hj' hjl' he=>by
    rcases F r _ hr with⟨rfl,hp⟩|⟨hn1,M⟩
    .simp only[cY]at hp;obtain⟨rfl,rfl,rfl⟩:=hp;rcases F r' _ Z with⟨rfl,hp⟩|⟨hn2,I⟩
     .exact(O rfl).elim
     .have:=(h.lt r' b' C x' I).2;omega
    .rcases F r' _ Z with⟨rfl,hp⟩|⟨hn2,I⟩
     .simp only[cY]at hp;obtain⟨rfl,rfl,rfl⟩:=hp;have:=(h.lt r b o x M).2;omega
     .exact h.apart r b o x cs1 imm Y r' b' C x' cs2 imm' tip' M hc I hc' O j j' J U hj' hjl' he
   map:=fun r b o x es hr hc=>by
    rcases F r _ hr with⟨rfl,hp⟩|⟨O,Z⟩
    .rw[V]at hc;simp at hc
    .obtain⟨ms,clock,m,h2⟩:=h.map r b o x es Z hc;refine⟨ms,clock,?_,h2.mono S⟩;rw[pG _ _ _ (h.lt r b o x Z).2];exact m
   au:=fun r b o x es r' b' C x' hr hc Z hs O=>by
    rcases F r _ hr with⟨rfl,hp⟩|⟨hn1,M⟩
    .rw[V]at hc;simp at hc
    .rcases F r' _ Z with⟨rfl,hp⟩|⟨hn2,I⟩
     .simp only[cY]at hp;obtain⟨rfl,rfl,rfl⟩:=hp;have:=(h.lt r b o x M).2;omega
     .exact h.au r b o x es r' b' C x' M hc I hs O
   bR:=fun b o v hf=>by
    have:=h.bR b o v hf;rw[L _ _ _ (h9 this) rfl];exact this
   val:=h.val
   ca:=h.ca}
 .exact pG _ _ _ hk
 .rcases F r _ hr with⟨rfl,hp⟩|⟨_,Z⟩
  .simp only[cY]at hp;obtain⟨rfl,rfl,rfl⟩:=hp;exact .inr (.inl (aA _))
  .exact .inl Z
def vj{nx bi:Nat}(h:R B X w G)(hno:∀q,G.β bi=some q->False)(hlt0:bi<X.next)(V:X.get bi=some (.map []))(hnx:nx<=bi):
 Step B nx G w X (w.alloc (.map #[] 0)) (G.add bi (w.heap.size,0,0)):=by
 have U:Ext G (G.add bi (w.heap.size,0,0)):=sN hno;have S:∀k b' L,k<w.heap.size->b'=k->(w.alloc (.map #[] 0)).cell? ⟨b',L,none⟩=w.cell? ⟨b',L,none⟩:=fun k b' L hk hb=>World.cell?_alloc_lt _ _ _ (by simpa [hb]using hk);have F:∀r p,(G.add bi (w.heap.size,0,0)).β r=some p->(r=bi/\p=(w.heap.size,0,0))\/(r≠bi/\G.β r=some p):=fun r p hr=>by
  simp only[Gh.add]at hr;split at hr
  .rename_i e;exact .inl ⟨e,by simpa using hr.symm⟩
  .rename_i e;exact .inr ⟨e,hr⟩
 refine⟨?_,U,⟨rfl,rfl,rfl,aK,fun k hk _=>?_⟩,fun r b o x hr=>?_,fun r p hr=>(F r p hr).elim (fun e=>.inr (by rw[e.1];exact hnx)) (fun e=>.inl e.2),aa,fun _ _ _ h=>.inl h⟩
 .exact{
   a8:=by have:=h.a8;simp;omega
   bW:=fun r p hr=>by
    rcases F r p hr with⟨rfl,_⟩|⟨_,Z⟩
    .exact hlt0
    .exact h.bW r p Z
   lt:=fun r b o x hr=>by
    rcases F r _ hr with⟨rfl,hp⟩|⟨_,Z⟩
    .simp only[cY]at hp;obtain⟨rfl,rfl,rfl⟩:=hp;exact⟨h.a8,aK⟩
    .have:=h.lt r b o x Z;exact⟨this.1,dj⟩
   cells:=fun r b o x A imm Y hr hc=>by
    rcases F r _ hr with⟨rfl,hp⟩|⟨O,Z⟩
    .rw[V]at hc;simp at hc
    .intro j c J;obtain⟨v,m,h2⟩:=h.cells r b o x A imm Y Z hc j c J;exact⟨v,by rw[S _ _ _ (h9 m) rfl];exact m,h2.mono U⟩
   bO:=fun r b o x A imm Y hr hc j J W=>by
    rcases F r _ hr with⟨rfl,hp⟩|⟨O,Z⟩
    .rw[V]at hc;simp at hc
    .exact h.bO r b o x A imm Y Z hc j J W
   ext:=fun r b o x A imm Y hr hc=>by
    rcases F r _ hr with⟨rfl,hp⟩|⟨O,Z⟩
    .rw[V]at hc;simp at hc
    .exact h.ext r b o x A imm Y Z hc
   a2:=fun r b o x A imm Y hr hc=>by
    rcases F r _ hr with⟨rfl,hp⟩|⟨O,Z⟩
    .rw[V]at hc;simp at hc
    .exact h.a2 r b o x A imm Y Z hc
   aV:=fun r b o x A imm Y hr hc j J W=>by
    rcases F r _ hr with⟨rfl,hp⟩|⟨O,Z⟩
    .rw[V]at hc;simp at hc
    .obtain⟨⟨v,m⟩,h2,h3⟩:=h.aV r b o x A imm Y Z hc j J W;exact⟨⟨v,by rw[S _ _ _ (h9 m) rfl];exact m⟩,va,h3⟩
   apart:=fun r b o x cs1 imm Y C b' L x' cs2 imm' tip' hr hc Z hc' O j j' J W hj' hjl' he=>by
    rcases F r _ hr with⟨rfl,hp⟩|⟨hn1,M⟩
    .rw[V]at hc;simp at hc
    .rcases F C _ Z with⟨rfl,hp⟩|⟨hn2,I⟩
     .rw[V]at hc';simp at hc'
     .exact h.apart r b o x cs1 imm Y C b' L x' cs2 imm' tip' M hc I hc' O j j' J W hj' hjl' he
   map:=fun r b o x es hr hc=>by
    rcases F r _ hr with⟨rfl,hp⟩|⟨O,Z⟩
    .simp only[cY]at hp;obtain⟨rfl,rfl,rfl⟩:=hp;rw[V]at hc;simp only[ak,HB.map.injEq]at hc;subst hc;exact⟨#[],0,by show(w.heap.push _)[w.heap.size]?=_;simp,rfl,aK⟩
    .obtain⟨ms,clock,m,h2⟩:=h.map r b o x es Z hc;refine⟨ms,clock,?_,h2.mono U⟩;rw[pG _ _ _ (h.lt r b o x Z).2];exact m
   au:=fun r b o x es C b' L x' hr hc Z hs O=>by
    rcases F r _ hr with⟨rfl,hp⟩|⟨hn1,M⟩
    .simp only[cY]at hp;obtain⟨rfl,rfl,rfl⟩:=hp;rcases F C _ Z with⟨rfl,hp⟩|⟨hn2,I⟩
     .exact(O rfl).elim
     .have:=(h.lt C b' L x' I).2;omega
    .rcases F C _ Z with⟨rfl,hp⟩|⟨hn2,I⟩
     .simp only[cY]at hp;obtain⟨rfl,rfl,rfl⟩:=hp;have:=(h.lt r b o x M).2;omega
     .exact h.au r b o x es C b' L x' M hc I hs O
   bR:=fun b o v hf=>by
    have:=h.bR b o v hf;rw[S _ _ _ (h9 this) rfl];exact this
   val:=h.val
   ca:=h.ca}
 .exact pG _ _ _ hk
 .rcases F r _ hr with⟨rfl,hp⟩|⟨_,Z⟩
  .simp only[cY]at hp;obtain⟨rfl,rfl,rfl⟩:=hp;exact .inr (.inl (aA _))
  .exact .inl Z
def R.more(h:R B H w G)(M:H.next<=X.next)(J:∀r,r<H.next->X.get r=H.get r):R B X w G:=by
 have k:∀r p,G.β r=some p->X.get r=H.get r:=fun r p hr=>J r (h.bW r p hr);exact{
  a8:=h.a8
  bW:=fun r p hr=>eO (h.bW r p hr) M
  lt:=h.lt
  cells:=fun r b o x cs imm Z hr hc=>h.cells r b o x cs imm Z hr fd
  bO:=fun r b o x cs imm Z hr hc=>h.bO r b o x cs imm Z hr fd
  ext:=fun r b o x cs imm Z hr hc=>h.ext r b o x cs imm Z hr fd
  a2:=fun r b o x cs imm Z hr hc=>h.a2 r b o x cs imm Z hr fd
  aV:=fun r b o x cs imm Z hr hc=>h.aV r b o x cs imm Z hr fd
  apart:=fun r b o x cs imm Z W b' L U A C V hr hc Y S=>h.apart r b o x cs imm Z W b' L U A C V hr fd Y (by rw[<-k W _ Y];exact S)
  map:=fun r b o x O hr hc=>h.map r b o x O hr fd
  au:=fun r b o x O W b' L U hr hc Y I=>h.au r b o x O W b' L U hr fd Y (by rw[<-k W _ Y];exact I)
  bR:=h.bR
  val:=h.val
  ca:=h.ca}
def R.alloc(h:R B H w G)(I:HB):R B (H.alloc I) w G:=
 h.more (fB _) (fun r hr=>hZ)
def pI(h:R B H w G)(M:bb G cs vs)(W:ql)(e:TypeId):
 Step B H.next G w (H.alloc (.cells cs 0 true)) (w.alloc (.cells (vs++W).toArray e)) (G.add H.next (w.heap.size,0,vs.length+W.length)):=
 vi (h.alloc _) (fun q A=>sF) aK gK (aA _) M W e
def z6(h:R B H w G):
 Step B H.next G w (H.alloc (.map [])) (w.alloc (.map #[] 0)) (G.add H.next (w.heap.size,0,0)):=
 vj (h.alloc _) (fun q A=>sF) aK gK (aA _)
inductive zal (G:Gh):HB->Obj->Nat->Prop
 |cells (cs:qh) (vs spare:ql) (e:TypeId) (hv:bb G cs vs):zal G (.cells cs 0 true) (.cells (vs++spare).toArray e) (vs.length+spare.length)
 |map:zal G (.map []) (.map #[] 0) 0
def vk{bi:Nat}{I:HB}{o:Obj}{ext:Nat}(h:R B X w G)(A:∀q,G.β bi=some q->False)(U:bi<X.next)(L:X.get bi=some I)(Z:V<=bi)(Y:zal G I o ext):
 Step B V G w X (w.alloc o) (G.add bi (w.heap.size,0,ext)):=by
 cases Y with
 |cells cs vs W e M=>exact vi h A U L Z M W e
 |map=>exact vj h A U L Z
def ib(P:Program)(G:Gh)(w:World)(s:Sem W)(f:Value->W)(c:AV)(H H':Hp):Prop:=
 ∃I o ext v,H'=H.alloc I/\s.run P w=.ok (f v) (w.alloc o)/\zal G I o ext/\∀O:Gh,O.β H.next=some (w.heap.size,0,ext)->VR O c v
def ib.sim(h:R B H w G)(W:ib P G w s id c H H'):∃v I O,s.run P w=.ok v I/\VR O c v/\Step B H.next G w H' I O:=by
 obtain⟨Z,o,ext,v,rfl,m,Y,F⟩:=W;exact⟨v,_,_,m,F _ (js _ _ _),vk (h.alloc _) (fun q A=>sF) aK gK (aA _) Y⟩
def ib.next(W:ib P G w s id c H H'):ib P G w (do pure (.value (<-s)):Sem Next) Next.value c H H':=by
 obtain⟨I,o,ext,v,M,m,Z,F⟩:=W;exact⟨I,o,ext,v,M,by simp[m],Z,F⟩
def z7{Y L:Nat}(h:b=Y->o≠L):(⟨b,o,none⟩:Addr)≠⟨Y,L,none⟩:=fun e=>by
 simp only[Addr.mk.injEq]at e;exact h e.1 e.2.1
theorem z8(h:R B H w G){x:Nat}{cs':qh}{imm:Nat}{tip:Bool}(hr:G.β r=some (b,o,x))(hc:H.get r=some (.cells cs imm tip))
  (hj:imm<=j) (hjl:j<cn x cs tip) 
 (hcs:∀(i:Nat) c,cs'[i]?=some c->(i=j/\VR G c v)\/(i≠j/\cs[i]?=some c)) (hl:cs'.length<=cn x cs tip) (hl':tip=false->cs'.length=cs.length) :
 Step B H.next G w (H.set r (.cells cs' imm tip)) (w.setCell ⟨b,o+j,none⟩ v) G:=by
 obtain⟨⟨u,hu⟩,hfz,hF⟩:=h.aV r b o x cs imm tip hr hc j hj hjl;have hsame:(w.setCell ⟨b,o+j,none⟩ v).cell? ⟨b,o+j,none⟩=some v:=World.cell?_setCell_same _ _ _ hu;have C:∀b' m,(b'=b->m≠o+j)->(w.setCell ⟨b,o+j,none⟩ v).cell? ⟨b',m,none⟩=w.cell? ⟨b',m,none⟩:=fun b' m hne=>
  World.cell?_setCell_other _ _ _ _ (z7 fun e e'=>hne e.symm e'.symm)
 have M:cn x cs' tip=cn x cs tip:=by
  cases tip with
  |true=>rfl
  |false=>exact hl' rfl
 have Z:∀k,k≠r->(H.set r (.cells cs' imm tip)).get k=H.get k:=fun k hk=>by rw[a0,aw hk]
 have J:(H.set r (.cells cs' imm tip)).get r=some (.cells cs' imm tip):=eN;have hkeep:∀b' m v',G.F b' m=some v'->(b'=b->m≠o+j):=fun b' m v' hf e e'=>by subst e;subst e';rw[hF]at hf;simp at hf
 have hcell:∀b' m,(∃v',w.cell? ⟨b',m,none⟩=some v')->∃v',(w.setCell ⟨b,o+j,none⟩ v).cell? ⟨b',m,none⟩=some v':=fun b' m ⟨v',hv'⟩=>by
  by_cases e:b'=b/\m=o+j
  .obtain⟨rfl,rfl⟩:=e;exact⟨v,hsame⟩
  .exact⟨v',by rw[C b' m (fun e1 e2=>e ⟨e1,e2⟩)];exact hv'⟩
 refine⟨?_,l4 _,⟨rfl,rfl,rfl,aK,fun k hk hn=>?_⟩,kR _ _,fun _ _ h=>.inl h,aA _,fun _ _ _ h=>.inl h⟩
 .exact{
   a8:=by have:=h.a8;simpa using this
   bW:=h.bW
   lt:=fun r b o x hr=>by have:=h.lt r b o x hr;simpa using this
   cells:=fun ao L V O A W Y F S=>by
    by_cases e:ao=r
    .subst e;rw[hr]at F;simp only[bm]at F;obtain⟨rfl,rfl,rfl⟩:=F;rw[J]at S;simp only[ak,HB.cells.injEq]at S;obtain⟨rfl,rfl,rfl⟩:=S;intro i c hi;rcases hcs i c hi with⟨rfl,hv⟩|⟨hne,hi'⟩
     .exact⟨v,hsame,hv⟩
     .obtain⟨v',h1,h2⟩:=h.cells ao b o x cs imm tip hr hc i c hi';exact⟨v',by rw[C _ _ (fun _=>aa)];exact h1,h2⟩
    .rw[Z ao e]at S;intro i c hi;obtain⟨v',h1,h2⟩:=h.cells ao L V O A W Y F S i c hi;refine⟨v',?_,h2⟩;rw[C]
     .exact h1
     .have U:i<A.length:=(ci.1 hi).1;have hex:=h.ext ao L V O A W Y F S;by_cases hi1:W<=i
      .exact h.apart ao L V O A W Y r b o x cs imm tip F S hr hc e i j hi1 aa hj hjl
      .obtain⟨u',hu'⟩:=h.bO ao L V O A W Y F S i aa U;exact hkeep _ _ _ hu'
   bO:=fun ao L V O A W Y F S i hi U=>by
    by_cases e:ao=r
    .subst e;rw[hr]at F;simp only[bm]at F;obtain⟨rfl,rfl,rfl⟩:=F;rw[J]at S;simp only[ak,HB.cells.injEq]at S;obtain⟨rfl,rfl,rfl⟩:=S;rcases hcs i _ (bq U)with⟨rfl,_⟩|⟨_,hi'⟩
     .omega
     .exact h.bO ao b o x cs imm tip hr hc i hi (ci.1 hi').1
    .rw[Z ao e]at S;exact h.bO ao L V O A W Y F S i hi U
   ext:=fun ao L V O A W Y F S=>by
    by_cases e:ao=r
    .subst e;rw[hr]at F;simp only[bm]at F;obtain⟨rfl,rfl,rfl⟩:=F;rw[J]at S;simp only[ak,HB.cells.injEq]at S;obtain⟨rfl,rfl,rfl⟩:=S;rw[M];exact hl
    .rw[Z ao e]at S;exact h.ext ao L V O A W Y F S
   a2:=fun ao L V O A W Y F S=>by
    by_cases e:ao=r
    .subst e;rw[hr]at F;simp only[bm]at F;obtain⟨rfl,rfl,rfl⟩:=F;rw[J]at S;simp only[ak,HB.cells.injEq]at S;obtain⟨rfl,rfl,rfl⟩:=S;rcases Bool.eq_false_or_eq_true tip with e1|e1
     .subst e1;exact hl
     .rw[hl' e1];exact h.a2 _ _ _ _ _ _ _ hr hc
    .rw[Z ao e]at S;exact h.a2 ao L V O A W Y F S
   aV:=fun ao L V O A W Y F S i hi U=>by
    by_cases e:ao=r
    .subst e;rw[hr]at F;simp only[bm]at F;obtain⟨rfl,rfl,rfl⟩:=F;rw[J]at S;simp only[ak,HB.cells.injEq]at S;obtain⟨rfl,rfl,rfl⟩:=S;rw[M]at U;obtain⟨h1,h2,h3⟩:=h.aV ao b o x cs imm tip hr hc i hi U;exact⟨hcell _ _ h1,by rw[World.frozen?_setCell];exact h2,h3⟩
    .rw[Z ao e]at S;obtain⟨h1,h2,h3⟩:=h.aV ao L V O A W Y F S i hi U;exact⟨hcell _ _ h1,by rw[World.frozen?_setCell];exact h2,h3⟩
   apart:=fun ao L V O A W Y aC b2 o2 x2 cs2 imm2 tip2 F S hr2 hc2 hne i i' hi U hi' hil'=>by
    have key:∀k bk ok xk csk immk I,G.β k=some (bk,ok,xk)->(H.set r (.cells cs' imm tip)).get k=some (.cells csk immk I) ->
     ∃cs0,H.get k=some (.cells cs0 immk I)/\cn xk cs0 I=cn xk csk I:=fun k bk ok xk csk immk I hk hck=>by
     by_cases e:k=r
     .subst e;rw[hr]at hk;simp only[bm]at hk;obtain⟨rfl,rfl,rfl⟩:=hk;rw[J]at hck;simp only[ak,HB.cells.injEq]at hck;obtain⟨rfl,rfl,rfl⟩:=hck;exact⟨cs,hc,M.symm⟩
     .rw[Z k e]at hck;exact⟨csk,hck,rfl⟩
    obtain⟨c1,g1,e1⟩:=key ao L V O A W Y F S;obtain⟨c2,g2,e2⟩:=key aC b2 o2 x2 cs2 imm2 tip2 hr2 hc2;exact h.apart ao L V O c1 W Y aC b2 o2 x2 c2 imm2 tip2 F g1 hr2 g2 hne i i' hi aa hi' aa
   map:=fun ao L V O es F S=>by
    by_cases e:ao=r
    .subst e;rw[J]at S;simp at S
    .rw[Z ao e]at S;obtain⟨ms,clock,h1,h2⟩:=h.map ao L V O es F S;refine⟨ms,clock,?_,h2⟩;have hb:L≠b:=fun eb=>by
      subst eb;unfold World.cell? at hu;rw[h1]at hu;simp at hu
     rw[Below.heap_setCell _ _ _ _ hb];exact h1
   au:=fun ao L V O es aC b2 o2 x2 F S hr2 hs hne=>by
    by_cases e:ao=r
    .subst e;rw[J]at S;simp at S
    .rw[Z ao e]at S;refine h.au ao L V O es aC b2 o2 x2 F S hr2 ?_ hne;by_cases e2:aC=r
     .subst e2;rw[hc];rfl
     .rw[Z aC e2]at hs;exact hs
   bR:=fun b' m v' hf=>by rw[C _ _ (hkeep _ _ _ hf)];exact h.bR _ _ _ hf
   val:=h.val
   ca:=h.ca}
 .exact Below.heap_setCell _ _ _ _ (fun e=>hn r b o x hr e.symm)
def z9(P:Program)(h:R B H w G){x:Nat}{imm:Nat}{tip:Bool}(hr:G.β r=some (b,o,x))(W:H.get r=some (.cells cs imm tip))
  (V:imm<=j) (Z:j<cn x cs tip)  (Y:v.oneCell'=true) :
 (store ⟨b,o+j,none⟩ v).run P w=.ok () (w.setCell ⟨b,o+j,none⟩ v):=by
 obtain⟨⟨u,m⟩,A,_⟩:=h.aV r b o x cs imm tip hr W j V Z;rw[run_store P w _ v _ Y,m];simp[A]
def Aa(cs:qh)(off:Nat)(c:AV)(O:qh)(h:off<=cs.length):splice cs off (c::O)=splice (splice cs off [c]) (off+1) O:=by
 unfold splice;have m:(List.take off cs++[c]++List.drop (off+[c].length) cs).take (off+1)=List.take off cs++[c]:=by
  rw[ve dj,iI dj]
 have o:(List.take off cs++[c]++List.drop (off+[c].length) cs).drop (off+1+O.length)=List.drop (off+(O.length+1)) cs:=by
  rw[List.drop_append,kP dj];simp only[lZ,kQ,de,l0,List.drop_drop,j0]
  congr 1
  omega
 rw[m,o];simp
def Ac(cs:qh)(off:Nat):splice cs off []=cs:=by simp[splice]
def Ad(cs:qh)(off:Nat)(O:qh)(h:off+O.length<=cs.length):(splice cs off O).length=cs.length:=by simp[splice];omega
def Ae(cs:qh)(off:Nat)(O:qh)(h:off<=cs.length):(splice cs off O).length=max cs.length (off+O.length):=by simp[splice];omega
def vl(cs O:qh):splice cs cs.length O=cs++O:=by simp[splice]
def splice_one(c:AV)(V:j<=cs.length){d:AV}(h:(splice cs j [c])[i]?=some d):(i=j/\d=c)\/(i≠j/\cs[i]?=some d):=by
 unfold splice at h;by_cases I:i<j
 .rw[jm,h8 dj,jZ,aD I]at h;exact .inr ⟨aa,h⟩
 .by_cases e:i=j
  .subst e;rw[jm,jk dj]at h;have S:i-(List.take i cs).length=0:=dj;rw[S]at h;simp at h;exact .inl ⟨rfl,h.symm⟩
  .rw[jk dj]at h;rw[j3]at h;refine .inr ⟨e,?_⟩;rw[<-h]
   congr 1
   simp;omega
def gr(b o i:Nat):(⟨b,o,none⟩:Addr).add i=⟨b,o+i,none⟩:=by
 unfold Addr.add;split
 .rename_i e;subst e;rfl
 .rfl
def Step.congr(h:Step B V G w H w' O)(S:H'.next=H.next)(L:∀r,(O.β r).isSome->H'.get r=H.get r):Step B V G w H' w' O:=
 ⟨h.r.congr S L,h.ext,h.fr,h.new,h.cj,by rw[S];exact h.mono,h.cA⟩
theorem sO(P:Program){x:Nat}{imm:Nat}{tip:Bool}(hr:G.β r=some (b,o,x))(off:Nat):∀(O:qh) (vs:ql) (cs:qh) (i:Nat) (H:Hp) (w:World),R B H w G ->
 H.get r=some (.cells cs imm tip)->bb G O vs->(∀v∈vs,v.oneCell'=true)->imm<=off+i->off+i<=cs.length->off+i+O.length<=cn x cs tip->(tip=false->off+i+O.length<=cs.length) ->
 ∃I,(storeCells ⟨b,o+off,none⟩ vs i).run P w=.ok () I/\Step B H.next G w (H.set r (.cells (splice cs (off+i) O) imm tip)) I G:=by
 intro O;induction O with
 |nil=>
  intro vs cs i H w A hc S Y m Z M _;have L:vs=[]:=by have:=S.1;simpa using this.symm
  subst L;refine⟨w,rfl,(eh A).congr rfl fun k _=>?_⟩;rw[a0,Ac];split
  .rename_i e;subst e;rw[hc]
  .rfl
 |cons c O ih=>
  intro vs cs i H w A hc S Y m Z M F;cases vs with
  |nil=>have:=S.1;simp at this
  |cons v vs=>
   obtain⟨hv1,L⟩:=S.aE;simp only[de]at M F;have C:(splice cs (off+i) [c]).length=max cs.length (off+i+1):=Ae _ _ _ Z;have hext:=A.ext r b o x cs imm tip hr hc;have V:=z8 A hr hc (j:=off+i) (cs':=splice cs (off+i) [c]) (v:=v) m aa
    (fun k d hk=>by
      rcases splice_one c Z hk with⟨e1,e2⟩|h2
      .subst e2;exact .inl ⟨e1,hv1⟩
      .exact .inr h2)
    (by rw[C];cases tip with
        |true=>simp only[cn]at *;omega
        |false=>have:=F rfl;simp only[cn]at *;omega)
    (fun J=>by have:=F J;rw[C];omega)
   have U:=z9 P A hr hc (j:=off+i) m aa (v:=v) (Y v aK);have hg1:(H.set r (.cells (splice cs (off+i) [c]) imm tip)).get r=some (.cells (splice cs (off+i) [c]) imm tip):=eN;have W:cn x (splice cs (off+i) [c]) tip=cn x cs tip:=by
    cases tip with
    |true=>rfl
    |false=>have:=F rfl;simp only[cn];omega
   obtain⟨I,hw',hs'⟩:=ih vs (splice cs (off+i) [c]) (i+1) _ _ V.r hg1 L (fun u hu=>Y u (by simp[hu])) aa (by rw[C];omega) kN (fun J=>by have:=F J;rw[C];omega);refine⟨I,?_,(V.trans hs').congr rfl fun k _=>?_⟩
   .simp only[storeCells,cw];rw[gr,eP,U];exact hw'
   .rw[a0,a0,a0,Aa _ _ _ _ Z];split
    .rfl
    .rfl
def vm(h:R B H w G){x:Nat}{imm:Nat}(hr:G.β r=some (b,o,x))(hc:H.get r=some (.cells cs imm true)){off:Nat}(hoff:off<=cs.length):
 Step B H.next G w ((H.aG r).alloc (.cells (cs.drop off) (imm-off) true)) w (G.add H.next (b,o+off,x-off)):=by
 have hno:∀q,G.β H.next=some q->False:=fun q hq=>by have:=h.bW _ _ hq;omega
 have hext:Ext G (G.add H.next (b,o+off,x-off)):=sN hno;have hrn:r≠H.next:=fun e=>by subst e;exact hno _ hr
 have F:∀k p,(G.add H.next (b,o+off,x-off)).β k=some p->(k=H.next/\p=(b,o+off,x-off))\/(k≠H.next/\G.β k=some p):=fun k p Z=>by
  simp only[Gh.add]at Z;split at Z
  .rename_i e;exact .inl ⟨e,by simpa using Z.symm⟩
  .rename_i e;exact .inr ⟨e,Z⟩
 have A:∀k q,k≠H.next->((H.aG r).alloc (.cells (cs.drop off) (imm-off) true)).get k=some q->k≠r/\H.get k=some q:=fun k q Z hq=>by
  rw[aP,kT,aw Z,fX]at hq;split at hq
  .simp at hq
  .rename_i e;exact⟨e,hq⟩
 have V:((H.aG r).alloc (.cells (cs.drop off) (imm-off) true)).get H.next=some (.cells (cs.drop off) (imm-off) true):=by rw[aP,kT,aD rfl]
 have hlen:=h.ext r b o x cs imm true hr hc;simp only[cn]at hlen;refine⟨?_,hext,nJ _ _,fun k b' o' x' Z=>?_,fun k p Z=>(F k p Z).elim (fun e=>.inr (by rw[e.1];exact aA _)) (fun e=>.inl e.2),aK,fun _ _ _ h=>.inl h⟩
 .exact{
   a8:=h.a8
   bW:=fun k p Z=>by
    rcases F k p Z with⟨rfl,_⟩|⟨_,L⟩
    .simp
    .have:=h.bW k p L;simp;omega
   lt:=fun k b' o' x' Z=>by
    rcases F k _ Z with⟨rfl,hp⟩|⟨_,L⟩
    .simp only[cY]at hp;obtain⟨rfl,rfl,rfl⟩:=hp;exact h.lt r _ _ _ hr
    .exact h.lt k b' o' x' L
   cells:=fun k b' o' x' Y C W Z I=>by
    rcases F k _ Z with⟨rfl,hp⟩|⟨O,L⟩
    .simp only[cY]at hp;obtain⟨rfl,rfl,rfl⟩:=hp;rw[V]at I;simp only[ak,HB.cells.injEq]at I;obtain⟨rfl,rfl,rfl⟩:=I;intro j c hj;rw[j3]at hj;obtain⟨v,h1,h2⟩:=h.cells r _ _ _ _ _ _ hr hc (off+j) c hj;exact⟨v,by rw[eP];exact h1,h2.mono hext⟩
    .obtain⟨_,J⟩:=A k _ O I;exact(h.cells k b' o' x' Y C W L J).mono hext
   bO:=fun k b' o' x' Y C W Z I j hj hjl=>by
    rcases F k _ Z with⟨rfl,hp⟩|⟨O,L⟩
    .simp only[cY]at hp;obtain⟨rfl,rfl,rfl⟩:=hp;rw[V]at I;simp only[ak,HB.cells.injEq]at I;obtain⟨rfl,rfl,rfl⟩:=I;rw[gn]at hjl;rw[eP];exact h.bO r _ _ _ _ _ _ hr hc (off+j) aa aa
    .obtain⟨_,J⟩:=A k _ O I;exact h.bO k b' o' x' Y C W L J j hj hjl
   ext:=fun k b' o' x' Y C W Z I=>by
    rcases F k _ Z with⟨rfl,hp⟩|⟨O,L⟩
    .simp only[cY]at hp;obtain⟨rfl,rfl,rfl⟩:=hp;rw[V]at I;simp only[ak,HB.cells.injEq]at I;obtain⟨rfl,rfl,rfl⟩:=I;simp only[cn,gn];omega
    .obtain⟨_,J⟩:=A k _ O I;exact h.ext k b' o' x' Y C W L J
   a2:=fun k b' o' x' Y C W Z I=>by
    rcases F k _ Z with⟨rfl,hp⟩|⟨O,L⟩
    .simp only[cY]at hp;obtain⟨rfl,rfl,rfl⟩:=hp;rw[V]at I;simp only[ak,HB.cells.injEq]at I;obtain⟨rfl,rfl,rfl⟩:=I;simp only[gn];omega
    .obtain⟨_,J⟩:=A k _ O I;exact h.a2 k b' o' x' Y C W L J
   aV:=fun k b' o' x' Y C W Z I j hj hjl=>by
    rcases F k _ Z with⟨rfl,hp⟩|⟨O,L⟩
    .simp only[cY]at hp;obtain⟨rfl,rfl,rfl⟩:=hp;rw[V]at I;simp only[ak,HB.cells.injEq]at I;obtain⟨rfl,rfl,rfl⟩:=I;simp only[cn]at hjl;rw[eP];exact h.aV r _ _ _ _ _ _ hr hc (off+j) aa nD
    .obtain⟨_,J⟩:=A k _ O I;exact h.aV k b' o' x' Y C W L J j hj hjl
   apart:=fun bD b1 o1 x1 cs1 imm1 tip1 a4 b2 o2 x2 cs2 imm2 tip2 hk1 S hk2 hc2 O j1 j2 hj1 hl1 hj2 hl2 he=>by
    rcases F bD _ hk1 with⟨rfl,hp⟩|⟨hn1,U⟩
    .simp only[cY]at hp;obtain⟨rfl,rfl,rfl⟩:=hp;rw[V]at S;simp only[ak,HB.cells.injEq]at S;obtain⟨rfl,rfl,rfl⟩:=S;simp only[cn]at hl1;rcases F a4 _ hk2 with⟨rfl,hp⟩|⟨hn2,m⟩
     .exact(O rfl).elim
     .obtain⟨hr2,hc2'⟩:=A a4 _ hn2 hc2;rw[eP];exact h.apart r _ _ _ _ _ _ a4 b2 o2 x2 cs2 imm2 tip2 hr hc m hc2' (Ne.symm hr2) (off+j1) j2 aa nD hj2 hl2 he
    .obtain⟨hr1,M⟩:=A bD _ hn1 S;rcases F a4 _ hk2 with⟨rfl,hp⟩|⟨hn2,m⟩
     .simp only[cY]at hp;obtain⟨rfl,rfl,rfl⟩:=hp;rw[V]at hc2;simp only[ak,HB.cells.injEq]at hc2;obtain⟨rfl,rfl,rfl⟩:=hc2;simp only[cn]at hl2;rw[eP];exact h.apart bD b1 o1 x1 cs1 imm1 tip1 r _ _ _ _ _ _ U M hr hc hr1 j1 (off+j2) hj1 hl1 aa nD he
     .obtain⟨hr2,hc2'⟩:=A a4 _ hn2 hc2;exact h.apart bD b1 o1 x1 cs1 imm1 tip1 a4 b2 o2 x2 cs2 imm2 tip2 U M m hc2' O j1 j2 hj1 hl1 hj2 hl2 he
   map:=fun k b' o' x' es Z I=>by
    rcases F k _ Z with⟨rfl,hp⟩|⟨O,L⟩
    .rw[V]at I;simp at I
    .obtain⟨_,J⟩:=A k _ O I;obtain⟨ms,clock,h1,h2⟩:=h.map k b' o' x' es L J;exact⟨ms,clock,h1,h2.mono hext⟩
   au:=fun bD b1 o1 x1 es a4 b2 o2 x2 hk1 S hk2 hs O=>by
    rcases F bD _ hk1 with⟨rfl,hp⟩|⟨hn1,U⟩
    .rw[V]at S;simp at S
    .obtain⟨hr1,M⟩:=A bD _ hn1 S;rcases F a4 _ hk2 with⟨rfl,hp⟩|⟨hn2,m⟩
     .simp only[cY]at hp;obtain⟨rfl,rfl,rfl⟩:=hp;exact h.au bD b1 o1 x1 es r _ _ _ U M hr (by rw[hc];rfl) hr1
     .cases hh:((H.aG r).alloc (.cells (cs.drop off) (imm-off) true)).get a4 with
      |none=>simp[hh]at hs
      |some q=>
       obtain⟨_,hq⟩:=A a4 q hn2 hh;exact h.au bD b1 o1 x1 es a4 b2 o2 x2 U M m (by rw[hq];rfl) O
   bR:=h.bR
   val:=h.val
   ca:=h.ca}
 .rcases F k _ Z with⟨rfl,hp⟩|⟨_,L⟩
  .simp only[cY]at hp;obtain⟨rfl,rfl,rfl⟩:=hp;exact .inr (.inr ⟨r,o,x,hr⟩)
  .exact .inl L
def Gh.aB(G:Gh)(w:World)(b o n:Nat):Gh:={β:=G.β,F:=fun b' L=>match G.F b' L with
 |some v=>some v
 |none=>if b'=b/\o<=L/\L<o+n then w.cell? ⟨b',L,none⟩else none,ρ:=G.ρ}
def Af(G:Gh)(w:World)(b o n:Nat):Ext G (G.aB w b o n):=⟨fun _ _ h=>h,fun b' L v h=>by simp[Gh.aB,h],rfl⟩
def nM(h:R B H w G){x:Nat}{imm:Nat}{tip:Bool}(hr:G.β r=some (b,o,x))(hc:H.get r=some (.cells cs imm tip)){n:Nat}(himm:imm<=n)(hn:n<=cs.length)(W:Bool)(ht:W=true->tip=true):
 Step B H.next G w (H.set r (.cells cs n W)) w (G.aB w b o n):=by
 have M:Ext G (G.aB w b o n):=Af _ _ _ _ _;have A:∀k,k≠r->(H.set r (.cells cs n W)).get k=H.get k:=fun k U=>by rw[a0,aw U]
 have J:(H.set r (.cells cs n W)).get r=some (.cells cs n W):=eN;have hex:=h.ext r b o x cs imm tip hr hc;have hreach:∀j,n<=j->j<cn x cs W->j<cn x cs tip:=fun j hj V=>by
  cases W with
  |true=>rw[ht rfl];exact V
  |false=>simp only[cn]at V;omega
 have hF:∀b' Z v,(G.aB w b o n).F b' Z=some v->w.cell? ⟨b',Z,none⟩=some v:=fun b' Z v hf=>by
  simp only[Gh.aB]at hf;split at hf
  .rename_i u hu;simp only[ak]at hf;subst hf;exact h.bR _ _ _ hu
  .split at hf
   .exact hf
   .simp at hf
 have hFin:∀j,j<n->∃v,(G.aB w b o n).F b (o+j)=some v:=fun j hj=>by
  obtain⟨v,h1,_⟩:=h.cells r b o x cs imm tip hr hc j _ (bq aa);simp only[Gh.aB];split
  .rename_i u _;exact⟨u,rfl⟩
  .rw[aD ⟨by trivial,aa,aa⟩];exact⟨v,h1⟩
 have hFout:∀b' Z,G.F b' Z=none->(b'=b->Z<o\/o+n<=Z)->(G.aB w b o n).F b' Z=none:=fun b' Z hf hne=>by
  simp only[Gh.aB,hf];rw[aw];rintro⟨e1,e2,e3⟩;have:=hne e1;omega
 refine⟨?_,M,nJ _ _,kR _ _,fun _ _ h=>.inl h,aA _,fun b' Z v' hv=>?_⟩;rotate_left
 .simp only[Gh.aB]at hv;split at hv
  .rename_i v'' hF';exact .inl (by rw[hF'];exact hv)
  .split at hv
   .rename_i hc';exact .inr (by rw[hc'.1];exact(h.lt r b o x hr).1)
   .simp at hv
 exact{
  a8:=h.a8
  bW:=h.bW
  lt:=h.lt
  cells:=fun k b' Z O S C Y U I=>by
   by_cases e:k=r
   .subst e;have L:G.β k=some (b',Z,O):=U;rw[hr]at L;simp only[bm]at L;obtain⟨rfl,rfl,rfl⟩:=L;rw[J]at I;simp only[ak,HB.cells.injEq]at I;obtain⟨rfl,rfl,rfl⟩:=I;exact(h.cells k _ _ _ _ _ _ hr hc).mono M
   .rw[A k e]at I;exact(h.cells k b' Z O S C Y U I).mono M
  bO:=fun k b' Z O S C Y U I j hj V=>by
   by_cases e:k=r
   .subst e;have L:G.β k=some (b',Z,O):=U;rw[hr]at L;simp only[bm]at L;obtain⟨rfl,rfl,rfl⟩:=L;rw[J]at I;simp only[ak,HB.cells.injEq]at I;obtain⟨rfl,rfl,rfl⟩:=I;exact hFin j hj
   .rw[A k e]at I;obtain⟨v,hv⟩:=h.bO k b' Z O S C Y U I j hj V;exact⟨v,M.F _ _ _ hv⟩
  ext:=fun k b' Z O S C Y U I=>by
   by_cases e:k=r
   .subst e;have L:G.β k=some (b',Z,O):=U;rw[hr]at L;simp only[bm]at L;obtain⟨rfl,rfl,rfl⟩:=L;rw[J]at I;simp only[ak,HB.cells.injEq]at I;obtain⟨rfl,rfl,rfl⟩:=I;cases W with
    |true=>rw[ht rfl]at hex;exact hex
    |false=>exact aA _
   .rw[A k e]at I;exact h.ext k b' Z O S C Y U I
  a2:=fun k b' Z O S C Y U I=>by
   by_cases e:k=r
   .subst e;have L:G.β k=some (b',Z,O):=U;rw[hr]at L;simp only[bm]at L;obtain⟨rfl,rfl,rfl⟩:=L;rw[J]at I;simp only[ak,HB.cells.injEq]at I;obtain⟨rfl,rfl,rfl⟩:=I;exact h.a2 _ _ _ _ _ _ _ hr hc
   .rw[A k e]at I;exact h.a2 k b' Z O S C Y U I
  aV:=fun k b' Z O S C Y U I j hj V=>by
   by_cases e:k=r
   .subst e;have L:G.β k=some (b',Z,O):=U;rw[hr]at L;simp only[bm]at L;obtain⟨rfl,rfl,rfl⟩:=L;rw[J]at I;simp only[ak,HB.cells.injEq]at I;obtain⟨rfl,rfl,rfl⟩:=I;have h1:=hreach j hj V;obtain⟨g1,g2,g3⟩:=h.aV k _ _ _ _ _ _ hr hc j aa h1;exact⟨g1,g2,hFout _ _ g3 (fun _=>aa)⟩
   .rw[A k e]at I;obtain⟨g1,g2,g3⟩:=h.aV k b' Z O S C Y U I j hj V;refine⟨g1,g2,hFout _ _ g3 (fun eb=>?_)⟩;by_cases hin:o<=Z+j/\Z+j<o+n
    .exfalso;have hj0:Z+j-o<cs.length:=aa;have hj1:Z+j-o<cn x cs tip:=aa;by_cases hi:imm<=Z+j-o
     .exact h.apart k b' Z O S C Y r b o x cs imm tip U I hr hc e j (Z+j-o) hj V hi hj1 eb aa
     .obtain⟨v,hv⟩:=h.bO r b o x cs imm tip hr hc (Z+j-o) aa hj0;rw[show o+(Z+j-o)=Z+j by omega,<-eb,g3]at hv;simp at hv
    .omega
  apart:=fun bD b1 o1 x1 cs1 imm1 Y a4 b2 o2 x2 cs2 imm2 tip2 hk1 hc1 hk2 hc2 hne j1 j2 hj1 hl1 hj2 hl2 he=>by
   have key:∀k bk ok xk csk F m j,G.β k=some (bk,ok,xk)->(H.set r (.cells cs n W)).get k=some (.cells csk F m)->F<=j->j<cn xk csk m ->
    ∃cs0 imm0 tip0,H.get k=some (.cells cs0 imm0 tip0)/\imm0<=j/\j<cn xk cs0 tip0:=fun k bk ok xk csk F m j U I hj V=>by
    by_cases e:k=r
    .subst e;have L:G.β k=some (bk,ok,xk):=U;rw[hr]at L;simp only[bm]at L;obtain⟨rfl,rfl,rfl⟩:=L;rw[J]at I;simp only[ak,HB.cells.injEq]at I;obtain⟨rfl,rfl,rfl⟩:=I;exact⟨cs,imm,tip,hc,aa,hreach j hj V⟩
    .rw[A k e]at I;exact⟨csk,F,m,I,hj,V⟩
   obtain⟨c1,i1,t1,g1,cE,db⟩:=key bD b1 o1 x1 cs1 imm1 Y j1 hk1 hc1 hj1 hl1;obtain⟨c2,i2,t2,g2,cK,cU⟩:=key a4 b2 o2 x2 cs2 imm2 tip2 j2 hk2 hc2 hj2 hl2;exact h.apart bD b1 o1 x1 c1 i1 t1 a4 b2 o2 x2 c2 i2 t2 hk1 g1 hk2 g2 hne j1 j2 cE db cK cU he
  map:=fun k b' Z O es U I=>by
   by_cases e:k=r
   .subst e;rw[J]at I;simp at I
   .rw[A k e]at I;obtain⟨ms,clock,h1,h2⟩:=h.map k b' Z O es U I;exact⟨ms,clock,h1,h2.mono M⟩
  au:=fun bD b1 o1 x1 es a4 b2 o2 x2 hk1 hc1 hk2 hs hne=>by
   by_cases e:bD=r
   .subst e;rw[J]at hc1;simp at hc1
   .rw[A bD e]at hc1;refine h.au bD b1 o1 x1 es a4 b2 o2 x2 hk1 hc1 hk2 ?_ hne;by_cases e2:a4=r
    .subst e2;rw[hc];rfl
    .rw[A a4 e2]at hs;exact hs
  bR:=hF
  val:=h.val
  ca:=h.ca}
def Ag(h:R B H w G){x:Nat}(hr:G.β r=some (b,o,x))(hx:cs.length<=x)(hc:dD G w b o cs)(hF:∀j,j<cs.length->∃v,G.F b (o+j)=some v)
 (hmap:∀ao b1 o1 x1 es,G.β ao=some (b1,o1,x1)->H.get ao=some (.map es)->b1≠b) :
 Step B H.next G w (H.set r (.cells cs cs.length false)) w G:=by
 have A:∀k,k≠r->(H.set r (.cells cs cs.length false)).get k=H.get k:=fun k Z=>by rw[a0,aw Z]
 have J:(H.set r (.cells cs cs.length false)).get r=some (.cells cs cs.length false):=eN;have F:∀k b' L V,k=r->G.β k=some (b',L,V)->b'=b/\L=o/\V=x:=fun k b' L V e Z=>by
  subst e;rw[hr]at Z;simp only[bm]at Z;exact⟨Z.1.symm,Z.2.1.symm,Z.2.2.symm⟩
 have U:∀Y C W,(H.set r (.cells cs cs.length false)).get r=some (.cells Y C W)->Y=cs/\C=cs.length/\W=false:=fun Y C W Z=>by
  rw[J]at Z;simp only[ak,HB.cells.injEq]at Z;exact⟨Z.1.symm,Z.2.1.symm,Z.2.2.symm⟩
 refine⟨?_,l4 _,nJ _ _,kR _ _,fun _ _ h=>.inl h,aA _,fun _ _ _ h=>.inl h⟩;exact{
  a8:=h.a8
  bW:=h.bW
  lt:=h.lt
  cells:=fun k b' L V Y C W Z I=>by
   by_cases e:k=r
   .obtain⟨rfl,rfl,rfl⟩:=F k _ _ _ e Z;subst e;obtain⟨rfl,rfl,rfl⟩:=U _ _ _ I;exact hc
   .rw[A k e]at I;exact h.cells k b' L V Y C W Z I
  bO:=fun k b' L V Y C W Z I j hj O=>by
   by_cases e:k=r
   .obtain⟨rfl,rfl,rfl⟩:=F k _ _ _ e Z;subst e;obtain⟨rfl,rfl,rfl⟩:=U _ _ _ I;exact hF j O
   .rw[A k e]at I;exact h.bO k b' L V Y C W Z I j hj O
  ext:=fun k b' L V Y C W Z I=>by
   by_cases e:k=r
   .subst e;obtain⟨rfl,rfl,rfl⟩:=U _ _ _ I;exact aA _
   .rw[A k e]at I;exact h.ext k b' L V Y C W Z I
  a2:=fun k b' L V Y C W Z I=>by
   by_cases e:k=r
   .subst e;obtain⟨rfl,rfl,rfl⟩:=U _ _ _ I;obtain⟨_,_,rfl⟩:=F _ _ _ _ rfl Z;exact hx
   .rw[A k e]at I;exact h.a2 k b' L V Y C W Z I
  aV:=fun k b' L V Y C W Z I j hj O=>by
   by_cases e:k=r
   .subst e;obtain⟨rfl,rfl,rfl⟩:=U _ _ _ I;simp only[cn]at O;omega
   .rw[A k e]at I;exact h.aV k b' L V Y C W Z I j hj O
  apart:=fun bD b1 o1 x1 cs1 imm1 tip1 a4 b2 o2 x2 cs2 imm2 tip2 m S M hc2 hne j1 j2 hj1 hl1 hj2 hl2 he=>by
   by_cases e1:bD=r
   .subst e1;obtain⟨rfl,rfl,rfl⟩:=U _ _ _ S;simp only[cn]at hl1;omega
   .by_cases e2:a4=r
    .subst e2;obtain⟨rfl,rfl,rfl⟩:=U _ _ _ hc2;simp only[cn]at hl2;omega
    .rw[A bD e1]at S;rw[A a4 e2]at hc2;exact h.apart bD b1 o1 x1 cs1 imm1 tip1 a4 b2 o2 x2 cs2 imm2 tip2 m S M hc2 hne j1 j2 hj1 hl1 hj2 hl2 he
  map:=fun k b' L V es Z I=>by
   by_cases e:k=r
   .subst e;rw[J]at I;simp at I
   .rw[A k e]at I;exact h.map k b' L V es Z I
  au:=fun bD b1 o1 x1 es a4 b2 o2 x2 m S M hs hne=>by
   by_cases e:bD=r
   .subst e;rw[J]at S;simp at S
   .rw[A bD e]at S;by_cases e2:a4=r
    .obtain⟨rfl,rfl,rfl⟩:=F a4 _ _ _ e2 M;exact hmap bD b1 o1 x1 es m S
    .rw[A a4 e2]at hs;exact h.au bD b1 o1 x1 es a4 b2 o2 x2 m S M hs hne
  bR:=h.bR
  val:=h.val
  ca:=h.ca}
def kU(P:Program)(B:Bs)(H:Hp)(G:Gh)(w:World)(s:Sem Next)(c:AV)(H':Hp):Prop:=
 ∃n I O v,s.run P w=.ok n I/\(n=.value v\/(n=.skip/\v=undef))/\VR O c v/\Step B H.next G w H' I O
theorem vn(h:ng v=some c):VR G c v:=by
 unfold ng at h;split at h<;>simp only[ak,reduceCtorEq]at h<;>subst h<;>constructor;rfl
theorem vo{G:Gh}:∀{vs:ql}{cs:qh},vs.mapM ng=some cs->bb G cs vs
 |[],cs,h=>by simp at h;subst h;exact iK G
 |v::vs,cs,h=>by
  rw[List.mapM_cons]at h;simp only[Option.bind_eq_bind,aX,Option.pure_def,ak]at h;obtain⟨c,hc,Z,A,rfl⟩:=h;exact gq (vn hc) (vo A)
def l6(h:lU v=some c):VR G c v:=by
 unfold lU at h;split at h
 .rename_i cs;simp only[dC]at h;obtain⟨l,O,rfl⟩:=h;have:=vo (G:=G) O;exact .agg (vs:=cs.toList) this.1 this.2
 .exact vn h
theorem dD.list{G:Gh}{w:World}{b:Nat}:∀{cs:qh}{o:Nat},dD G w b o cs->∃vs,bb G cs vs/\∀(j:Nat) v,vs[j]?=some v->w.cell? ⟨b,o+j,none⟩=some v
 |[],o,_=>⟨[],iK G,aK⟩
 |c::cs,o,h=>by
  obtain⟨v,m,Z⟩:=h 0 c rfl;obtain⟨vs,bD,a4⟩:=dD.list (cs:=cs) (o:=o+1) (fun j d V=>by
   obtain⟨u,Y,U⟩:=h (j+1) d (by simpa using V);exact⟨u,by rw[show o+1+j=o+(j+1) by omega];exact Y,U⟩)
  refine⟨v::vs,gq Z bD,fun j u V=>?_⟩;cases j with
  |zero=>simp at V;subst V;exact m
  |succ j=>rw[show o+(j+1)=o+1+j by omega];exact a4 j u (by simpa using V)
def dD.drop(h:dD G w b o cs)(n:Nat):dD G w b (o+n) (cs.drop n):=fun j c V=>by
 rw[j3]at V;rw[eP];exact h (n+j) c V
def dD.take(h:dD G w b o cs)(n:Nat):dD G w b o (cs.take n):=fun j c V=>by
 rw[jZ]at V;split at V
 .exact h j c V
 .simp at V
section
variable {P:Program} {w:World} {t:TypeId}
def bU(h:P.underlying t=some d):(underlying t).run P w=.ok d w:=by simp[underlying,h]
def j4{i:TypeInfo}(h:P.info? t=some i):(typeInfo t).run P w=.ok i w:=by simp[typeInfo,h]
def vp{s:Nat}(h:aZ P t=some s):∃i,P.info? t=some i/\i.size=s:=by simpa [aZ,dC]using h
def eD{s:Nat}(h:aZ P t=some s):(sizeOf t).run P w=.ok s w:=by
 obtain⟨i,m,o⟩:=vp h;simp[sizeOf,j4 m,o]
def vq(h:fN P t=some c):∃i v,P.info? t=some i/\i.zero=some v/\lU v=some c:=by
 unfold fN at h;split at h
 .rename_i x d s Z I hp al fa V J ms F;exact⟨_,V,F,rfl,h⟩
 .simp at h
def Ah(h:fN P t=some c):∃v,(∀w,(zeroValue t).run P w=.ok v w)/\∀G,VR G c v:=by
 obtain⟨i,v,m,o,F⟩:=vq h;exact⟨v,fun w=>by simp[zeroValue,j4 m,o],fun G=>l6 F⟩
def sP(h:bM P t=some z):∃i v c,P.info? t=some i/\i.zero=some v/\lU v=some c/\c.cells=z:=by
 unfold bM at h;split at h
 .rename_i c hc;simp only[ak]at h;obtain⟨i,v,m,o,F⟩:=vq hc;exact⟨i,v,c,m,o,F,h⟩
 .simp at h
def l7(h:bM P t=some z):∃v,(∀w,(zeroValue t).run P w=.ok v w)/\∀G,bb G z v.cells.toList:=by
 obtain⟨i,v,c,m,o,F,rfl⟩:=sP h;exact⟨v,fun w=>by simp[zeroValue,j4 m,o],fun G=>(l6 F).cells⟩
def sQ:TypeDesc->Bool
 | .struct _|.array _ _=>true
 |_=>false
theorem pJ(h:P.underlying t=some d):(isAgg t).run P w=.ok (sQ d) w:=by
 simp only[isAgg,cw,bU h,cA];cases d<;>rfl
def vr{off:Nat}(h:bR P t cs off=some c):
 (∃d s,P.underlying t=some d/\sQ d=true/\aZ P t=some s/\((cs.drop off).take s).length=s/\c=.agg ((cs.drop off).take s)) \/
 (∃d,P.underlying t=some d/\sQ d=false/\cs[off]?=some c):=by
 unfold bR at h;split at h
 .rename_i f hd;split at h
  .rename_i s J;simp only[]at h;split at h
   .rename_i O;simp only[ak]at h;exact .inl ⟨_,s,hd,rfl,J,O,h.symm⟩
   .simp at h
  .simp at h
 .rename_i n e hd;split at h
  .rename_i s J;simp only[]at h;split at h
   .rename_i O;simp only[ak]at h;exact .inl ⟨_,s,hd,rfl,J,O,h.symm⟩
   .simp at h
  .simp at h
 .rename_i d m o hd;refine .inr ⟨d,hd,?_,h⟩;cases d<;>first|rfl|exact(m _ rfl).elim|exact(o _ _ rfl).elim
 .simp at h
def vt{off:Nat}(W:dD G w b o cs)(h:bR P t cs off=some c):
 ∃v,(loadVar t ⟨b,o+off,none⟩).run P w=.ok v w/\VR G c v:=by
 rcases vr h with⟨d,s,hd,S,J,O,rfl⟩|⟨d,hd,S,hc⟩
 .obtain⟨vs,m,Z⟩:=((W.drop off).take s).list;refine⟨.agg vs.toArray,?_,.agg m.1 m.2⟩;simp only[loadVar,cw,pJ hd,S,cA,cy,eD J];have M:vs.length=s:=by rw[<-m.1];exact O
  rw[<-M,run_loadCells_list _ _ vs (fun j v V=>by rw[gr];exact Z j v V)];rfl
 .obtain⟨v,m,Z⟩:=W off c hc;refine⟨v,?_,Z⟩;simp[loadVar,pJ hd,S,m]
def pK{off:Nat}(M:bb G cs vs)(h:bR P t cs off=some c):
 ∃v,(part t vs.toArray off).run P w=.ok v w/\VR G c v:=by
 rcases vr h with⟨d,s,hd,S,J,O,rfl⟩|⟨d,hd,S,hc⟩
 .have m:=(M.drop off).take s;refine⟨.agg ((vs.drop off).take s).toArray,?_,.agg m.1 m.2⟩;simp only[part,cw,pJ hd,S,cA,cy,eD J,eA]
  congr 2
  apply fT;simp
 .have Z:off<cs.length:=(ci.1 hc).1;have F:off<vs.length:=by have:=M.1;omega
  refine⟨vs[off],?_,M.2 off c _ hc (bq F)⟩;simp[part,pJ hd,S,F]
end
def l8(h:R B H w G){s:Sem Next}(hr:s.run P w=.ok (.value v) w)(M:VR G c v):kU P B H G w s c H:=
 ⟨.value v,w,G,v,hr,.inl rfl,M,eh h⟩
def eQ{x:qk}(h:ret H x=some (c,H')):x=some c/\H'=H:=by
 cases x with
 |none=>simp[ret]at h
 |some v=>simp[ret]at h;exact⟨by rw[h.1],h.2.symm⟩
section
variable {P:Program} {B:Bs} {G:Gh} {H H':Hp} {w:World} (h:R B H w G) {c:AV}
include h
def vu(S:VR G a Y)(O:dq P H t a=some c):∃v,(Instr.loadAt t Y).run P w=.ok v w/\VR G c v:=by
 unfold dq at O;split at O
 .rename_i r F;cases S with
  |ptr hr=>
   split at O
   .rename_i cs C W hc;obtain⟨v,m,Z⟩:=vt (h.cells _ _ _ _ _ _ _ hr hc) O;exact⟨v,vb,Z⟩
   .simp at O
 .rename_i cs;cases S with
  |aN vs J M=>
   rename_i b o;have U:dD G w b o cs:=fun j d V=>⟨vs j,h.bR _ _ _ (J j (ci.1 V).1),M j d V⟩;obtain⟨v,m,Z⟩:=vt U O;exact⟨v,vb,Z⟩
 .simp at O
def Ai(ha:VR G a m)(hx:VR G x L)(J:jg P H t a x=some H'):
 ∃I,(Instr.storeAt t m L).run P w=.ok () I/\Step B H.next G w H' I G:=by
 unfold jg at J;split at J
 .rename_i r F;cases ha with
  |ptr hr=>
   rename_i b o ex;split at J
   .rename_i cs C U s hc S;split at J
    .rename_i V;obtain⟨h1,h2,h3,h4⟩:=V;simp only[ak]at J;subst J;have O:=hx.cells;have M:L.cells.toList.length=s:=by rw[<-O.1];exact h1
     have Y:∀v∈L.cells.toList,v.oneCell'=true:=fun v hv=>by
      obtain⟨i,hi,rfl⟩:=List.getElem_of_mem hv;have Z:i<x.cells.length:=by rw[O.1];exact hi
      rw[(O.2 i _ _ (bq Z) (bq hi)).a9];exact fU.1 h4 _ (jn Z)
     have hex:=h.ext r b o ex cs C U hr hc;obtain⟨I,hw,A⟩:=sO P hr F x.cells L.cells.toList cs 0 H w h hc O Y aa aa aa (fun _=>aa);refine⟨I,?_,jY⟩;have W:L.cells.size=s:=kM;simp only[Instr.storeAt,Instr.sureAddr,cw,eA,cA,storeVar,eD S,W];simpa using hw
    .simp at J
   .simp at J
 .simp at J
end
section
variable {P:Program} {B:Bs} {G:Gh} {H H':Hp} {w:World}
def Aj(S:VR G a m)(Z:jP P t a i=some c):∃v,(Instr.fieldAt t m i).run P w=.ok v w/\VR G c v:=by
 unfold jP at Z;split at Z
 .rename_i A hd;split at Z
  .rename_i f W;split at Z
   .rename_i s J;have Y:∀b o,m=.pointer (some ⟨b,o,none⟩)->(Instr.fieldAt t m i).run P w=.ok (.pointer (some ⟨b,o+f.offset,none⟩)) w:=fun b o e=>by
     subst e;simp only[Instr.fieldAt,cw,bU hd,cA];simp[W,Instr.sureAddr,fieldPlace,eD J,gr]
    split at Z
    .rename_i r F;simp only[ak]at Z;subst Z;cases S with
     |ptr hr=>exact⟨_,Y _ _ rfl,sG⟩
    .rename_i cs;simp only[ak]at Z;subst Z;cases S with
     |aN vs U M=>
      refine⟨_,Y _ _ rfl,.aN (fun j=>vs (f.offset+j)) (fun j V=>?_) (fun j d V=>?_)⟩
      .rw[gn]at V;rw[eP];exact U _ aa
      .rw[j3]at V;exact M _ _ V
    .simp at Z
   .simp at Z
  .simp at Z
 .simp at Z
def Ak(S:VR G a m)(Z:kD P t a i=some c):∃v,(Instr.field t m i).run P w=.ok v w/\VR G c v:=by
 unfold kD at Z;split at Z
 .rename_i A cs hd;cases S with
  |agg O M=>
   rename_i vs;split at Z
   .rename_i f V;obtain⟨v,Y,o⟩:=pK (P:=P) (w:=w) ⟨O,M⟩ Z;refine⟨v,?_,o⟩;simp only[Instr.field,cw,bU hd,cA];simp only[V,cw,asAgg,eA,cA];exact Y
   .simp at Z
 .simp at Z
def Al{i:AV}{O:Value}(W:VR G a m)(L:VR G i O)(Z:cV P t a i=some c):∃v,(Instr.indexAt t m O).run P w=.ok v w/\VR G c v:=by
 unfold cV at Z;split at Z
 .rename_i kk k;cases L;split at Z
  .rename_i e hd;split at Z
   .rename_i s J;split at Z
    .rename_i r F V z;split at Z
     .rename_i A;simp only[ak]at Z;subst Z;cases W with
      |sl hr hl hc=>
       rename_i b o x Y;refine⟨.pointer (some ⟨b,o+F+k*s,none⟩),?_,sG⟩;simp only[Instr.indexAt,asIntOf,cw,eA,cA,bU hd];have h1:(0:Int)<=Int.ofNat k:=Int.natCast_nonneg k;have h2:(Int.ofNat k)<(V:Int):=jY;simp[eD J,A,gr]
     .simp at Z
    .rename_i xs;split at Z
     .rename_i S C;split at Z
      .rename_i U;simp only[ak]at Z;subst Z;have A:k<xs.length:=(ci.1 C).1;cases W with
       |af vs hz hF hv hc=>
        rename_i b o Y z;have I:s=z:=by rw[<-U];exact hz k S C
        subst I;refine⟨.pointer (some ⟨b,o+k*s,none⟩),?_,.aN (vs k) (fun j M=>hF k j A aa) (fun j d M=>hv k j S d C M)⟩;simp only[Instr.indexAt,asIntOf,cw,eA,cA,bU hd];simp[eD J,A,gr]
       |b1 a Y=>simp at A
      .simp at Z
     .simp at Z
    .simp at Z
   .simp at Z
  .rename_i n e hd;split at Z
   .rename_i s J;split at Z
    .rename_i r F;split at Z
     .rename_i A;simp only[ak]at Z;subst Z;cases W with
      |ptr hr=>
       rename_i b o x;refine⟨.pointer (some ⟨b,o+F+k*s,none⟩),?_,sG⟩;simp only[Instr.indexAt,asIntOf,cw,eA,cA,bU hd];simp[eD J,A,gr,Instr.sureAddr]
     .simp at Z
    .simp at Z
   .simp at Z
  .simp at Z
 .simp at Z
def Am{i:AV}{S:Value}(Y:VR G a m)(I:VR G i S)(Z:iC P t a i=some c):∃v,(Instr.index t m S).run P w=.ok v w/\VR G c v:=by
 unfold iC at Z;split at Z
 .rename_i U k;cases I;split at Z
  .rename_i s hd;split at Z
   .rename_i b C;simp only[ak]at Z;subst Z;cases Y with
    |ad J l O=>
     subst O;refine⟨_,?_,.int .u8 b.toNat⟩;have A:k<J.size:=by
      have:=(ci.1 C).1;simpa using this
     have L:J[k]?=some b:=by
      rw[ByteArray.getElem?_lt' _ _ A];have:=(ci.1 C).2;simp at this;rw[<-this];rfl
     simp only[Instr.index,asIntOf,cw,eA,cA,bU hd];simp[L]
   .simp at Z
  .rename_i n e cs hd;split at Z
   .rename_i A;split at Z
    .rename_i s W;cases Y with
     |agg O M=>
      rename_i vs;obtain⟨v,V,o⟩:=pK (P:=P) (w:=w) ⟨O,M⟩ Z;refine⟨v,?_,o⟩;simp only[Instr.index,asIntOf,cw,eA,cA,bU hd];simp[eD W,A,V]
    .simp at Z
   .simp at Z
  .simp at Z
 .simp at Z
def An(S:VR G a m)(Z:extract a i=some c):∃v,(Instr.extract m i).run P w=.ok v w/\VR G c v:=by
 unfold extract at Z;split at Z
 .rename_i cs;cases S with
  |aC O M=>
   rename_i vs;have I:i<cs.length:=(ci.1 Z).1;have L:i<vs.length:=aa;exact⟨vs[i],by simp[Instr.extract,L],M i c _ Z (bq L)⟩
 .simp at Z
def sR{op:BinOp}{a b:Int}(W:op≠.shl/\op≠.shr)(h:dI op k a b=some c)(M:TypeId):∃v,(binOp op M (.int k a) (.int k b)).run P w=.ok v w/\VR G c v:=by
 cases op<;>simp only[dI,ak,reduceCtorEq]at h<;>first
  |(subst h;exact⟨_,by simp[binOp,Op.intArith,Op.intBits,Op.intCmp];rfl,jj⟩)
  |(subst h;exact⟨.int k (k.wrap (BitVec.ofInt k.bits a &&& ~~~ BitVec.ofInt k.bits b).toNat),by simp[binOp,Op.intBits],jj⟩)
  |(split at h
    ·simp at h
    .rename_i C;simp only[ak]at h;subst h;exact⟨_,by simp[binOp,Op.intDiv,C];rfl,jj⟩)
  |simp at W
theorem Ao{op:BinOp}{a b:ByteArray}(h:ni op a.data.toList b.data.toList=some c)(Z:TypeId):∃v,(binOp op Z (.string a) (.string b)).run P w=.ok v w/\VR G c v:=by
 have m:∀x y,kE x y=Op.bytesLess x y:=fun x=>by
  induction x with
  |nil=>intro y;cases y<;>rfl
  |cons p x ih=>intro y;cases y with
   |nil=>rfl
   |cons q y=>simp[kE,Op.bytesLess,ih]
 cases op<;>simp only[ni,ak,reduceCtorEq,m]at h<;>first
  |(subst h;exact⟨.bool (a.data.toList == b.data.toList),lY,jj⟩)
  |(subst h;exact⟨.bool !(a.data.toList == b.data.toList),lY,jj⟩)
  |(subst h;exact⟨.bool (Op.bytesLess a.data.toList b.data.toList),lY,jj⟩)
  |(subst h;exact⟨.bool !(Op.bytesLess a.data.toList b.data.toList),lY,jj⟩)
  |(subst h;exact⟨.bool (Op.bytesLess a.data.toList b.data.toList||a.data.toList == b.data.toList),lY,jj⟩)
  |(subst h;exact⟨.bool !(Op.bytesLess a.data.toList b.data.toList||a.data.toList == b.data.toList),lY,jj⟩)
  |(split at h
    ·rename_i C;simp only[ak]at h;subst h;refine⟨.string (a++b),?_,.ad _ _ ?_⟩
     .have M:¬((a.size+b.size:Nat):Int) > IntKind.i64.max:=by
       have Y:a.size+b.size<=70368744177664:=by simpa [cm]using C
       have o:IntKind.i64.max=9223372036854775807:=rfl;rw[o];omega
      simp only[binOp,Op.stringOp,aw M];rfl
     .simp
    .simp at h)
def vx(Z:Nat){r:Bool}(U:VR G x L)(S:VR G y Y)(h:pi P M x y=some r):(Op.equalIn (Z+1) M L Y).run P w=.ok r w:=by
 unfold pi at h;split at h;all_goals first
  |(rename_i hd
    split at h<;>simp only[ak,reduceCtorEq]at h<;>subst h<;>cases U<;>cases S<;>simp[Op.equalIn,bU hd]
    done)
  |(rename_i e hd
    split at h<;>simp only[ak,reduceCtorEq]at h<;>subst h<;>cases U<;>cases S<;>simp[Op.equalIn,bU hd]
    done)
  |(rename_i A W hd
    split at h<;>simp only[ak,reduceCtorEq]at h<;>subst h<;>cases U<;>cases S<;>simp[Op.equalIn,bU hd]
    done)
  |(rename_i A W V hd
    split at h<;>simp only[ak,reduceCtorEq]at h<;>subst h<;>cases U<;>cases S<;>simp[Op.equalIn,bU hd]
    done)
  |simp at h
def pL{op:BinOp}{x y:Operand}{d:AV}{cv O:Value}(Z:VR G c cv)(hd:VR G d O)(h:∀l m,c=.agg l->d=.agg m->False):(eqGuard op t x y cv O).run P w=.ok () w:=by
 cases op<;>first|rfl|(cases Z<;>cases hd<;>first|rfl|exact(h _ _ rfl rfl).elim)
def Ap(a b:ByteArray):(a == b)=(a.data.toList == b.data.toList):=by
 cases a with
 |mk x=>cases b with
  |mk y=>
   show(x == y)=_;rw[Bool.eq_iff_iff,gL,gL];exact⟨fun h=>by rw[h],fun h=>fT h⟩
def vy(Y:Nat){Z:Value}{r:Bool}(U:VR G x L)(S:VR G y Z)(h:sA P M x y=some r):(Op.equalIn (Y+1) M L Z).run P w=.ok r w:=by
 unfold sA at h;split at h
 .split at h
  .rename_i hd;split at h
   .rename_i A;simp only[ak]at h;subst h A;cases U;cases S;simp[Op.equalIn,bU hd]
   .simp at h
  .simp at h
 .split at h
  .rename_i hd;simp only[ak]at h;subst h;cases U with
   |ad a V W=>cases S with
    |ad b O C=>
     subst W C;simp only[Op.equalIn,cw,bU hd,cA,eA,Ap]
  .simp at h
 .exact vx Y U S h
theorem sS{xs L:qh}{J C:ql}(Z:bb G xs J)(S:bb G L C)(Y:Nat):∀(U:List Field) (r:Bool),lV P xs L U=some r ->
 Sem.run P (forIn U (none,()) fun(f:Field) (_:qo×Unit)=>
         if f.name="_" then pure (ForInStep.yield (none,()))
         else do
          let a <-part f.type J.toArray f.offset
          let b <-part f.type C.toArray f.offset
          let c <-Op.equalIn (Y+1) f.type a b
          if c=false then pure (ForInStep.done (some false,()))else pure (ForInStep.yield (none,())))
  w=.ok (match r with|true=>(none,())|false=>(some false,())) w
 |[],r,h=>by
  simp only[lV,ak]at h;subst h;rfl
 |f::U,r,h=>by
  unfold lV at h;rw[List.forIn_cons];split at h
  .rename_i M;rw[aD kM];simp only[cw,eA,cA];exact sS Z S Y U r h
  .rename_i M;rw[aw kM];split at h
   .rename_i a b A o;obtain⟨m,W,V⟩:=pK (P:=P) (w:=w) Z A;obtain⟨bv,I,O⟩:=pK (P:=P) (w:=w) S o;split at h
    .rename_i F;have:=vy (P:=P) (w:=w) Y V O F;simp only[cw,W,I,this,cA,Bool.true_eq_false,cT,eA];exact sS Z S Y U r h
    .rename_i F;have:=vy (P:=P) (w:=w) Y V O F;simp only[ak]at h;subst h;simp only[cw,W,I,this,cA,cy,eA]
    .simp at h
   .simp at h
theorem Aq(d:Nat){A:Array Field}{xs:Array Value}(hd:P.underlying t=some (.struct A))(J:P.stoodInHeld t=false):
 (Op.equalIn (d+1) t (.agg xs) (.agg Z)).run P w=(Sem.run P (forIn A.toList (none,()) fun(f:Field) (_:qo×Unit)=>
   if f.name="_" then pure (ForInStep.yield (none,()))
   else do
    let a <-part f.type xs f.offset
    let b <-part f.type Z f.offset
    let c <-Op.equalIn d f.type a b
    if c=false then pure (ForInStep.done (some false,()))else pure (ForInStep.yield (none,())))
   w).andThen fun a I=>Sem.run P (match a.1 with|some r=>pure r|none=>pure true) I:=by
 simp[Op.equalIn,bU hd,J]
 congr 1
 funext a I
 rcases a with⟨_ |_,_⟩<;>rfl
def As(Y:Nat){U:Value}{r:Bool}(S:VR G x L)(O:VR G y U)(h:kF P M x y=some r):(Op.equalIn (Y+2) M L U).run P w=.ok r w:=by
 unfold kF at h;split at h
 .unfold pj at h;split at h
  .rename_i A hd;split at h
   .simp at h
   .rename_i J;simp only[sJ]at J;cases S with
    |agg W Z=>cases O with
     |agg V m=>
      have:=sS (P:=P) (w:=w) ⟨W,Z⟩ ⟨V,m⟩ Y A.toList r h;rw[Aq (Y+1) hd J.1,this];cases r<;>rfl
  .simp at h
 .exact vx (Y+1) S O h
def At{r:Bool}(U:VR G x L)(S:VR G y Y)(h:kF P M x y=some r):(Op.equal M L Y).run P w=.ok r w:=As 9998 U S h
def Au{op:BinOp}{x y:Operand}{xs Z:qh}(U:VR G (.agg xs) L)(S:VR G (.agg Z) Y){r:Bool}(h:pj P t xs Z=some r):(eqGuard op t x y L Y).run P w=.ok () w:=by
 unfold pj at h;split at h
 .split at h
  .simp at h
  .rename_i W;simp only[sJ]at W;cases U;cases S;cases op<;>first|rfl|simp[eqGuard,W.2]
 .simp at h
def Av{op:BinOp}{I F:Operand}(U:VR G x L)(S:VR G y Y)(C:∀k a k' b,x=.int k a->y=.int k' b->False)
 (W:∀a b,x=.ad a->y=.ad b->False) (V:∀k a,x=.sx k a->False) (O:∀k a k' b,x=.int k a->y=.sx k' b->False) (h:sB P op M x y=some c) :
 ∃v,(do eqGuard op M I F L Y;binOp op M L Y:Sem Value).run P w=.ok v w/\VR G c v:=by
 unfold sB at h;have o:∃r,kF P M x y=some r/\((op=.eql/\c=.bool r)\/(op=.neq/\c=.bool !r)):=by
  split at h
  .split at h
   .rename_i r hr;simp only[ak]at h;exact⟨r,hr,.inl ⟨rfl,h.symm⟩⟩
   .simp at h
  .split at h
   .rename_i r hr;simp only[ak]at h;exact⟨r,hr,.inr ⟨rfl,h.symm⟩⟩
   .simp at h
  .simp at h
 obtain⟨r,hr,J⟩:=o;have hg:(eqGuard op M I F L Y).run P w=.ok () w:=by
  have Z:=hr;unfold kF at Z;split at Z
  .exact Au U S Z
  .rename_i A;exact pL U S A
 have m:=At (P:=P) (w:=w) U S hr;simp only[cw,hg,cA];rcases J with⟨rfl,rfl⟩|⟨rfl,rfl⟩
 .refine⟨.bool r,?_,.bool r⟩;have:binOp .eql M L Y=(do pure (.bool (<-Op.equal M L Y)):Sem Value):=by
   cases U<;>cases S<;>first|rfl|exact(C _ _ _ _ rfl rfl).elim|exact(W _ _ rfl rfl).elim|exact(V _ _ rfl).elim|exact(O _ _ _ _ rfl rfl).elim
  rw[this];simp[m]
 .refine⟨.bool !r,?_,.bool _⟩;have:binOp .neq M L Y=(do pure (.bool (!(<-Op.equal M L Y))):Sem Value):=by
   cases U<;>cases S<;>first|rfl|exact(C _ _ _ _ rfl rfl).elim|exact(W _ _ rfl rfl).elim|exact(V _ _ rfl).elim|exact(O _ _ _ _ rfl rfl).elim
  rw[this];simp[m]
def vz{e:Sx}(U:VR G x L)(h:pe x=some (k,e)):L=.int k (e.eval G.ρ):=by
 unfold pe at h;split at h
 .simp only[bm]at h;obtain⟨rfl,rfl⟩:=h;cases U;rfl
 .simp only[bm]at h;obtain⟨rfl,rfl⟩:=h;cases U;rfl
 .simp at h
def Aw{op:BinOp}{a b n:Int}(h:dI op k a b=some (.int k n)):sw op k a b=n:=by simp[sw,h]
def Ax(F:fV D G.ρ){op:BinOp}{a b:Sx}(h:sy D op k a b=some c)(M:TypeId):
 ∃v,(binOp op M (.int k (a.eval G.ρ)) (.int k (b.eval G.ρ))).run P w=.ok v w/\VR G c v:=by
 have J:∀(op:BinOp) (n:Int),(op≠.shl/\op≠.shr)->dI op k (a.eval G.ρ) (b.eval G.ρ)=some (.int k n)->c=.sx k (.bJ op k a b) ->
  ∃v,(binOp op M (.int k (a.eval G.ρ)) (.int k (b.eval G.ρ))).run P w=.ok v w/\VR G c v:=fun op n W I hc=>by
  obtain⟨v,m,o⟩:=sR (P:=P) (w:=w) (G:=G) W I M;cases o;refine⟨_,m,?_⟩;subst hc;have:VR G (.sx k (.bJ op k a b)) (.int k ((Sx.bJ op k a b).eval G.ρ)):=.sx _ _;simp only[Sx.eval,Aw I]at this;exact this
 have C:D .eql b (.lit 0)=some false->b.eval G.ρ≠0:=fun hd=>by
  have:=F _ k _ _ _ hd;simp[dI,Sx.eval]at this;exact this
 cases op<;>simp only[sy,ak,reduceCtorEq]at h<;>first
  |exact J _ _ aK rfl h.symm
  |(split at h
    ·rename_i hd;simp only[ak]at h;first
      |exact J .quo (k.wrap ((a.eval G.ρ).tdiv (b.eval G.ρ))) aK (by simp only[dI,aw (C hd)]) h.symm
      |exact J .rem ((a.eval G.ρ).tmod (b.eval G.ρ)) aK (by simp only[dI,aw (C hd)]) h.symm
    .simp at h)
  |(split at h
    ·rename_i r hd;simp only[ak]at h;subst h;exact sR (P:=P) (w:=w) (G:=G) aK (F _ k _ _ _ hd) M
    .simp at h)
def vA(F:fV D G.ρ){op:BinOp}{V U:Operand}(S:VR G x L)(O:VR G y Y)(Z:∀l m,x=.agg l->y=.agg m->False)(h:ph D op x y=some c):
 ∃v,(do eqGuard op M V U L Y;binOp op M L Y:Sem Value).run P w=.ok v w/\VR G c v:=by
 have I:=pL (P:=P) (w:=w) (op:=op) (t:=M) (x:=V) (y:=U) S O Z;simp only[cw,I,cA];unfold ph at h;split at h
 .rename_i k a k' b W A;have C:=vz S W;have o:=vz O A;subst C o;split at h
  .rename_i J;subst J;exact Ax F h M
  .simp at h
 .simp at h
def Ay(F:fV D G.ρ){op:BinOp}{V W:Operand}(U:VR G x L)(S:VR G y Y)(h:ct P D op M x y=some c):
 ∃v,(do eqGuard op M V W L Y;binOp op M L Y:Sem Value).run P w=.ok v w/\VR G c v:=by
 unfold ct at h;split at h
 .rename_i k a k' b;have Z:=pL (P:=P) (w:=w) (op:=op) (t:=M) (x:=V) (y:=W) U S aK;simp only[cw,Z,cA];cases U;cases S;unfold jT at h;split at h
  .unfold jS at h;split at h
   .simp only[ak]at h;subst h;refine⟨_,?_,.int _ _⟩;simp only[binOp,Op.shift];rw[aw aK];rfl
   .simp at h
  .unfold jS at h;split at h
   .simp only[ak]at h;subst h;refine⟨_,?_,.int _ _⟩;simp only[binOp,Op.shift];rw[aw aK];rfl
   .simp at h
  .rename_i m o;split at h
   .rename_i A;subst A;exact sR ⟨m,o⟩ h M
   .simp at h
 .rename_i a b;have Z:=pL (P:=P) (w:=w) (op:=op) (t:=M) (x:=V) (y:=W) U S aK;simp only[cw,Z,cA];cases U with
  |ad J _ O=>
   cases S with
   |ad I _ C=>
    subst O C;exact Ao h M
 .exact vA F U S aK h
 .exact vA F U S aK h
 .exact Av U S nE nE nE nE h
def Az{op:UnOp}(U:VR G x L)(h:jh op x=some c):∃v,(Op.unary op L).run P w=.ok v w/\VR G c v:=by
 unfold jh at h;split at h
 .cases U;simp only[ak]at h;subst h;refine⟨_,rfl,?_⟩;exact .sx _ _
 .cases U;simp only[ak]at h;subst h;refine⟨_,rfl,?_⟩;exact .sx _ _
 .cases U;simp only[dI,ak]at h;subst h;exact⟨_,rfl,.int _ _⟩
 .cases U;simp only[dI,ak]at h;subst h;exact⟨_,rfl,.int _ _⟩
 .cases U;simp only[ak]at h;subst h;exact⟨_,rfl,.bool _⟩
 .simp at h
end
def kV(G:Gh):qk->qz->Prop
 |none,none=>True
 |some c,some v=>VR G c v
 |_,_=>False
section
variable {P:Program} {B:Bs} {G:Gh} {H H':Hp} {w:World}
def pM{k y:Nat}(code:BoundsCode)(h:VR G c v)(C:cX 0 (some c)=some k)(A:k<=y):(Instr.sliceBound v y code).run P w=.ok k w:=by
 unfold cX at C;split at C
 .simp at *
 .rename_i W n e;simp only[ak]at C e;subst C;subst e;cases h;simp[Instr.sliceBound,asIntOf,A]
 .simp at C
theorem AA{d k:Nat}(h:cX d (some c)=some k):cX 0 (some c)=some k:=by
 unfold cX at *;split at h<;>simp_all
def sT{U Y:qk}{m o:qz}{l h len cap:Nat}(O:kV G U m)(W:kV G Y o)(Z:cX 0 U=some l)(A:cX len Y=some h)(V:l<=h)(S:h<=len)(M:len<=cap)(F:Bool):
 (Instr.sliceBounds F len cap m o none).run P w=.ok (l,h,cap) w:=by
 cases Y with
 |none=>
  cases o with
  |some v=>exact W.elim
  |none=>
   simp only[cX,ak]at A;subst A;cases U with
   |none=>
    cases m with
    |some v=>exact O.elim
    |none=>
     simp only[cX,ak]at Z;subst Z;simp[Instr.sliceBounds]
   |some c=>
    cases m with
    |none=>exact O.elim
    |some v=>simp[Instr.sliceBounds,pM _ O Z V]
 |some J=>
  cases o with
  |none=>exact W.elim
  |some L=>
   have I:=AA A;cases U with
   |none=>
    cases m with
    |some v=>exact O.elim
    |none=>
     simp only[cX,ak]at Z;subst Z;simp[Instr.sliceBounds,pM _ W I (show h<=cap by omega)]
   |some c=>
    cases m with
    |none=>exact O.elim
    |some v=>simp[Instr.sliceBounds,pM _ O Z V,pM _ W I (show h<=cap by omega)]
def AB{xv:Value}{lo I:qk}{L C:qz}(hx:VR G x xv)(hl:kV G lo L)(hh:kV G I C)(h:ef P t x lo I=some c):
 ∃v,(Instr.sliceAt t xv L C none).run P w=.ok v w/\VR G c v:=by
 unfold ef at h;split at h
 .rename_i s hd;split at h
  .rename_i l hh' m A;split at h
   .rename_i hc;simp only[ak]at h;subst h;cases hx with
    |ad J _ hs=>
     subst hs;have hb:=sT (P:=P) (w:=w) (cap:=J.size) hl hh m A hc.1 hc.2 (by show J.data.toList.length<=J.data.size;simp) false;have hsz:J.data.toList.length=J.size:=vc;rw[hsz]at hb;refine⟨.string (J.extract l hh'),?_,.ad _ _ (Lib.extract_data _ _ _)⟩;simp only[Instr.sliceAt,cw,bU hd,cA,Instr.slice];simp[hb]
   .simp at h
  .simp at h
 .rename_i e y hd;split at h
  .rename_i z hz;have Z:∀(a:Option Addr) (F cap l U:Nat),xv=.slice a F cap->cX 0 lo=some l->cX F I=some U->l<=U->U<=F->F<=cap ->
    (Instr.sliceAt t xv L C none).run P w=.ok (.slice (if cap=l then a else a.map (·.add (l*z))) (U-l) (cap-l)) w:=fun a F cap l U e1 m A h1 V h3=>by
    subst e1;simp only[Instr.sliceAt,cw,bU hd,cA,Instr.slice];simp[sT hl hh m A h1 V h3,eD hz]
   split at h
   .rename_i r off F z';split at h
    .rename_i l U m A;split at h
     .rename_i hc;obtain⟨h1,V,rfl⟩:=hc;cases hx with
      |sl hr hlc hx'=>
       rename_i b o x cap;have:=Z _ F cap l U rfl m A h1 V hlc;split at h
       .rename_i e1;simp only[ak]at h;subst h;subst e1;rw[nG]at this;exact⟨_,this,.b1 _ _⟩
       .rename_i hne;simp only[ak]at h;subst h;rw[aw aa]at this;refine⟨_,this,?_⟩;simp only[eB,gr];rw[eP];refine .sl hr aa ?_;have e3:(cap-l)*z'+l*z'=cap*z':=sH;omega
     .simp at h
    .simp at h
   .rename_i xs;split at h
    .rename_i l U m A;split at h
     .rename_i hc;obtain⟨h1,V⟩:=hc;split at h
      .rename_i he;simp only[ak]at h;subst h;have M:U-l=0:=by
        have:=congrArg List.length he;simp only[kQ,gn,l0]at this;omega
       cases hx with
       |af vs hzz hF hv W=>
        have:=Z _ _ _ l U rfl m A h1 V W;rw[M]at this;exact⟨_,this,.b1 _ _⟩
       |b1 a cap=>
        have:=Z _ _ _ l U rfl m A h1 V (eC cap);rw[M]at this;exact⟨_,this,.b1 _ _⟩
      .rename_i row O he;split at h
       .rename_i hrl;simp only[ak]at h;subst h;have hpos:0<U-l:=by
         have:=congrArg List.length he;simp only[kQ,gn,de]at this;omega
        cases hx with
        |b1 a cap=>simp at V;omega
        |af vs hzz hF hv W=>
         rename_i b o cap z';have S:=Z _ _ _ l U rfl m A h1 V W;rw[aw aa]at S;have Y:∀i:Nat,(row::O)[i]?=if i<U-l then xs[l+i]? else none:=fun i=>by
          rw[<-he,jZ,j3]
         have hz':z'=z:=by
          have:=Y 0;rw[aD hpos]at this;rw[<-hzz (l+0) row (by rw[<-this];rfl)];exact hrl
         subst hz';have M:(row::O).length=U-l:=by
          rw[<-he];simp only[kQ,gn];omega
         refine⟨_,S,?_⟩;simp only[eB,gr];rw[<-M];refine .af (z:=z') (fun i j=>vs (l+i) j) (fun i rw' I=>?_) (fun i j I hj=>?_) (fun i j rw' d I hj=>?_) (by rw[M];omega)
         .rw[Y i]at I;split at I
          .exact hzz _ _ I
          .simp at I
         .have:=hF (l+i) j (by rw[M]at I;omega) hj;rw[<-this]
          congr 1
          rw[gM];omega
         .rw[Y i]at I;split at I
          .exact hv _ _ _ _ I hj
          .simp at I
       .simp at h
     .simp at h
    .simp at h
   .split at h
    .rename_i m A;simp only[ak]at h;subst h;cases hx;have:=Z none 0 0 0 0 rfl m A (aA _) (aA _) (aA _);exact⟨_,this,.ab⟩
    .simp at h
   .simp at h
  .simp at h
 .simp at h
def bb.splice{O:qh}{V:ql}(h:bb G cs vs)(S:bb G O V)(off:Nat):bb G (Ab.splice cs off O) (vs.take off++V++vs.drop (off+V.length)):=by
 unfold Ab.splice;rw[S.1];exact((h.take off).append S).append (h.drop _)
theorem vB(off:Nat):∀(V:ql) (k:Nat) (cells:Array Value),off+k+V.length<=cells.size ->
 ((V.zipIdx k).foldl (fun cs (c,j)=>cs.setIfInBounds (off+j) c) cells).toList=cells.toList.take (off+k)++V++cells.toList.drop (off+k+V.length)
 |[],k,cells,_=>by simp
 |v::V,k,cells,h=>by
  simp only[de]at h;rw[List.zipIdx_cons,List.foldl_cons,vB off V (k+1) _ dj];simp only[vh,de];have hp:off+k<cells.toList.length:=dj;have m:(cells.toList.set (off+k) v).take (off+(k+1))=cells.toList.take (off+k)++[v]:=by
   rw[<-eP,l1,List.take_set_of_le (aA _),sK hp];rfl
  rw[m,List.drop_set_of_lt aa,show off+(k+1)+V.length=off+k+(V.length+1) by omega];simp
theorem pN{A:Nat->Option (Nat×Nat)}:∀{ps:qu}{pv:List (Nat×Value)}{cs out:qh}{vs:ql},ps.length=pv.length ->
 (∀(i:Nat) p q,ps[i]?=some p->pv[i]?=some q->p.1=q.1/\VR G p.2 q.2)->bb G cs vs->iD A cs ps=some out ->
 ∃I,Instr.fill A vs.toArray pv=some I.toArray/\bb G out I
 |[],[],cs,out,vs,_,_,hv,h=>by
  simp only[iD,ak]at h;subst h;exact⟨vs,rfl,hv⟩
 |[],q::pv,_,_,_,hl,_,_,_=>by simp at hl
 |p::ps,[],_,_,_,hl,_,_,_=>by simp at hl
 |(i,c)::ps,(i',v)::pv,cs,out,vs,hl,hp,hv,h=>by
  obtain⟨rfl,U⟩:=hp 0 (i,c) (i',v) rfl rfl;simp only[]at U;simp only[iD]at h;split at h
  .simp at h
  .rename_i F Y m;split at h
   .simp at h
   .rename_i V;have O:=U.cells;have W:v.cells.size=c.cells.length:=by rw[O.1];simp
    have Z:v.cells.size=Y/\F+v.cells.size<=vs.length:=by
     rw[W,<-hv.1];constructor
     .apply sL;intro S;exact V (.inl S)
     .apply sL;intro S;exact V (.inr aa)
    obtain⟨I,C,o⟩:=pN (ps:=ps) (pv:=pv) (cs:=Ab.splice cs F c.cells) (out:=out) (vs:=vs.take F++v.cells.toList++vs.drop (F+v.cells.toList.length))
     (by simpa using hl) (fun j p q L J=>hp (j+1) p q (by simpa using L) (by simpa using J)) (hv.splice O F) h
    refine⟨I,?_,o⟩;simp only[Instr.fill,m];rw[aw dj];rw[<-C]
    congr 1
    apply fT;have M:=vB F v.cells.toList 0 vs.toArray dj;simp only[iJ]at M;rw[List.toList_toArray,<-M];rw[<-Array.foldl_toList,Array.toList_zipIdx]
theorem pO{E:ae}{a:Act}:∀{ps:List (Nat×Operand)}{out:qu},(∀p∈ps,∀c,ay E p.2=some c->VR G c (a.eval p.2))->eL E ps=some out ->
 out.length=(ps.map fun x=>(x.1,a.eval x.2)).length/\∀(i:Nat) p q,out[i]?=some p->(ps.map fun x=>(x.1,a.eval x.2))[i]?=some q->p.1=q.1/\VR G p.2 q.2
 |[],out,_,h=>by
  simp only[eL,ak]at h;subst h;exact⟨rfl,aK⟩
 |(i,x)::ps,out,hE,h=>by
  simp only[eL]at h;split at h
  .rename_i v vs M L;simp only[ak]at h;subst h;obtain⟨m,o⟩:=pO (ps:=ps) (out:=vs) (fun p hp=>hE p (by simp[hp])) L;refine⟨by simpa using m,fun j p q V A=>?_⟩;cases j with
   |zero=>
    simp at V A;subst V A;exact⟨rfl,hE (i,x) aK v M⟩
   |succ j=>exact o j p q (by simpa using V) jY
  .simp at h
def AC{ps:qu}{pv:List (Nat×Value)}(L:ps.length=pv.length)(F:∀(i:Nat) p q,ps[i]?=some p->pv[i]?=some q->p.1=q.1/\VR G p.2 q.2)(h:dA P t ps=some c):
 ∃v,(Instr.build t pv.toArray).run P w=.ok v w/\VR G c v:=by
 unfold dA at h;split at h
 .rename_i z V C hd;split at h
  .rename_i U Y;split at h
   .rename_i out S;simp only[ak]at h;subst h;obtain⟨it,zv,zc,Z,M,m,rfl⟩:=sP C;have O:=(l6 (G:=G) m).cells;obtain⟨I,W,o⟩:=pN L F O S;refine⟨.agg I.toArray,run_build w t _ _ ?_,.agg o.1 o.2⟩;simp only[Program.built,Z,hd,M];unfold u4 at Y;rw[Y];simp only[l2]at W;simpa using W
   .simp at h
  .simp at h
 .rename_i z n e C hd;split at h
  .rename_i s hs;split at h
   .rename_i out S;simp only[ak]at h;subst h;obtain⟨it,zv,zc,Z,M,m,rfl⟩:=sP C;have O:=(l6 (G:=G) m).cells;obtain⟨ie,J,A⟩:=vp hs;obtain⟨I,W,o⟩:=pN L F O S;refine⟨.agg I.toArray,run_build w t _ _ ?_,.agg o.1 o.2⟩;simp only[Program.built,Z,hd,M,J,A];simp only[l2]at W;simpa using W
   .simp at h
  .simp at h
 .simp at h
theorem vC(z:qh):∀(n j:Nat),j<n*z.length->(eY z n)[j]?=z[j%z.length]?
 |0,j,h=>by simp at h
 |n+1,j,h=>by
  simp only[eY];by_cases V:j<z.length
  .rw[h8 V,Nat.mod_eq_of_lt V]
  .have U:j<n*z.length+z.length:=by simpa [nH]using h
   rw[jk aa,vC z n (j-z.length) aa]
   congr 1
   exact(Nat.mod_eq_sub_mod aa).symm
theorem pP(z:qh):∀n,(eY z n).length=n*z.length
 |0=>by simp[eY]
 |n+1=>by simp[eY,pP z n,gM];omega
def sU(Y:bb G z Z.toList)(n:Nat):bb G (eY z n) (((Array.range (n*z.length)).map (Z[·% Z.size]!))).toList:=by
 have O:=Y.1;refine⟨by simp[pP],fun j c v hc M=>?_⟩;have V:j<n*z.length:=by
  have:=(ci.1 hc).1;rw[pP]at this;exact this
 rw[vC z n j V]at hc;simp only[sM,Array.toList_range,gp,List.getElem?_range V,eB,ak]at M;have C:0<z.length:=by
  rcases Nat.eq_zero_or_pos z.length with e|e
  .rw[e]at V;omega
  .exact e
 have W:j%z.length<z.length:=Nat.mod_lt _ C;have I:Z.size=z.length:=by simpa using O.symm
 refine Y.2 (j%z.length) c v hc ?_;rw[I]at M;rw[<-M];simp[I,W]
theorem vD{A:Nat->Option (Nat×Nat)}:∀{W:qu}{cs out:qh},iD A cs W=some out->out.length=cs.length
 |[],cs,out,h=>by simp only[iD,ak]at h;rw[h]
 |(i,c)::W,cs,out,h=>by
  simp only[iD]at h;split at h
  .simp at h
  .split at h
   .simp at h
   .rename_i hc;rw[vD h,Ad];apply sL;intro S;exact hc (.inr aa)
def vE{len:Nat}{ps:qu}{pv:List (Nat×Value)}(V:ps.length=pv.length)(U:∀(i:Nat) p q,ps[i]?=some p->pv[i]?=some q->p.1=q.1/\VR G p.2 q.2)
 (C:eu P H t len ps=some (c,H')):ib P G w (Instr.buildSlice t len pv.toArray) id c H H':=by
 unfold eu at C;split at C
 .rename_i e hd;split at C
  .rename_i s z J hz;split at C
   .rename_i hc;obtain⟨h24,S⟩:=hc;split at C
    .rename_i cs Y;simp only[bm]at C;obtain⟨rfl,rfl⟩:=C;obtain⟨zv,O,M⟩:=l7 hz;have L:=sU (M G) len;obtain⟨I,m,o⟩:=pN V U L Y;have W:I.length=len*s:=by
      rw[<-o.1,vD Y,pP,S]
     refine⟨.cells cs 0 true,.cells (I++[]).toArray e,I.length+0,.slice (some ⟨w.heap.size,0,none⟩) len len,rfl,?_,.cells cs I [] e o,fun G' A=>.sl A (aA _) aa⟩;rw[jo];show _=Result.ok (Value.slice (some ⟨w.heap.size,0,none⟩) len len) _
     .have F:¬(len*s > 2^24):=by omega
      rw[S]at m;by_cases Z:len*s=0
      .rw[Z]at m;simp at m;simp[Instr.buildSlice,bU hd,eD J,Z,newRow];rw[show Array.map (fun _:Nat=>(default:Value)) (Array.range 0)=#[]from by simp,m];rfl
      .simp only[l2]at m;simp[Instr.buildSlice,bU hd,eD J,F,Z,O,m,newRow]
    .simp at C
   .simp at C
  .simp at C
 .simp at C
theorem vF{l r:AV}{A cv:Value}(hl:VR G l A)(hc:VR G c cv)(W:iE P H t l c=some (r,H')):
 ib P G w (Instr.makeSlice t A cv) id r H H':=by
 unfold iE at W;split at W
 .rename_i e bD l a4 c hd;cases hl;cases hc;split at W
  .rename_i s b z J hb hz;split at W
   .rename_i V;obtain⟨m,h2,h3,h4⟩:=V;simp only[bm]at W;obtain⟨rfl,rfl⟩:=W;obtain⟨Y,O,S⟩:=l7 hz;obtain⟨i,F,M⟩:∃i,P.info? e=some i/\i.bytes=b:=by simpa [bT,dC]using hb
    have W:cm=70368744177664:=rfl;rw[W]at h2 h3;have L:=sU (S G) l;have C:((Array.range (c*s)).map (Y.cells[·% Y.cells.size]!)).toList=((Array.range (l*s)).map (Y.cells[·% Y.cells.size]!)).toList++(((Array.range (c*s)).map (Y.cells[·% Y.cells.size]!)).toList.drop (l*s)):=by
     have U:l*s<=c*s:=nI _ m
     conv=>lhs;rw[<-List.take_append_drop (l*s) ((Array.range (c*s)).map (Y.cells[·% Y.cells.size]!)).toList]
     congr 1
     simp only[sM,Array.toList_range,<-List.map_take];rw[List.take_range,Nat.min_eq_left U]
    rw[h4]at L;have Z:zal G (.cells (eY z l) 0 true) _ _:=.cells _ _ (((Array.range (c*s)).map (Y.cells[·% Y.cells.size]!)).toList.drop (l*s)) e L;rw[<-C,l2]at Z;refine⟨_,_,_,.slice (some ⟨w.heap.size,0,none⟩) l c,rfl,?_,Z,fun G' hG=>.sl hG m ?_⟩
    .show _=Result.ok (Value.slice (some ⟨w.heap.size,0,none⟩) l c) _;have o:IntKind.i64.wrap (l:Int)=l:=l3 _ aa;have w2:IntKind.i64.wrap (c:Int)=c:=l3 _ aa;have I:¬((b:Int)*c > 2^48):=by
      have:(b:Int)*c=((c*b:Nat):Int):=by rw[Nat.mul_comm];simp
      rw[this];omega
     have h5:¬((281474976710656:Int)<(b:Int)*c):=nF;have h6:¬(c<l):=aa;have p1:¬((c:Int)<0):=aa;have p2:¬((l:Int)<0):=aa;simp only[Instr.makeSlice,cw,bU hd,cA,asInt,asIntOf];by_cases h0:c*s=0
     .simp[j4 F,M,o,w2,h5,h6,p1,p2,eD J,h0,newRow];rw[show ∀f g:Nat->Value,Array.map f (Array.range 0)=Array.map g (Array.range 0)from fun f g=>aK]
     .simp[j4 F,M,o,w2,h5,h6,p1,p2,eD J,h0,O,newRow]
    .have U:l*s<=c*s:=nI _ m;simp;omega
   .simp at W
  .simp at W
 .simp at W
end
end Go.Ab
