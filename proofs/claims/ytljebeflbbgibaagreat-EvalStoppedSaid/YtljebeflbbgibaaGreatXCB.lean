/- Parts: AbRel, AbMem, AbOps, AbOps2. -/
import Derived.Test.YtljebeflbbgibaaGreatXCA
import Derived.WalkKit
set_option linter.unusedSimpArgs false
set_option linter.unusedVariables false
set_option linter.unusedSectionVars false
set_option linter.defProp false
set_option maxHeartbeats 32000000
namespace Go.Ab
set_option maxRecDepth 20000
open Go
theorem aB{P:Prop}(h:P:=by simp):P:=h
theorem wi{P:Prop}(h:P:=by simpa using hc):P:=h
theorem ac{P:Prop}(h:P:=by omega):P:=h
theorem jl{P:Prop}(h:P:=by rw[<- k r _ hr];exact hc):P:=h
theorem cf{P:Prop}(h:P:=by simp;omega):P:=h
theorem C8{P:Prop}(h:P:=by rw[World.frozen?_alloc_old _ _ _ (by have:=lZ i;simp;omega)];exact h2):P:=h
theorem zo{P:Prop}(h:P:=by have:=h.dom _ _ F;omega):P:=h
theorem gO{P:Prop}(h:P:=by rw[zdq,if_pos rfl]):P:=h
theorem ik{P:Prop}(h:P:=by rw[Hp.get_set,if_pos rfl]):P:=h
theorem jE{P:Prop}(h:P:=by rw[M];omega):P:=h
theorem tR{P:Prop}(h:P:=by simp only[zeJ];omega):P:=h
theorem mP{P:Prop}(h:P:=by trivial):P:=h
theorem wj{P:Prop}(h:P:=by simpa using O):P:=h
theorem C9{P:Prop}(h:P:=by simpa [Instr.loadAt,Instr.sureAddr]using i):P:=h
theorem oZ{P:Prop}(h:P:=by simpa using A):P:=h
theorem zp{P:Prop}(h:P:=by rw[Nat.add_assoc];exact .ptr hr):P:=h
theorem rN{P:Prop}(h:P:=by simpa using Z):P:=h
theorem nV{P:Prop}(h:P:=by constructor):P:=h
theorem rO{P:Prop}(h:P:=by simp[binOp,Op.stringOp,ByteArray.toList_eq]):P:=h
theorem il{P:Prop}(h:P:=by assumption):P:=h
theorem fy{P:Prop}(h:P:=by rw[zdq,if_neg ac]):P:=h
def fz:=@List.getElem?_append_left
def fZ:=@List.getElem?_append_right
def mQ:=@List.getElem?_take
def az:=@if_pos
def aM:=@Nat.le_refl
def eT:=@Nat.le_trans
def gz:=@Nat.lt_of_lt_of_le
def gP:=@Nat.eq_of_beq_eq_true
def zq:=@Nat.ne_of_beq_eq_false
def ll:=@decide_true
def gA:=@decide_false
def ai:=@if_neg
def aA:=@Option.some.injEq
def gQ:=@Nat.blt_eq
def gR:=@Array.getD_eq_getD_getElem?
def pZ:=@Array.getElem?_setIfInBounds
def fA:=@Prod.mk.injEq
def de:=@List.getElem?_eq_some_iff
def aR:=@List.getElem?_eq_getElem
def bC:=@Nat.zero_add
def wl:=@Go.RowKit.Below.heap_alloc
def fQ:=@Nat.le_succ
def zr:=@List.take_append_of_le_length
def eJ:=@List.take_of_length_le
def zs:=@List.drop_of_length_le
def ep:=@List.length_append
def iX:=@List.length_take
def dq:=@List.length_cons
def jF:=@List.length_nil
def wm:=@List.drop_drop
def lX:=@List.nil_append
def gB:=@List.append_assoc
def nW:=@List.getElem?_drop
def dO:=@Go.Sem.run_bind
def io:=@Nat.add_assoc
def iD:=@List.length_drop
def cm:=@Option.bind_eq_some_iff
def mR:=@Option.map_eq_some_iff
def dW:=@Go.Result.andThen_ok
def bT:=@if_true
def iE:=@Go.Sem.run_pure
def lm:=@Array.ext'
def o0:=@List.getElem_of_mem
def gS:=@List.all_eq_true
def dr:=@List.getElem_mem
def rP:=@Bool.eq_iff_iff
def lq:=@beq_iff_eq
def ls:=@Bool.true_eq_false
def cn:=@if_false
def lw:=@Bool.or_eq_false_iff
def cr:=And.intro @aA.{0} @fA.{0,0}
end Go.Ab
namespace Go.Ab
set_option maxRecDepth 20000
open Go Go.RowKit
structure Gh where
 β:Nat->Option (Nat×Nat×Nat)
 F:Nat->Nat->Option Value
 ρ:Nat->Int
structure Bs where
 at':Nat
 ρ:Nat->Int
 cfg:Cfg
def kJ(D:BinOp->Sx->Sx->Option Bool)(ρ:Nat->Int):Prop:=∀K k a b r,D K a b=some r->zfw K k (a.eval ρ) (b.eval ρ)=some (.bool r)
inductive VR (G:Gh):AV->Value->Prop
 |int (k:IntKind) (n:Int):VR G (.int k n) (.int k n)
 |sx (k:IntKind) (e:Sx):VR G (.sx k e) (.int k (e.eval G.ρ))
 |bool (b:Bool):VR G (.bool b) (.bool b)
 |str (s:ByteArray) (l:List UInt8) (h:s.data.toList=l):VR G (.str l) (.string s)
 |nilP:VR G .nilP (.pointer none)
 |nilM:VR G .nilM (.map none)
 |nilF:VR G .nilF .nilFunc
 |nilS:VR G .nilS (.slice none 0 0)
 |ptr {r off b o x:Nat} (h:G.β r=some (b,o,x)):VR G (.ptr r off) (.pointer (some ⟨b,o+off,none⟩))
 |iptr {cs:List AV}{b o:Nat} (vs:Nat->Value) (hF:∀j,j<cs.length->G.F b (o+j)=some (vs j))
  (hv:∀(j:Nat) (c:AV),cs[j]?=some c->VR G c (vs j)):VR G (.iptr cs) (.pointer (some ⟨b,o,none⟩))
 |sl {r off len z b o x cap:Nat} (h:G.β r=some (b,o,x)) (hl:len<=cap) (hc:off+cap*z<=x) :
  VR G (.sl r off len z) (.slice (some ⟨b,o+off,none⟩) len cap)
 |lst {xs:List (List AV)}{b o cap z:Nat} (vs:Nat->Nat->Value) (hz:∀(i:Nat) (row:List AV),xs[i]?=some row->row.length=z)
  (hF:∀i j,i<xs.length->j<z->G.F b (o+i*z+j)=some (vs i j))
  (hv:∀(i j:Nat) (row:List AV) (c:AV),xs[i]?=some row->row[j]?=some c->VR G c (vs i j)) (hc:xs.length<=cap) :
  VR G (.lst xs) (.slice (some ⟨b,o,none⟩) xs.length cap)
 |lst0 (a:Option Addr) (cap:Nat):VR G (.lst []) (.slice a 0 cap)
 |map {r b o x:Nat} (h:G.β r=some (b,o,x)):VR G (.map r) (.map (some b))
 |clo {f:Nat}{cs:List AV}{vs:List Value} (hl:cs.length=vs.length) (hv:∀(i:Nat) c v,cs[i]?=some c->vs[i]?=some v->VR G c v) :
  VR G (.clo f cs) (.func (.func f) #[] vs.toArray)
 |agg {cs:List AV}{vs:List Value} (hl:cs.length=vs.length) (hv:∀(i:Nat) c v,cs[i]?=some c->vs[i]?=some v->VR G c v) :
  VR G (.agg cs) (.agg vs.toArray)
 |tup {cs:List AV}{vs:List Value} (hl:cs.length=vs.length) (hv:∀(i:Nat) c v,cs[i]?=some c->vs[i]?=some v->VR G c v) :
  VR G (.tup cs) (.tuple vs.toArray)
def bW(G:Gh)(cs:List AV)(vs:List Value):Prop:=cs.length=vs.length/\∀(i:Nat) c v,cs[i]?=some c->vs[i]?=some v->VR G c v
theorem bW.nil(G:Gh):bW G [] []:=⟨rfl,aB⟩
def lY:=@bW.nil
theorem bW.cons{G:Gh}{c:AV}{v:Value}{cs:List AV}{vs:List Value}(h:VR G c v)(K:bW G cs vs):bW G (c::cs) (v::vs):=by
 refine⟨by simp[K.1],fun i I F hc L=>?_⟩;cases i with
 |zero=>simp at hc L;subst hc L;exact h
 |succ i=>exact K.2 i I F wi (by simpa using L)
def jG:=@bW.cons
theorem bW.of_cons{G:Gh}{c:AV}{v:Value}{cs:List AV}{vs:List Value}(h:bW G (c::cs) (v::vs)):VR G c v/\bW G cs vs:=
 ⟨h.2 0 c v rfl rfl,by simpa using h.1,fun i I F hc L=>h.2 (i+1) I F wi (by simpa using L)⟩
theorem bW.append{G:Gh}{cs I:List AV}{vs us:List Value}(h:bW G cs vs)(Z:bW G I us):bW G (cs++I) (vs++us):=by
 refine⟨by simp[h.1,Z.1],fun i c v hc L=>?_⟩;have F:=h.1;by_cases A:i<cs.length
 .rw[fz A]at hc;rw[fz ac]at L;exact h.2 i c v hc L
 .rw[fZ ac]at hc;rw[fZ ac]at L;rw[<-F]at L;exact Z.2 _ c v hc L
theorem bW.drop{G:Gh}{cs:List AV}{vs:List Value}(h:bW G cs vs)(n:Nat):bW G (cs.drop n) (vs.drop n):=
 ⟨by simp[h.1],fun i c v hc L=>h.2 (n+i) c v wi (by simpa using L)⟩
theorem bW.take{G:Gh}{cs:List AV}{vs:List Value}(h:bW G cs vs)(n:Nat):bW G (cs.take n) (vs.take n):=by
 refine⟨by simp[h.1],fun i c v hc L=>?_⟩;rw[mQ]at hc L;split at hc
 .rename_i A;rw[az A]at L;exact h.2 i c v hc L
 .simp at hc
structure Ext (G G':Gh):Prop where
 β:∀r p,G.β r=some p->G'.β r=some p
 F:∀b o v,G.F b o=some v->G'.F b o=some v
 ρ:G'.ρ=G.ρ
theorem Ext.refl(G:Gh):Ext G G:=⟨fun _ _ h=>h,fun _ _ _ h=>h,rfl⟩
def rQ:=@Ext.refl
theorem Ext.trans{a b c:Gh}(h:Ext a b)(k:Ext b c):Ext a c:=⟨fun r p hp=>k.β r p (h.β r p hp),fun x y v L=>k.F x y v (h.F x y v L),k.ρ.trans h.ρ⟩
theorem VR.mono{G Z:Gh}(e:Ext G Z){c:AV}{v:Value}(h:VR G c v):VR Z c v:=by
 induction h with
 |int k n=>exact .int k n
 |sx k x=>rw[<-e.ρ];exact .sx k x
 |bool b=>exact .bool b
 |str s l h=>exact .str s l h
 |nilP=>exact .nilP
 |nilM=>exact .nilM
 |nilF=>exact .nilF
 |nilS=>exact .nilS
 |ptr h=>exact .ptr (e.β _ _ h)
 |iptr vs A _ ih=>exact .iptr vs (fun j O=>e.F _ _ _ (A j O)) ih
 |sl h F hc=>exact .sl (e.β _ _ h) F hc
 |lst vs z A _ hc ih=>exact .lst vs z (fun i j Y O=>e.F _ _ _ (A i j Y O)) ih hc
 |lst0 a L=>exact .lst0 a L
 |map h=>exact .map (e.β _ _ h)
 |clo F _ ih=>exact .clo F ih
 |agg F _ ih=>exact .agg F ih
 |tup F _ ih=>exact .tup F ih
theorem bW.mono{G Z:Gh}(e:Ext G Z){c:List AV}{v:List Value}(h:bW G c v):bW Z c v:=⟨h.1,fun i a b J z=>(h.2 i a b J z).mono e⟩
theorem VR.oneCell{G:Gh}{c:AV}{v:Value}(h:VR G c v):v.oneCell'=c.one:=by cases h<;>rfl
theorem VR.cells{G:Gh}{c:AV}{v:Value}(h:VR G c v):bW G c.cells v.cells.toList:=by
 cases h with
 |agg F L=>exact⟨by simpa [AV.cells,Value.cells]using F,by simpa [AV.cells,Value.cells]using L⟩
 |_=>exact jG (by constructor<;>assumption) (lY _)
def gC(G:Gh)(w:World)(b o:Nat)(cs:List AV):Prop:=∀(j:Nat) (c:AV),cs[j]?=some c->∃v,w.cell? ⟨b,o+j,none⟩=some v/\VR G c v
def zeJ(x:Nat)(cs:List AV):Bool->Nat
 |true=>x
 |false=>cs.length
def nX(G:Gh)(es:List (AV×AV))(ms:List MapEntry):Prop:=
 es.length=ms.length/\∀(i:Nat) e m,es[i]?=some e->ms[i]?=some m->VR G e.1 m.key/\VR G e.2 m.val
structure R (B:Bs) (H:Hp) (w:World) (G:Gh):Prop where
 base:B.at'<=w.heap.size
 dom:∀r p,G.β r=some p->r<H.next
 lt:∀r b o x,G.β r=some (b,o,x)->B.at'<=b/\b<w.heap.size
 cells:∀r b o x cs imm tip,G.β r=some (b,o,x)->H.get r=some (.cells cs imm tip)->gC G w b o cs
 imm:∀r b o x cs imm tip,G.β r=some (b,o,x)->H.get r=some (.cells cs imm tip)->∀j,j<imm->j<cs.length->∃v,G.F b (o+j)=some v
 ext:∀r b o x cs imm tip,G.β r=some (b,o,x)->H.get r=some (.cells cs imm tip)->cs.length<=zeJ x cs tip
 room:∀r b o x cs imm tip,G.β r=some (b,o,x)->H.get r=some (.cells cs imm tip)->∀j,imm<=j->j<zeJ x cs tip ->
  (∃v,w.cell? ⟨b,o+j,none⟩=some v)/\w.frozen? ⟨b,o+j,none⟩=false/\G.F b (o+j)=none
 apart:∀r b o x cs imm tip r' b' o' x' cs' imm' tip',G.β r=some (b,o,x)->H.get r=some (.cells cs imm tip) ->
  G.β r'=some (b',o',x')->H.get r'=some (.cells cs' imm' tip')->r≠r' ->
  ∀j j',imm<=j->j<zeJ x cs tip->imm'<=j'->j'<zeJ x' cs' tip'->b=b'->o+j≠o'+j'
 map:∀r b o x es,G.β r=some (b,o,x)->H.get r=some (.map es)->∃ms clock,w.heap[b]?=some (.map ms clock)/\nX G es ms.toList
 mapApart:∀r b o x es r' b' o' x',G.β r=some (b,o,x)->H.get r=some (.map es)->G.β r'=some (b',o',x')->(H.get r').isSome->r≠r'->b≠b'
 frz:∀b o v,G.F b o=some v->w.cell? ⟨b,o,none⟩=some v
 val:G.ρ=B.ρ
 sym:kJ B.cfg.dec B.ρ
 fits:∀r b o x cs imm tip,G.β r=some (b,o,x)->H.get r=some (.cells cs imm tip)->cs.length<=x
structure Fr (G:Gh) (w w':World):Prop where
 os:w'.os=w.os
 tape:w'.tape=w.tape
 output:w'.output=w.output
 size:w.heap.size<=w'.heap.size
 block:∀k,k<w.heap.size->(∀r b o x,G.β r=some (b,o,x)->b≠k)->w'.heap[k]?=w.heap[k]?
theorem Fr.refl(G:Gh)(w:World):Fr G w w:=⟨rfl,rfl,rfl,aM _,fun _ _ _=>rfl⟩
def tS:=@Fr.refl
def nY(G i:Gh)(w:World):Prop:=∀r b o x,i.β r=some (b,o,x)->G.β r=some (b,o,x)\/w.heap.size<=b\/∃A Z Y,G.β A=some (b,Z,Y)
theorem Fr.trans{G Y:Gh}{a b c:World}(h:Fr G a b)(k:Fr Y b c)(n:nY G Y a):Fr G a c:=
 ⟨k.os.trans h.os,k.tape.trans h.tape,k.output.trans h.output,eT h.size k.size,fun i A m=>
  (k.block i (gz A h.size) (fun r b o x hr M=>by
    rcases n r b o x hr with Z|Z|⟨V,U,O,Z⟩
    .exact m r b o x Z M
    .omega
    .exact m V b U O Z M)).trans (h.block i A m)⟩
theorem nY.refl(G:Gh)(w:World):nY G G w:=fun _ _ _ _ h=>.inl h
def p6:=@nY.refl
theorem nY.trans{G Z A:Gh}{w w':World}(h:nY G Z w)(k:nY Z A w')(K:w.heap.size<=w'.heap.size):nY G A w:=fun r b o x hr=>by
 rcases k r b o x hr with i|i|⟨Y,V,U,i⟩
 .exact h r b o x i
 .exact .inr (.inl ac)
 .rcases h Y b V U i with g|g|g
  .exact .inr (.inr ⟨Y,V,U,g⟩)
  .exact .inr (.inl g)
  .exact .inr (.inr g)
structure Step (B:Bs) (nx:Nat) (G:Gh) (w:World) (H':Hp) (w':World) (G':Gh):Prop where
 r:R B H' w' G'
 ext:Ext G G'
 fr:Fr G w w'
 new:nY G G' w
 low:∀r p,G'.β r=some p->G.β r=some p\/nx<=r
 mono:nx<=H'.next
 icy:∀b o v,G'.F b o=some v->G.F b o=some v\/B.at'<=b
theorem Step.refl{B:Bs}{H:Hp}{G:Gh}{w:World}(h:R B H w G):Step B H.next G w H w G:=⟨h,rQ _,tS _ _,p6 _ _,fun _ _ h=>.inl h,aM _,fun _ _ _ h=>.inl h⟩
def jm:=@Step.refl
theorem Step.trans{B:Bs}{Y:Nat}{H' J:Hp}{G Z A:Gh}{w w' C:World}(h:Step B Y G w H' w' Z)(k:Step B H'.next Z w' J C A):Step B Y G w J C A:=
 ⟨k.r,h.ext.trans k.ext,h.fr.trans k.fr h.new,h.new.trans k.new h.fr.size,fun r p hr=>by
  rcases k.low r p hr with i|i
  .exact h.low r p i
  .exact .inr (eT h.mono i),eT h.mono k.mono,fun b o v L=>by
  rcases k.icy b o v L with i|i
  .exact h.icy b o v i
  .exact .inr i⟩
structure TR (N:Nat) (G:Gh) (E:ax) (a:Act):Prop where
 size:a.tmps.size=N
 slots:∀t,VR G (E.at t) (a.tmps.getD t undef)
theorem TR.mono{N:Nat}{G i:Gh}{E:ax}{a:Act}(e:Ext G i)(h:TR N G E a):TR N i E a:=⟨h.size,fun t=>(h.slots t).mono e⟩
theorem VR.undef(G:Gh):VR G zev Go.undef:=.tup (cs:=[]) (vs:=[]) rfl aB
def tT:=@VR.undef
@[simp] theorem nZ {α:Type} (x y:α):iy true x y=x:=rfl
@[simp] theorem zfR {α:Type} (x y:α):iy false x y=y:=rfl
theorem tU{U:Type}(k:Nat):(T.e:T U).get k=none:=rfl
theorem p7{U:Type}(v:Option U)(l r:T U)(k:Nat):
 (T.n v l r).get k=iy (Nat.beq k 0) v (iy (Nat.beq (Nat.mod k 2) 1) (l.get (Nat.div k 2)) (r.get (Nat.sub (Nat.div k 2) 1))):=rfl
theorem Ls{U:Type}(v:Option U)(f:Nat)(t:T U)(k:Nat):pP v (f+1) t k=T.casesOn t
 (iy (Nat.beq k 0) (.n v .e .e) (iy (Nat.beq (Nat.mod k 2) 1) (.n none (pP v f .e (Nat.div k 2)) .e) (.n none .e (pP v f .e (Nat.sub (Nat.div k 2) 1)))))
 (fun u l r=>iy (Nat.beq k 0) (.n v l r) (iy (Nat.beq (Nat.mod k 2) 1) (.n u (pP v f l (Nat.div k 2)) r) (.n u l (pP v f r (Nat.sub (Nat.div k 2) 1))))):=rfl
theorem Lt{U:Type}(v:Option U):∀(f:Nat) (t:T U) (k j:Nat),k<f->(pP v f t k).get j=if j=k then v else t.get j:=by
 intro f;induction f with
 |zero=>intro t k j h;omega
 |succ f ih=>
  intro t k j h;have hd:∀n:Nat,Nat.div n 2=n/2:=fun _=>rfl;have M:∀n:Nat,Nat.mod n 2=n%2:=fun _=>rfl;have Z:∀n:Nat,Nat.sub n 1=n-1:=fun _=>rfl;have K:∀n m:Nat,Nat.beq n m=decide (n=m):=fun n m=>by
   cases h:Nat.beq n m with
   |true=>have e:=gP h;simp[e]
   |false=>have e:=zq h;simp[e]
  rw[Ls];cases t with
  |e=>
   simp only[];by_cases o:k=0
   .subst o;simp only[K,ll,nZ,p7,tU];by_cases O:j=0<;>simp[O] ;cases decide (j.mod 2=1)<;>rfl
   .simp only[K,o,gA,zfR];by_cases J:Nat.mod k 2=1
    .simp only[J,ll,nZ,p7,K];by_cases F:j=0
     .subst F;simp[tU];omega
     .simp only[F,gA,zfR];by_cases z:Nat.mod j 2=1
      .simp only[z,ll,nZ];rw[ih _ _ _ (by rw[hd];omega)];rw[hd,hd,M]at *;by_cases e:j=k
       .subst e;simp
       .rw[ai ac,ai e];rfl
      .simp only[z,gA,zfR,tU];rw[ai (by rintro rfl;exact z J)]
    .simp only[J,gA,zfR,p7,K];by_cases F:j=0
     .subst F;simp[tU];omega
     .simp only[F,gA,zfR];by_cases z:Nat.mod j 2=1
      .simp only[z,ll,nZ,tU];rw[ai (by rintro rfl;exact J z)]
      .simp only[z,gA,zfR];rw[ih _ _ _ (by rw[hd,Z];omega)];rw[hd,hd,Z,Z];rw[M]at J z;by_cases e:j=k
       .subst e;simp
       .rw[ai ac,ai e];rfl
  |n u l r=>
   simp only[];by_cases o:k=0
   .subst o;simp only[K,ll,nZ,p7];by_cases O:j=0<;>simp[O]
   .simp only[K,o,gA,zfR];by_cases J:Nat.mod k 2=1
    .simp only[J,ll,nZ,p7,K];by_cases F:j=0
     .subst F;simp;omega
     .simp only[F,gA,zfR];by_cases z:Nat.mod j 2=1
      .simp only[z,ll,nZ];rw[ih _ _ _ (by rw[hd];omega)];rw[M]at J z;rw[hd,hd];by_cases e:j=k
       .subst e;simp
       .rw[ai ac,ai e]
      .simp only[z,gA,zfR];rw[ai (by rintro rfl;exact z J)]
    .simp only[J,gA,zfR,p7,K];by_cases F:j=0
     .subst F;simp;omega
     .simp only[F,gA,zfR];by_cases z:Nat.mod j 2=1
      .simp only[z,ll,nZ];rw[ai (by rintro rfl;exact J z)]
      .simp only[z,gA,zfR];rw[ih _ _ _ (by rw[hd,Z];omega)];rw[M]at J z;rw[hd,hd,Z,Z];by_cases e:j=k
       .subst e;simp
       .rw[ai ac,ai e]
theorem T.get_set{U:Type}(t:T U)(k j:Nat)(v:Option U):(t.set k v).get j=if j=k then v else t.get j:=Lt v (k+1) t k j ac
def wn:=@T.get_set
theorem Hp.get_set(h:Hp)(r j:Nat)(b:HB):(h.set r b).get j=if j=r then some b else h.get j:=wn _ _ _ _
def aW:=@Hp.get_set
theorem zff(h:Hp)(r j:Nat):(h.kill r).get j=if j=r then none else h.get j:=wn _ _ _ _
theorem zdq(h:Hp)(j:Nat)(b:HB):(h.alloc b).get j=if j=h.next then some b else h.get j:=wn _ _ _ _
@[simp] theorem zdQ (h:Hp) (r:Nat) (b:HB):(h.set r b).next=h.next:=rfl
@[simp] theorem zfY (h:Hp) (r:Nat):(h.kill r).next=h.next:=rfl
@[simp] theorem zdA (h:Hp) (b:HB):(h.alloc b).next=h.next+1:=rfl
theorem rR(E:ax)(d t:Nat)(v:AV):ax.at (T.set E d (some v)) t=if t=d then v else E.at t:=by
 unfold ax.at;rw[wn];split<;>rfl
theorem TR.put{N:Nat}{G:Gh}{E Z:ax}{a:Act}(h:TR N G E a){U:Option Tmp}{c:AV}{v:Value}(L:VR G c v)(Y:d9 N E U c=some Z):TR N G Z (a.put U v):=by
 cases U with
 |none=>simp[d9]at Y;subst Y;exact h
 |some d=>
  simp only[d9]at Y;split at Y
  .rename_i hd;simp only[aA]at Y;subst Y;have I:d<N:=by simpa [gQ]using hd
   refine⟨by simp[Act.put,h.size],fun t=>?_⟩;rw[rR];simp only[Act.put];by_cases e:t=d
   .subst e;rw[az rfl];simpa [Array.getD,h.size,I]using L
   .rw[ai e];have:=h.slots t;simpa [gR,pZ,Ne.symm e]using this
  .simp at Y
theorem lZ{w:World}{b o:Nat}{v:Value}(h:w.cell? ⟨b,o,none⟩=some v):b<w.heap.size:=World.block_lt_of_cell? w ⟨b,o,none⟩ h
theorem R.congr{B:Bs}{H H':Hp}{w:World}{G:Gh}(h:R B H w G)(J:H'.next=H.next)(I:∀r,(G.β r).isSome->H'.get r=H.get r):R B H' w G:=by
 have k:∀r p,G.β r=some p->H'.get r=H.get r:=fun r p hr=>I r (by simp[hr]);exact{
  base:=h.base
  dom:=fun r p hr=>by rw[J];exact h.dom r p hr
  lt:=h.lt
  cells:=fun r b o x Y imm K hr hc=>h.cells r b o x Y imm K hr jl
  imm:=fun r b o x Y imm K hr hc=>h.imm r b o x Y imm K hr jl
  ext:=fun r b o x Y imm K hr hc=>h.ext r b o x Y imm K hr jl
  fits:=fun r b o x Y imm K hr hc=>h.fits r b o x Y imm K hr jl
  room:=fun r b o x Y imm K hr hc=>h.room r b o x Y imm K hr jl
  apart:=fun r b o x Y imm K A m V U L Z g hr hc M O=>h.apart r b o x Y imm K A m V U L Z g hr jl M (by rw[<-k A _ M];exact O)
  map:=fun r b o x C hr hc=>h.map r b o x C hr jl
  mapApart:=fun r b o x C A m V U hr hc M F=>h.mapApart r b o x C A m V U hr jl M (by rw[<-k A _ M];exact F)
  frz:=h.frz
  val:=h.val
  sym:=h.sym}
theorem R.kill{B:Bs}{H:Hp}{w:World}{G:Gh}(h:R B H w G)(zdP:Nat):R B (H.kill zdP) w G:=by
 have k:∀j b,(H.kill zdP).get j=some b->H.get j=some b:=fun j b O=>by
  rw[zff]at O;split at O
  .simp at O
  .exact O
 exact{
  base:=h.base
  dom:=h.dom
  lt:=h.lt
  cells:=fun r b o x Y imm K hr hc=>h.cells r b o x Y imm K hr (k _ _ hc)
  imm:=fun r b o x Y imm K hr hc=>h.imm r b o x Y imm K hr (k _ _ hc)
  ext:=fun r b o x Y imm K hr hc=>h.ext r b o x Y imm K hr (k _ _ hc)
  fits:=fun r b o x Y imm K hr hc=>h.fits r b o x Y imm K hr (k _ _ hc)
  room:=fun r b o x Y imm K hr hc=>h.room r b o x Y imm K hr (k _ _ hc)
  apart:=fun r b o x Y imm K A m V U L Z g hr hc M J=>h.apart r b o x Y imm K A m V U L Z g hr (k _ _ hc) M (k _ _ J)
  map:=fun r b o x C hr hc=>h.map r b o x C hr (k _ _ hc)
  mapApart:=fun r b o x C A m V U hr hc M F=>h.mapApart r b o x C A m V U hr (k _ _ hc) M (by
   cases I:(H.kill zdP).get A with
   |none=>simp[I]at F
   |some b=>rw[k _ _ I];rfl)
  frz:=h.frz
  val:=h.val
  sym:=h.sym}
def Gh.add(G:Gh)(r:Nat)(p:Nat×Nat×Nat):Gh:={β:=fun k=>if k=r then some p else G.β k,F:=G.F,ρ:=G.ρ}
theorem zf9(G:Gh)(r:Nat)(p:Nat×Nat×Nat):(G.add r p).β r=some p:=by simp[Gh.add]
theorem zt{G:Gh}{r:Nat}{p:Nat×Nat×Nat}(h:∀q,G.β r=some q->False):Ext G (G.add r p):=
 ⟨fun k q j=>by
  simp only[Gh.add];split
  .rename_i e;subst e;exact(h q j).elim
  .exact j,fun _ _ _ h=>h,rfl⟩
theorem gC.mono{G i:Gh}{w:World}{b o:Nat}{cs:List AV}(e:Ext G i)(h:gC G w b o cs):gC i w b o cs:=
 fun j c O=>let ⟨v,Z,g⟩:=h j c O;⟨v,Z,g.mono e⟩
theorem nX.mono{G Z:Gh}{es:List (AV×AV)}{ms:List MapEntry}(e:Ext G Z)(h:nX G es ms):nX Z es ms:=
 ⟨h.1,fun i a b J z=>⟨(h.2 i a b J z).1.mono e,(h.2 i a b J z).2.mono e⟩⟩
theorem Da{B:Bs}{nx zdP:Nat}{X:Hp}{w:World}{G:Gh}(h:R B X w G){cs:List AV}{vs:List Value}(hno:∀q,G.β zdP=some q->False)(hlt0:zdP<X.next)(K:X.get zdP=some (.cells cs 0 true))(hnx:nx<=zdP)
 (hv:bW G cs vs) (L:List Value) (e:TypeId) :
 Step B nx G w X (w.alloc (.cells (vs++L).toArray e)) (G.add zdP (w.heap.size,0,vs.length+L.length)):=by
 have O:Ext G (G.add zdP (w.heap.size,0,vs.length+L.length)):=zt hno;have C:∀k m z,k<w.heap.size->m=k->(w.alloc (.cells (vs++L).toArray e)).cell? ⟨m,z,none⟩=w.cell? ⟨m,z,none⟩:=fun k m z hk hb=>World.cell?_alloc_lt _ _ _ (by simpa [hb]using hk);have g:∀j,(w.alloc (.cells (vs++L).toArray e)).cell? ⟨w.heap.size,j,none⟩=(vs++L)[j]?:=fun j=>by
  rw[World.cell?_alloc_new];simp
 have F:∀r p,(G.add zdP (w.heap.size,0,vs.length+L.length)).β r=some p->(r=zdP/\p=(w.heap.size,0,vs.length+L.length))\/(r≠zdP/\G.β r=some p):=fun r p hr=>by
  simp only[Gh.add]at hr;split at hr
  .rename_i e;exact .inl ⟨e,by simpa using hr.symm⟩
  .rename_i e;exact .inr ⟨e,hr⟩
 refine⟨?_,O,⟨rfl,rfl,rfl,aB,fun k hk _=>?_⟩,fun r b o x hr=>?_,fun r p hr=>(F r p hr).elim (fun e=>.inr (by rw[e.1];exact hnx)) (fun e=>.inl e.2),ac,fun _ _ _ h=>.inl h⟩
 .exact{
   base:=by have:=h.base;simp;omega
   dom:=fun r p hr=>by
    rcases F r p hr with⟨rfl,_⟩|⟨_,M⟩
    .exact hlt0
    .exact h.dom r p M
   lt:=fun r b o x hr=>by
    rcases F r _ hr with⟨rfl,hp⟩|⟨_,M⟩
    .simp only[fA]at hp;obtain⟨rfl,rfl,rfl⟩:=hp;exact⟨h.base,aB⟩
    .have:=h.lt r b o x M;exact⟨this.1,cf⟩
   cells:=fun r b o x V imm Z hr hc=>by
    rcases F r _ hr with⟨rfl,hp⟩|⟨Y,M⟩
    .simp only[fA]at hp;obtain⟨rfl,rfl,rfl⟩:=hp;rw[K]at hc;simp only[aA,HB.cells.injEq]at hc;obtain⟨rfl,rfl,rfl⟩:=hc;intro j c A;have U:j<cs.length:=(de.1 A).1;have hjv:j<vs.length:=by have:=hv.1;omega
     refine⟨vs[j],?_,(hv.2 j c _ A (aR hjv)).mono O⟩;rw[bC,g,fz hjv,aR hjv]
    .intro j c A;obtain⟨v,i,h2⟩:=h.cells r b o x V imm Z M hc j c A;exact⟨v,by rw[C _ _ _ (lZ i) rfl];exact i,h2.mono O⟩
   imm:=fun r b o x V imm Z hr hc j A U=>by
    rcases F r _ hr with⟨rfl,hp⟩|⟨Y,M⟩
    .rw[K]at hc;simp only[aA,HB.cells.injEq]at hc;obtain⟨rfl,rfl,rfl⟩:=hc;omega
    .exact h.imm r b o x V imm Z M hc j A U
   ext:=fun r b o x V imm Z hr hc=>by
    rcases F r _ hr with⟨rfl,hp⟩|⟨Y,M⟩
    .simp only[fA]at hp;obtain⟨rfl,rfl,rfl⟩:=hp;rw[K]at hc;simp only[aA,HB.cells.injEq]at hc;obtain⟨rfl,rfl,rfl⟩:=hc;have:=hv.1;simp only[zeJ];omega
    .exact h.ext r b o x V imm Z M hc
   fits:=fun r b o x V imm Z hr hc=>by
    rcases F r _ hr with⟨rfl,hp⟩|⟨Y,M⟩
    .simp only[fA]at hp;obtain⟨rfl,rfl,rfl⟩:=hp;rw[K]at hc;simp only[aA,HB.cells.injEq]at hc;obtain⟨rfl,rfl,rfl⟩:=hc;have:=hv.1;omega
    .exact h.fits r b o x V imm Z M hc
   room:=fun r b o x V imm Z hr hc j A U=>by
    rcases F r _ hr with⟨rfl,hp⟩|⟨Y,M⟩
    .simp only[fA]at hp;obtain⟨rfl,rfl,rfl⟩:=hp;rw[K]at hc;simp only[aA,HB.cells.injEq]at hc;obtain⟨rfl,rfl,rfl⟩:=hc;simp only[zeJ]at U;refine⟨⟨(vs++L)[j]' cf,?_⟩,?_,?_⟩
     .rw[bC,g,aR]
     .simp
     .cases hf:G.F w.heap.size (0+j)with
      |none=>exact hf
      |some v=>have:=lZ (h.frz _ _ _ hf);omega
    .obtain⟨⟨v,i⟩,h2,h3⟩:=h.room r b o x V imm Z M hc j A U;exact⟨⟨v,by rw[C _ _ _ (lZ i) rfl];exact i⟩,C8,h3⟩
   apart:=fun r b o x cs1 imm Z r' m z x' cs2 imm' tip' hr hc M hc' Y j j' A U hj' hjl' he=>by
    rcases F r _ hr with⟨rfl,hp⟩|⟨hn1,J⟩
    .simp only[fA]at hp;obtain⟨rfl,rfl,rfl⟩:=hp;rcases F r' _ M with⟨rfl,hp⟩|⟨hn2,I⟩
     .exact(Y rfl).elim
     .have:=(h.lt r' m z x' I).2;omega
    .rcases F r' _ M with⟨rfl,hp⟩|⟨hn2,I⟩
     .simp only[fA]at hp;obtain⟨rfl,rfl,rfl⟩:=hp;have:=(h.lt r b o x J).2;omega
     .exact h.apart r b o x cs1 imm Z r' m z x' cs2 imm' tip' J hc I hc' Y j j' A U hj' hjl' he
   map:=fun r b o x es hr hc=>by
    rcases F r _ hr with⟨rfl,hp⟩|⟨Y,M⟩
    .rw[K]at hc;simp at hc
    .obtain⟨ms,clock,i,h2⟩:=h.map r b o x es M hc;refine⟨ms,clock,?_,h2.mono O⟩;rw[wl _ _ _ (h.lt r b o x M).2];exact i
   mapApart:=fun r b o x es r' m z x' hr hc M hs Y=>by
    rcases F r _ hr with⟨rfl,hp⟩|⟨hn1,J⟩
    .rw[K]at hc;simp at hc
    .rcases F r' _ M with⟨rfl,hp⟩|⟨hn2,I⟩
     .simp only[fA]at hp;obtain⟨rfl,rfl,rfl⟩:=hp;have:=(h.lt r b o x J).2;omega
     .exact h.mapApart r b o x es r' m z x' J hc I hs Y
   frz:=fun b o v hf=>by
    have:=h.frz b o v hf;rw[C _ _ _ (lZ this) rfl];exact this
   val:=h.val
   sym:=h.sym}
 .exact wl _ _ _ hk
 .rcases F r _ hr with⟨rfl,hp⟩|⟨_,M⟩
  .simp only[fA]at hp;obtain⟨rfl,rfl,rfl⟩:=hp;exact .inr (.inl (aM _))
  .exact .inl M
theorem Db{B:Bs}{nx zdP:Nat}{X:Hp}{w:World}{G:Gh}(h:R B X w G)(hno:∀q,G.β zdP=some q->False)(hlt0:zdP<X.next)(K:X.get zdP=some (.map []))(hnx:nx<=zdP):
 Step B nx G w X (w.alloc (.map #[] 0)) (G.add zdP (w.heap.size,0,0)):=by
 have U:Ext G (G.add zdP (w.heap.size,0,0)):=zt hno;have J:∀k m C,k<w.heap.size->m=k->(w.alloc (.map #[] 0)).cell? ⟨m,C,none⟩=w.cell? ⟨m,C,none⟩:=fun k m C hk hb=>World.cell?_alloc_lt _ _ _ (by simpa [hb]using hk);have F:∀r p,(G.add zdP (w.heap.size,0,0)).β r=some p->(r=zdP/\p=(w.heap.size,0,0))\/(r≠zdP/\G.β r=some p):=fun r p hr=>by
  simp only[Gh.add]at hr;split at hr
  .rename_i e;exact .inl ⟨e,by simpa using hr.symm⟩
  .rename_i e;exact .inr ⟨e,hr⟩
 refine⟨?_,U,⟨rfl,rfl,rfl,aB,fun k hk _=>?_⟩,fun r b o x hr=>?_,fun r p hr=>(F r p hr).elim (fun e=>.inr (by rw[e.1];exact hnx)) (fun e=>.inl e.2),ac,fun _ _ _ h=>.inl h⟩
 .exact{
   base:=by have:=h.base;simp;omega
   dom:=fun r p hr=>by
    rcases F r p hr with⟨rfl,_⟩|⟨_,M⟩
    .exact hlt0
    .exact h.dom r p M
   lt:=fun r b o x hr=>by
    rcases F r _ hr with⟨rfl,hp⟩|⟨_,M⟩
    .simp only[fA]at hp;obtain⟨rfl,rfl,rfl⟩:=hp;exact⟨h.base,aB⟩
    .have:=h.lt r b o x M;exact⟨this.1,cf⟩
   cells:=fun r b o x L imm Z hr hc=>by
    rcases F r _ hr with⟨rfl,hp⟩|⟨Y,M⟩
    .rw[K]at hc;simp at hc
    .intro j c A;obtain⟨v,i,h2⟩:=h.cells r b o x L imm Z M hc j c A;exact⟨v,by rw[J _ _ _ (lZ i) rfl];exact i,h2.mono U⟩
   imm:=fun r b o x L imm Z hr hc j A V=>by
    rcases F r _ hr with⟨rfl,hp⟩|⟨Y,M⟩
    .rw[K]at hc;simp at hc
    .exact h.imm r b o x L imm Z M hc j A V
   ext:=fun r b o x L imm Z hr hc=>by
    rcases F r _ hr with⟨rfl,hp⟩|⟨Y,M⟩
    .rw[K]at hc;simp at hc
    .exact h.ext r b o x L imm Z M hc
   fits:=fun r b o x L imm Z hr hc=>by
    rcases F r _ hr with⟨rfl,hp⟩|⟨Y,M⟩
    .rw[K]at hc;simp at hc
    .exact h.fits r b o x L imm Z M hc
   room:=fun r b o x L imm Z hr hc j A V=>by
    rcases F r _ hr with⟨rfl,hp⟩|⟨Y,M⟩
    .rw[K]at hc;simp at hc
    .obtain⟨⟨v,i⟩,h2,h3⟩:=h.room r b o x L imm Z M hc j A V;exact⟨⟨v,by rw[J _ _ _ (lZ i) rfl];exact i⟩,C8,h3⟩
   apart:=fun r b o x cs1 imm Z z m C x' cs2 imm' tip' hr hc M g Y j j' A V hj' hjl' he=>by
    rcases F r _ hr with⟨rfl,hp⟩|⟨hn1,I⟩
    .rw[K]at hc;simp at hc
    .rcases F z _ M with⟨rfl,hp⟩|⟨hn2,O⟩
     .rw[K]at g;simp at g
     .exact h.apart r b o x cs1 imm Z z m C x' cs2 imm' tip' I hc O g Y j j' A V hj' hjl' he
   map:=fun r b o x es hr hc=>by
    rcases F r _ hr with⟨rfl,hp⟩|⟨Y,M⟩
    .simp only[fA]at hp;obtain⟨rfl,rfl,rfl⟩:=hp;rw[K]at hc;simp only[aA,HB.map.injEq]at hc;subst hc;exact⟨#[],0,by show(w.heap.push _)[w.heap.size]?=_;simp,rfl,aB⟩
    .obtain⟨ms,clock,i,h2⟩:=h.map r b o x es M hc;refine⟨ms,clock,?_,h2.mono U⟩;rw[wl _ _ _ (h.lt r b o x M).2];exact i
   mapApart:=fun r b o x es z m C x' hr hc M hs Y=>by
    rcases F r _ hr with⟨rfl,hp⟩|⟨hn1,I⟩
    .simp only[fA]at hp;obtain⟨rfl,rfl,rfl⟩:=hp;rcases F z _ M with⟨rfl,hp⟩|⟨hn2,O⟩
     .exact(Y rfl).elim
     .have:=(h.lt z m C x' O).2;omega
    .rcases F z _ M with⟨rfl,hp⟩|⟨hn2,O⟩
     .simp only[fA]at hp;obtain⟨rfl,rfl,rfl⟩:=hp;have:=(h.lt r b o x I).2;omega
     .exact h.mapApart r b o x es z m C x' I hc O hs Y
   frz:=fun b o v hf=>by
    have:=h.frz b o v hf;rw[J _ _ _ (lZ this) rfl];exact this
   val:=h.val
   sym:=h.sym}
 .exact wl _ _ _ hk
 .rcases F r _ hr with⟨rfl,hp⟩|⟨_,M⟩
  .simp only[fA]at hp;obtain⟨rfl,rfl,rfl⟩:=hp;exact .inr (.inl (aM _))
  .exact .inl M
theorem R.more{B:Bs}{H X:Hp}{w:World}{G:Gh}(h:R B H w G)(J:H.next<=X.next)(I:∀r,r<H.next->X.get r=H.get r):R B X w G:=by
 have k:∀r p,G.β r=some p->X.get r=H.get r:=fun r p hr=>I r (h.dom r p hr);exact{
  base:=h.base
  dom:=fun r p hr=>gz (h.dom r p hr) J
  lt:=h.lt
  cells:=fun r b o x Y imm K hr hc=>h.cells r b o x Y imm K hr jl
  imm:=fun r b o x Y imm K hr hc=>h.imm r b o x Y imm K hr jl
  ext:=fun r b o x Y imm K hr hc=>h.ext r b o x Y imm K hr jl
  fits:=fun r b o x Y imm K hr hc=>h.fits r b o x Y imm K hr jl
  room:=fun r b o x Y imm K hr hc=>h.room r b o x Y imm K hr jl
  apart:=fun r b o x Y imm K A m V U L Z g hr hc M O=>h.apart r b o x Y imm K A m V U L Z g hr jl M (by rw[<-k A _ M];exact O)
  map:=fun r b o x C hr hc=>h.map r b o x C hr jl
  mapApart:=fun r b o x C A m V U hr hc M F=>h.mapApart r b o x C A m V U hr jl M (by rw[<-k A _ M];exact F)
  frz:=h.frz
  val:=h.val
  sym:=h.sym}
theorem R.alloc{B:Bs}{H:Hp}{w:World}{G:Gh}(h:R B H w G)(U:HB):R B (H.alloc U) w G:=
 h.more (fQ _) (fun r hr=>fy)
theorem wo{B:Bs}{H:Hp}{w:World}{G:Gh}(h:R B H w G){cs:List AV}{vs:List Value}(Z:bW G cs vs)(L:List Value)(e:TypeId):
 Step B H.next G w (H.alloc (.cells cs 0 true)) (w.alloc (.cells (vs++L).toArray e)) (G.add H.next (w.heap.size,0,vs.length+L.length)):=
 Da (h.alloc _) (fun q F=>zo) aB gO (aM _) Z L e
theorem Lu{B:Bs}{H:Hp}{w:World}{G:Gh}(h:R B H w G):
 Step B H.next G w (H.alloc (.map [])) (w.alloc (.map #[] 0)) (G.add H.next (w.heap.size,0,0)):=
 Db (h.alloc _) (fun q F=>zo) aB gO (aM _)
inductive Made (G:Gh):HB->Obj->Nat->Prop
 |cells (cs:List AV) (vs spare:List Value) (e:TypeId) (hv:bW G cs vs):Made G (.cells cs 0 true) (.cells (vs++spare).toArray e) (vs.length+spare.length)
 |map:Made G (.map []) (.map #[] 0) 0
theorem Dc{B:Bs}{Y zdP:Nat}{X:Hp}{w:World}{G:Gh}{U:HB}{o:Obj}{ext:Nat}(h:R B X w G)(m:∀q,G.β zdP=some q->False)(J:zdP<X.next)(C:X.get zdP=some U)(Z:Y<=zdP)(M:Made G U o ext):
 Step B Y G w X (w.alloc o) (G.add zdP (w.heap.size,0,ext)):=by
 cases M with
 |cells O vs L e V=>exact Da h m J C Z V L e
 |map=>exact Db h m J C Z
def l3(P:Program)(G:Gh)(w:World){Z:Type}(s:Sem Z)(f:Value->Z)(c:AV)(H H':Hp):Prop:=
 ∃U o ext v,H'=H.alloc U/\s.run P w=.ok (f v) (w.alloc o)/\Made G U o ext/\∀i:Gh,i.β H.next=some (w.heap.size,0,ext)->VR i c v
theorem l3.sim{P:Program}{B:Bs}{H H':Hp}{w:World}{G:Gh}(h:R B H w G){s:Sem Value}{c:AV}(M:l3 P G w s id c H H'):∃v Z i,s.run P w=.ok v Z/\VR i c v/\Step B H.next G w H' Z i:=by
 obtain⟨U,o,ext,v,rfl,Y,g,V⟩:=M;exact⟨v,_,_,Y,V _ (zf9 _ _ _),Dc (h.alloc _) (fun q F=>zo) aB gO (aM _) g⟩
theorem l3.next{P:Program}{H H':Hp}{w:World}{G:Gh}{s:Sem Value}{c:AV}(M:l3 P G w s id c H H'):l3 P G w (do pure (.value (<-s)):Sem Next) Next.value c H H':=by
 obtain⟨U,o,ext,v,A,i,g,Z⟩:=M;exact⟨U,o,ext,v,A,by simp[i],g,Z⟩
theorem Lw{b o m Z:Nat}(h:b=m->o≠Z):(⟨b,o,none⟩:Addr)≠⟨m,Z,none⟩:=fun e=>by
 simp only[Addr.mk.injEq]at e;exact h e.1 e.2.1
theorem Ly{B:Bs}{H:Hp}{w:World}{G:Gh}(h:R B H w G){r b o x:Nat}{cs cs':List AV}{imm:Nat}{tip:Bool}(hr:G.β r=some (b,o,x))(hc:H.get r=some (.cells cs imm tip))
 {j:Nat} (hj:imm<=j) (hjl:j<zeJ x cs tip) {v:Value}
 (hcs:∀(i:Nat) c,cs'[i]?=some c->(i=j/\VR G c v)\/(i≠j/\cs[i]?=some c)) (hl:cs'.length<=zeJ x cs tip) (hl':tip=false->cs'.length=cs.length) :
 Step B H.next G w (H.set r (.cells cs' imm tip)) (w.setCell ⟨b,o+j,none⟩ v) G:=by
 obtain⟨⟨u,hu⟩,hfz,hF⟩:=h.room r b o x cs imm tip hr hc j hj hjl;have hsame:(w.setCell ⟨b,o+j,none⟩ v).cell? ⟨b,o+j,none⟩=some v:=World.cell?_setCell_same _ _ _ hu;have M:∀m z,(m=b->z≠o+j)->(w.setCell ⟨b,o+j,none⟩ v).cell? ⟨m,z,none⟩=w.cell? ⟨m,z,none⟩:=fun m z hne=>
  World.cell?_setCell_other _ _ _ _ (Lw fun e e'=>hne e.symm e'.symm)
 have I:zeJ x cs' tip=zeJ x cs tip:=by
  cases tip with
  |true=>rfl
  |false=>exact hl' rfl
 have Y:∀k,k≠r->(H.set r (.cells cs' imm tip)).get k=H.get k:=fun k hk=>by rw[aW,ai hk]
 have L:(H.set r (.cells cs' imm tip)).get r=some (.cells cs' imm tip):=ik;have hkeep:∀m z v',G.F m z=some v'->(m=b->z≠o+j):=fun m z v' hf e e'=>by subst e;subst e';rw[hF]at hf;simp at hf
 have hcell:∀m z,(∃v',w.cell? ⟨m,z,none⟩=some v')->∃v',(w.setCell ⟨b,o+j,none⟩ v).cell? ⟨m,z,none⟩=some v':=fun m z ⟨v',hv'⟩=>by
  by_cases e:m=b/\z=o+j
  .obtain⟨rfl,rfl⟩:=e;exact⟨v,hsame⟩
  .exact⟨v',by rw[M m z (fun e1 e2=>e ⟨e1,e2⟩)];exact hv'⟩
 refine⟨?_,rQ _,⟨rfl,rfl,rfl,aB,fun k hk hn=>?_⟩,p6 _ _,fun _ _ h=>.inl h,aM _,fun _ _ _ h=>.inl h⟩
 .exact{
   base:=by have:=h.base;simpa using this
   dom:=h.dom
   lt:=fun r b o x hr=>by have:=h.lt r b o x hr;simpa using this
   cells:=fun zdu J g F Z O U K V=>by
    by_cases e:zdu=r
    .subst e;rw[hr]at K;simp only[cr]at K;obtain⟨rfl,rfl,rfl⟩:=K;rw[L]at V;simp only[aA,HB.cells.injEq]at V;obtain⟨rfl,rfl,rfl⟩:=V;intro i c hi;rcases hcs i c hi with⟨rfl,hv⟩|⟨hne,hi'⟩
     .exact⟨v,hsame,hv⟩
     .obtain⟨v',h1,h2⟩:=h.cells zdu b o x cs imm tip hr hc i c hi';exact⟨v',by rw[M _ _ (fun _=>ac)];exact h1,h2⟩
    .rw[Y zdu e]at V;intro i c hi;obtain⟨v',h1,h2⟩:=h.cells zdu J g F Z O U K V i c hi;refine⟨v',?_,h2⟩;rw[M]
     .exact h1
     .have C:i<Z.length:=(de.1 hi).1;have hex:=h.ext zdu J g F Z O U K V;by_cases hi1:O<=i
      .exact h.apart zdu J g F Z O U r b o x cs imm tip K V hr hc e i j hi1 ac hj hjl
      .obtain⟨u',hu'⟩:=h.imm zdu J g F Z O U K V i ac C;exact hkeep _ _ _ hu'
   imm:=fun zdu J g F Z O U K V i hi C=>by
    by_cases e:zdu=r
    .subst e;rw[hr]at K;simp only[cr]at K;obtain⟨rfl,rfl,rfl⟩:=K;rw[L]at V;simp only[aA,HB.cells.injEq]at V;obtain⟨rfl,rfl,rfl⟩:=V;rcases hcs i _ (aR C)with⟨rfl,_⟩|⟨_,hi'⟩
     .omega
     .exact h.imm zdu b o x cs imm tip hr hc i hi (de.1 hi').1
    .rw[Y zdu e]at V;exact h.imm zdu J g F Z O U K V i hi C
   ext:=fun zdu J g F Z O U K V=>by
    by_cases e:zdu=r
    .subst e;rw[hr]at K;simp only[cr]at K;obtain⟨rfl,rfl,rfl⟩:=K;rw[L]at V;simp only[aA,HB.cells.injEq]at V;obtain⟨rfl,rfl,rfl⟩:=V;rw[I];exact hl
    .rw[Y zdu e]at V;exact h.ext zdu J g F Z O U K V
   fits:=fun zdu J g F Z O U K V=>by
    by_cases e:zdu=r
    .subst e;rw[hr]at K;simp only[cr]at K;obtain⟨rfl,rfl,rfl⟩:=K;rw[L]at V;simp only[aA,HB.cells.injEq]at V;obtain⟨rfl,rfl,rfl⟩:=V;rcases Bool.eq_false_or_eq_true tip with e1|e1
     .subst e1;exact hl
     .rw[hl' e1];exact h.fits _ _ _ _ _ _ _ hr hc
    .rw[Y zdu e]at V;exact h.fits zdu J g F Z O U K V
   room:=fun zdu J g F Z O U K V i hi C=>by
    by_cases e:zdu=r
    .subst e;rw[hr]at K;simp only[cr]at K;obtain⟨rfl,rfl,rfl⟩:=K;rw[L]at V;simp only[aA,HB.cells.injEq]at V;obtain⟨rfl,rfl,rfl⟩:=V;rw[I]at C;obtain⟨h1,h2,h3⟩:=h.room zdu b o x cs imm tip hr hc i hi C;exact⟨hcell _ _ h1,by rw[World.frozen?_setCell];exact h2,h3⟩
    .rw[Y zdu e]at V;obtain⟨h1,h2,h3⟩:=h.room zdu J g F Z O U K V i hi C;exact⟨hcell _ _ h1,by rw[World.frozen?_setCell];exact h2,h3⟩
   apart:=fun zdu J g F Z O U r2 b2 o2 x2 cs2 imm2 tip2 K V hr2 hc2 hne i i' hi C hi' hil'=>by
    have key:∀k bk ok xk csk immk A,G.β k=some (bk,ok,xk)->(H.set r (.cells cs' imm tip)).get k=some (.cells csk immk A) ->
     ∃cs0,H.get k=some (.cells cs0 immk A)/\zeJ xk cs0 A=zeJ xk csk A:=fun k bk ok xk csk immk A hk hck=>by
     by_cases e:k=r
     .subst e;rw[hr]at hk;simp only[cr]at hk;obtain⟨rfl,rfl,rfl⟩:=hk;rw[L]at hck;simp only[aA,HB.cells.injEq]at hck;obtain⟨rfl,rfl,rfl⟩:=hck;exact⟨cs,hc,I.symm⟩
     .rw[Y k e]at hck;exact⟨csk,hck,rfl⟩
    obtain⟨c1,g1,e1⟩:=key zdu J g F Z O U K V;obtain⟨c2,g2,e2⟩:=key r2 b2 o2 x2 cs2 imm2 tip2 hr2 hc2;exact h.apart zdu J g F c1 O U r2 b2 o2 x2 c2 imm2 tip2 K g1 hr2 g2 hne i i' hi ac hi' ac
   map:=fun zdu J g F es K V=>by
    by_cases e:zdu=r
    .subst e;rw[L]at V;simp at V
    .rw[Y zdu e]at V;obtain⟨ms,clock,h1,h2⟩:=h.map zdu J g F es K V;refine⟨ms,clock,?_,h2⟩;have hb:J≠b:=fun eb=>by
      subst eb;unfold World.cell? at hu;rw[h1]at hu;simp at hu
     rw[Below.heap_setCell _ _ _ _ hb];exact h1
   mapApart:=fun zdu J g F es r2 b2 o2 x2 K V hr2 hs hne=>by
    by_cases e:zdu=r
    .subst e;rw[L]at V;simp at V
    .rw[Y zdu e]at V;refine h.mapApart zdu J g F es r2 b2 o2 x2 K V hr2 ?_ hne;by_cases e2:r2=r
     .subst e2;rw[hc];rfl
     .rw[Y r2 e2]at hs;exact hs
   frz:=fun m z v' hf=>by rw[M _ _ (hkeep _ _ _ hf)];exact h.frz _ _ _ hf
   val:=h.val
   sym:=h.sym}
 .exact Below.heap_setCell _ _ _ _ (fun e=>hn r b o x hr e.symm)
theorem Lz{B:Bs}{H:Hp}{w:World}{G:Gh}(P:Program)(h:R B H w G){r b o x:Nat}{cs:List AV}{imm:Nat}{tip:Bool}(hr:G.β r=some (b,o,x))(O:H.get r=some (.cells cs imm tip))
 {j:Nat} (Z:imm<=j) (L:j<zeJ x cs tip) {v:Value} (U:v.oneCell'=true) :
 (store ⟨b,o+j,none⟩ v).run P w=.ok () (w.setCell ⟨b,o+j,none⟩ v):=by
 obtain⟨⟨u,Y⟩,K,_⟩:=h.room r b o x cs imm tip hr O j Z L;rw[run_store P w _ v _ U,Y];simp[K]
theorem LA(cs:List AV)(off:Nat)(c:AV)(o:List AV)(h:off<=cs.length):splice cs off (c::o)=splice (splice cs off [c]) (off+1) o:=by
 unfold splice;have i:(List.take off cs++[c]++List.drop (off+[c].length) cs).take (off+1)=List.take off cs++[c]:=by
  rw[zr cf,eJ cf]
 have g:(List.take off cs++[c]++List.drop (off+[c].length) cs).drop (off+1+o.length)=List.drop (off+(o.length+1)) cs:=by
  rw[List.drop_append,zs cf];simp only[ep,iX,dq,jF,wm,lX]
  congr 1
  omega
 rw[i,g];simp
theorem LB(cs:List AV)(off:Nat):splice cs off []=cs:=by simp[splice]
theorem LC(cs:List AV)(off:Nat)(o:List AV)(h:off+o.length<=cs.length):(splice cs off o).length=cs.length:=by simp[splice];omega
theorem LD(cs:List AV)(off:Nat)(o:List AV)(h:off<=cs.length):(splice cs off o).length=max cs.length (off+o.length):=by simp[splice];omega
theorem Dd(cs o:List AV):splice cs cs.length o=cs++o:=by simp[splice]
theorem splice_one{cs:List AV}{j:Nat}(c:AV)(Z:j<=cs.length){i:Nat}{d:AV}(h:(splice cs j [c])[i]?=some d):(i=j/\d=c)\/(i≠j/\cs[i]?=some d):=by
 unfold splice at h;by_cases A:i<j
 .rw[gB,fz cf,mQ,az A]at h;exact .inr ⟨ac,h⟩
 .by_cases e:i=j
  .subst e;rw[gB,fZ cf]at h;have O:i-(List.take i cs).length=0:=cf;rw[O]at h;simp at h;exact .inl ⟨rfl,h.symm⟩
  .rw[fZ cf]at h;rw[nW]at h;refine .inr ⟨e,?_⟩;rw[<-h]
   congr 1
   simp;omega
theorem zfU(b o i:Nat):(⟨b,o,none⟩:Addr).add i=⟨b,o+i,none⟩:=by
 unfold Addr.add;split
 .rename_i e;subst e;rfl
 .rfl
theorem Step.congr{B:Bs}{Y:Nat}{G i:Gh}{w w':World}{H H':Hp}(h:Step B Y G w H w' i)(m:H'.next=H.next)(C:∀r,(i.β r).isSome->H'.get r=H.get r):Step B Y G w H' w' i:=
 ⟨h.r.congr m C,h.ext,h.fr,h.new,h.low,by rw[m];exact h.mono,h.icy⟩
theorem zu{B:Bs}(P:Program){G:Gh}{r b o x:Nat}{imm:Nat}{tip:Bool}(hr:G.β r=some (b,o,x))(off:Nat):∀(V:List AV) (vs:List Value) (Y:List AV) (i:Nat) (H:Hp) (w:World),R B H w G ->
 H.get r=some (.cells Y imm tip)->bW G V vs->(∀v∈vs,v.oneCell'=true)->imm<=off+i->off+i<=Y.length->off+i+V.length<=zeJ x Y tip->(tip=false->off+i+V.length<=Y.length) ->
 ∃I,(storeCells ⟨b,o+off,none⟩ vs i).run P w=.ok () I/\Step B H.next G w (H.set r (.cells (splice Y (off+i) V) imm tip)) I G:=by
 intro V;induction V with
 |nil=>
  intro vs Y i H w K hc F O m U g _;have L:vs=[]:=by have:=F.1;simpa using this.symm
  subst L;refine⟨w,rfl,(jm K).congr rfl fun k _=>?_⟩;rw[aW,LB];split
  .rename_i e;subst e;rw[hc]
  .rfl
 |cons c V ih=>
  intro vs Y i H w K hc F O m U g Z;cases vs with
  |nil=>have:=F.1;simp at this
  |cons v vs=>
   obtain⟨hv1,L⟩:=F.of_cons;simp only[dq]at g Z;have z:(splice Y (off+i) [c]).length=max Y.length (off+i+1):=LD _ _ _ U;have hext:=K.ext r b o x Y imm tip hr hc;have A:=Ly K hr hc (j:=off+i) (cs':=splice Y (off+i) [c]) (v:=v) m ac
    (fun k d hk=>by
      rcases splice_one c U hk with⟨e1,e2⟩|h2
      .subst e2;exact .inl ⟨e1,hv1⟩
      .exact .inr h2)
    (by rw[z];cases tip with
        |true=>simp only[zeJ]at *;omega
        |false=>have:=Z rfl;simp only[zeJ]at *;omega)
    (fun C=>by have:=Z C;rw[z];omega)
   have J:=Lz P K hr hc (j:=off+i) m ac (v:=v) (O v aB);have hg1:(H.set r (.cells (splice Y (off+i) [c]) imm tip)).get r=some (.cells (splice Y (off+i) [c]) imm tip):=ik;have M:zeJ x (splice Y (off+i) [c]) tip=zeJ x Y tip:=by
    cases tip with
    |true=>rfl
    |false=>have:=Z rfl;simp only[zeJ];omega
   obtain⟨I,hw',hs'⟩:=ih vs (splice Y (off+i) [c]) (i+1) _ _ A.r hg1 L (fun u hu=>O u (by simp[hu])) ac (by rw[z];omega) jE (fun C=>by have:=Z C;rw[z];omega);refine⟨I,?_,(A.trans hs').congr rfl fun k _=>?_⟩
   .simp only[storeCells,dO];rw[zfU,io,J];exact hw'
   .rw[aW,aW,aW,LA _ _ _ _ U];split
    .rfl
    .rfl
theorem De{B:Bs}{H:Hp}{w:World}{G:Gh}(h:R B H w G){r b o x:Nat}{cs:List AV}{imm:Nat}(hr:G.β r=some (b,o,x))(hc:H.get r=some (.cells cs imm true)){off:Nat}(hoff:off<=cs.length):
 Step B H.next G w ((H.kill r).alloc (.cells (cs.drop off) (imm-off) true)) w (G.add H.next (b,o+off,x-off)):=by
 have hno:∀q,G.β H.next=some q->False:=fun q hq=>by have:=h.dom _ _ hq;omega
 have hext:Ext G (G.add H.next (b,o+off,x-off)):=zt hno;have hrn:r≠H.next:=fun e=>by subst e;exact hno _ hr
 have F:∀k p,(G.add H.next (b,o+off,x-off)).β k=some p->(k=H.next/\p=(b,o+off,x-off))\/(k≠H.next/\G.β k=some p):=fun k p U=>by
  simp only[Gh.add]at U;split at U
  .rename_i e;exact .inl ⟨e,by simpa using U.symm⟩
  .rename_i e;exact .inr ⟨e,U⟩
 have Y:∀k q,k≠H.next->((H.kill r).alloc (.cells (cs.drop off) (imm-off) true)).get k=some q->k≠r/\H.get k=some q:=fun k q U hq=>by
  rw[zdq,zfY,ai U,zff]at hq;split at hq
  .simp at hq
  .rename_i e;exact⟨e,hq⟩
 have K:((H.kill r).alloc (.cells (cs.drop off) (imm-off) true)).get H.next=some (.cells (cs.drop off) (imm-off) true):=by rw[zdq,zfY,az rfl]
 have hlen:=h.ext r b o x cs imm true hr hc;simp only[zeJ]at hlen;refine⟨?_,hext,tS _ _,fun k m i x' U=>?_,fun k p U=>(F k p U).elim (fun e=>.inr (by rw[e.1];exact aM _)) (fun e=>.inl e.2),aB,fun _ _ _ h=>.inl h⟩
 .exact{
   base:=h.base
   dom:=fun k p U=>by
    rcases F k p U with⟨rfl,_⟩|⟨_,Z⟩
    .simp
    .have:=h.dom k p Z;simp;omega
   lt:=fun k m i x' U=>by
    rcases F k _ U with⟨rfl,hp⟩|⟨_,Z⟩
    .simp only[fA]at hp;obtain⟨rfl,rfl,rfl⟩:=hp;exact h.lt r _ _ _ hr
    .exact h.lt k m i x' Z
   cells:=fun k m i x' L V g U J=>by
    rcases F k _ U with⟨rfl,hp⟩|⟨M,Z⟩
    .simp only[fA]at hp;obtain⟨rfl,rfl,rfl⟩:=hp;rw[K]at J;simp only[aA,HB.cells.injEq]at J;obtain⟨rfl,rfl,rfl⟩:=J;intro j c hj;rw[nW]at hj;obtain⟨v,h1,h2⟩:=h.cells r _ _ _ _ _ _ hr hc (off+j) c hj;exact⟨v,by rw[io];exact h1,h2.mono hext⟩
    .obtain⟨_,A⟩:=Y k _ M J;exact(h.cells k m i x' L V g Z A).mono hext
   imm:=fun k m i x' L V g U J j hj hjl=>by
    rcases F k _ U with⟨rfl,hp⟩|⟨M,Z⟩
    .simp only[fA]at hp;obtain⟨rfl,rfl,rfl⟩:=hp;rw[K]at J;simp only[aA,HB.cells.injEq]at J;obtain⟨rfl,rfl,rfl⟩:=J;rw[iD]at hjl;rw[io];exact h.imm r _ _ _ _ _ _ hr hc (off+j) ac ac
    .obtain⟨_,A⟩:=Y k _ M J;exact h.imm k m i x' L V g Z A j hj hjl
   ext:=fun k m i x' L V g U J=>by
    rcases F k _ U with⟨rfl,hp⟩|⟨M,Z⟩
    .simp only[fA]at hp;obtain⟨rfl,rfl,rfl⟩:=hp;rw[K]at J;simp only[aA,HB.cells.injEq]at J;obtain⟨rfl,rfl,rfl⟩:=J;simp only[zeJ,iD];omega
    .obtain⟨_,A⟩:=Y k _ M J;exact h.ext k m i x' L V g Z A
   fits:=fun k m i x' L V g U J=>by
    rcases F k _ U with⟨rfl,hp⟩|⟨M,Z⟩
    .simp only[fA]at hp;obtain⟨rfl,rfl,rfl⟩:=hp;rw[K]at J;simp only[aA,HB.cells.injEq]at J;obtain⟨rfl,rfl,rfl⟩:=J;simp only[iD];omega
    .obtain⟨_,A⟩:=Y k _ M J;exact h.fits k m i x' L V g Z A
   room:=fun k m i x' L V g U J j hj hjl=>by
    rcases F k _ U with⟨rfl,hp⟩|⟨M,Z⟩
    .simp only[fA]at hp;obtain⟨rfl,rfl,rfl⟩:=hp;rw[K]at J;simp only[aA,HB.cells.injEq]at J;obtain⟨rfl,rfl,rfl⟩:=J;simp only[zeJ]at hjl;rw[io];exact h.room r _ _ _ _ _ _ hr hc (off+j) ac tR
    .obtain⟨_,A⟩:=Y k _ M J;exact h.room k m i x' L V g Z A j hj hjl
   apart:=fun zeb b1 o1 x1 cs1 imm1 tip1 k2 b2 o2 x2 cs2 imm2 tip2 hk1 O hk2 hc2 M j1 j2 hj1 hl1 hj2 hl2 he=>by
    rcases F zeb _ hk1 with⟨rfl,hp⟩|⟨hn1,C⟩
    .simp only[fA]at hp;obtain⟨rfl,rfl,rfl⟩:=hp;rw[K]at O;simp only[aA,HB.cells.injEq]at O;obtain⟨rfl,rfl,rfl⟩:=O;simp only[zeJ]at hl1;rcases F k2 _ hk2 with⟨rfl,hp⟩|⟨hn2,z⟩
     .exact(M rfl).elim
     .obtain⟨hr2,hc2'⟩:=Y k2 _ hn2 hc2;rw[io];exact h.apart r _ _ _ _ _ _ k2 b2 o2 x2 cs2 imm2 tip2 hr hc z hc2' (Ne.symm hr2) (off+j1) j2 ac tR hj2 hl2 he
    .obtain⟨hr1,I⟩:=Y zeb _ hn1 O;rcases F k2 _ hk2 with⟨rfl,hp⟩|⟨hn2,z⟩
     .simp only[fA]at hp;obtain⟨rfl,rfl,rfl⟩:=hp;rw[K]at hc2;simp only[aA,HB.cells.injEq]at hc2;obtain⟨rfl,rfl,rfl⟩:=hc2;simp only[zeJ]at hl2;rw[io];exact h.apart zeb b1 o1 x1 cs1 imm1 tip1 r _ _ _ _ _ _ C I hr hc hr1 j1 (off+j2) hj1 hl1 ac tR he
     .obtain⟨hr2,hc2'⟩:=Y k2 _ hn2 hc2;exact h.apart zeb b1 o1 x1 cs1 imm1 tip1 k2 b2 o2 x2 cs2 imm2 tip2 C I z hc2' M j1 j2 hj1 hl1 hj2 hl2 he
   map:=fun k m i x' es U J=>by
    rcases F k _ U with⟨rfl,hp⟩|⟨M,Z⟩
    .rw[K]at J;simp at J
    .obtain⟨_,A⟩:=Y k _ M J;obtain⟨ms,clock,h1,h2⟩:=h.map k m i x' es Z A;exact⟨ms,clock,h1,h2.mono hext⟩
   mapApart:=fun zeb b1 o1 x1 es k2 b2 o2 x2 hk1 O hk2 hs M=>by
    rcases F zeb _ hk1 with⟨rfl,hp⟩|⟨hn1,C⟩
    .rw[K]at O;simp at O
    .obtain⟨hr1,I⟩:=Y zeb _ hn1 O;rcases F k2 _ hk2 with⟨rfl,hp⟩|⟨hn2,z⟩
     .simp only[fA]at hp;obtain⟨rfl,rfl,rfl⟩:=hp;exact h.mapApart zeb b1 o1 x1 es r _ _ _ C I hr (by rw[hc];rfl) hr1
     .cases hh:((H.kill r).alloc (.cells (cs.drop off) (imm-off) true)).get k2 with
      |none=>simp[hh]at hs
      |some q=>
       obtain⟨_,hq⟩:=Y k2 q hn2 hh;exact h.mapApart zeb b1 o1 x1 es k2 b2 o2 x2 C I z (by rw[hq];rfl) M
   frz:=h.frz
   val:=h.val
   sym:=h.sym}
 .rcases F k _ U with⟨rfl,hp⟩|⟨_,Z⟩
  .simp only[fA]at hp;obtain⟨rfl,rfl,rfl⟩:=hp;exact .inr (.inr ⟨r,o,x,hr⟩)
  .exact .inl Z
def Gh.ice(G:Gh)(w:World)(b o n:Nat):Gh:={β:=G.β,F:=fun m Z=>match G.F m Z with
 |some v=>some v
 |none=>if m=b/\o<=Z/\Z<o+n then w.cell? ⟨m,Z,none⟩else none,ρ:=G.ρ}
theorem LF(G:Gh)(w:World)(b o n:Nat):Ext G (G.ice w b o n):=⟨fun _ _ h=>h,fun m Z v h=>by simp[Gh.ice,h],rfl⟩
theorem tV{B:Bs}{H:Hp}{w:World}{G:Gh}(h:R B H w G){r b o x:Nat}{cs:List AV}{imm:Nat}{tip:Bool}(hr:G.β r=some (b,o,x))(hc:H.get r=some (.cells cs imm tip)){n:Nat}(himm:imm<=n)(hn:n<=cs.length)(g:Bool)(ht:g=true->tip=true):
 Step B H.next G w (H.set r (.cells cs n g)) w (G.ice w b o n):=by
 have F:Ext G (G.ice w b o n):=LF _ _ _ _ _;have V:∀k,k≠r->(H.set r (.cells cs n g)).get k=H.get k:=fun k M=>by rw[aW,ai M]
 have L:(H.set r (.cells cs n g)).get r=some (.cells cs n g):=ik;have hex:=h.ext r b o x cs imm tip hr hc;have i:∀j,n<=j->j<zeJ x cs g->j<zeJ x cs tip:=fun j hj O=>by
  cases g with
  |true=>rw[ht rfl];exact O
  |false=>simp only[zeJ]at O;omega
 have hF:∀m Z v,(G.ice w b o n).F m Z=some v->w.cell? ⟨m,Z,none⟩=some v:=fun m Z v hf=>by
  simp only[Gh.ice]at hf;split at hf
  .rename_i u hu;simp only[aA]at hf;subst hf;exact h.frz _ _ _ hu
  .split at hf
   .exact hf
   .simp at hf
 have hFin:∀j,j<n->∃v,(G.ice w b o n).F b (o+j)=some v:=fun j hj=>by
  obtain⟨v,h1,_⟩:=h.cells r b o x cs imm tip hr hc j _ (aR ac);simp only[Gh.ice];split
  .rename_i u _;exact⟨u,rfl⟩
  .rw[az ⟨mP,ac,ac⟩];exact⟨v,h1⟩
 have hFout:∀m Z,G.F m Z=none->(m=b->Z<o\/o+n<=Z)->(G.ice w b o n).F m Z=none:=fun m Z hf hne=>by
  simp only[Gh.ice,hf];rw[ai];rintro⟨e1,e2,e3⟩;have:=hne e1;omega
 refine⟨?_,F,tS _ _,p6 _ _,fun _ _ h=>.inl h,aM _,fun m Z v' hv=>?_⟩;rotate_left
 .simp only[Gh.ice]at hv;split at hv
  .rename_i v'' hF';exact .inl (by rw[hF'];exact hv)
  .split at hv
   .rename_i hc';exact .inr (by rw[hc'.1];exact(h.lt r b o x hr).1)
   .simp at hv
 exact{
  base:=h.base
  dom:=h.dom
  lt:=h.lt
  cells:=fun k m Z I K Y U M J=>by
   by_cases e:k=r
   .subst e;have A:G.β k=some (m,Z,I):=M;rw[hr]at A;simp only[cr]at A;obtain⟨rfl,rfl,rfl⟩:=A;rw[L]at J;simp only[aA,HB.cells.injEq]at J;obtain⟨rfl,rfl,rfl⟩:=J;exact(h.cells k _ _ _ _ _ _ hr hc).mono F
   .rw[V k e]at J;exact(h.cells k m Z I K Y U M J).mono F
  imm:=fun k m Z I K Y U M J j hj O=>by
   by_cases e:k=r
   .subst e;have A:G.β k=some (m,Z,I):=M;rw[hr]at A;simp only[cr]at A;obtain⟨rfl,rfl,rfl⟩:=A;rw[L]at J;simp only[aA,HB.cells.injEq]at J;obtain⟨rfl,rfl,rfl⟩:=J;exact hFin j hj
   .rw[V k e]at J;obtain⟨v,hv⟩:=h.imm k m Z I K Y U M J j hj O;exact⟨v,F.F _ _ _ hv⟩
  ext:=fun k m Z I K Y U M J=>by
   by_cases e:k=r
   .subst e;have A:G.β k=some (m,Z,I):=M;rw[hr]at A;simp only[cr]at A;obtain⟨rfl,rfl,rfl⟩:=A;rw[L]at J;simp only[aA,HB.cells.injEq]at J;obtain⟨rfl,rfl,rfl⟩:=J;cases g with
    |true=>rw[ht rfl]at hex;exact hex
    |false=>exact aM _
   .rw[V k e]at J;exact h.ext k m Z I K Y U M J
  fits:=fun k m Z I K Y U M J=>by
   by_cases e:k=r
   .subst e;have A:G.β k=some (m,Z,I):=M;rw[hr]at A;simp only[cr]at A;obtain⟨rfl,rfl,rfl⟩:=A;rw[L]at J;simp only[aA,HB.cells.injEq]at J;obtain⟨rfl,rfl,rfl⟩:=J;exact h.fits _ _ _ _ _ _ _ hr hc
   .rw[V k e]at J;exact h.fits k m Z I K Y U M J
  room:=fun k m Z I K Y U M J j hj O=>by
   by_cases e:k=r
   .subst e;have A:G.β k=some (m,Z,I):=M;rw[hr]at A;simp only[cr]at A;obtain⟨rfl,rfl,rfl⟩:=A;rw[L]at J;simp only[aA,HB.cells.injEq]at J;obtain⟨rfl,rfl,rfl⟩:=J;have h1:=i j hj O;obtain⟨g1,g2,g3⟩:=h.room k _ _ _ _ _ _ hr hc j ac h1;exact⟨g1,g2,hFout _ _ g3 (fun _=>ac)⟩
   .rw[V k e]at J;obtain⟨g1,g2,g3⟩:=h.room k m Z I K Y U M J j hj O;refine⟨g1,g2,hFout _ _ g3 (fun eb=>?_)⟩;by_cases hin:o<=Z+j/\Z+j<o+n
    .exfalso;have hj0:Z+j-o<cs.length:=ac;have hj1:Z+j-o<zeJ x cs tip:=ac;by_cases hi:imm<=Z+j-o
     .exact h.apart k m Z I K Y U r b o x cs imm tip M J hr hc e j (Z+j-o) hj O hi hj1 eb ac
     .obtain⟨v,hv⟩:=h.imm r b o x cs imm tip hr hc (Z+j-o) ac hj0;rw[show o+(Z+j-o)=Z+j by omega,<-eb,g3]at hv;simp at hv
    .omega
  apart:=fun zeb b1 o1 x1 cs1 imm1 U k2 b2 o2 x2 cs2 imm2 tip2 hk1 hc1 hk2 hc2 hne j1 j2 hj1 hl1 hj2 hl2 he=>by
   have key:∀k bk ok xk csk C z j,G.β k=some (bk,ok,xk)->(H.set r (.cells cs n g)).get k=some (.cells csk C z)->C<=j->j<zeJ xk csk z ->
    ∃cs0 imm0 tip0,H.get k=some (.cells cs0 imm0 tip0)/\imm0<=j/\j<zeJ xk cs0 tip0:=fun k bk ok xk csk C z j M J hj O=>by
    by_cases e:k=r
    .subst e;have A:G.β k=some (bk,ok,xk):=M;rw[hr]at A;simp only[cr]at A;obtain⟨rfl,rfl,rfl⟩:=A;rw[L]at J;simp only[aA,HB.cells.injEq]at J;obtain⟨rfl,rfl,rfl⟩:=J;exact⟨cs,imm,tip,hc,ac,i j hj O⟩
    .rw[V k e]at J;exact⟨csk,C,z,J,hj,O⟩
   obtain⟨c1,i1,t1,g1,a1,l1⟩:=key zeb b1 o1 x1 cs1 imm1 U j1 hk1 hc1 hj1 hl1;obtain⟨c2,i2,t2,g2,zeU,l2⟩:=key k2 b2 o2 x2 cs2 imm2 tip2 j2 hk2 hc2 hj2 hl2;exact h.apart zeb b1 o1 x1 c1 i1 t1 k2 b2 o2 x2 c2 i2 t2 hk1 g1 hk2 g2 hne j1 j2 a1 l1 zeU l2 he
  map:=fun k m Z I es M J=>by
   by_cases e:k=r
   .subst e;rw[L]at J;simp at J
   .rw[V k e]at J;obtain⟨ms,clock,h1,h2⟩:=h.map k m Z I es M J;exact⟨ms,clock,h1,h2.mono F⟩
  mapApart:=fun zeb b1 o1 x1 es k2 b2 o2 x2 hk1 hc1 hk2 hs hne=>by
   by_cases e:zeb=r
   .subst e;rw[L]at hc1;simp at hc1
   .rw[V zeb e]at hc1;refine h.mapApart zeb b1 o1 x1 es k2 b2 o2 x2 hk1 hc1 hk2 ?_ hne;by_cases e2:k2=r
    .subst e2;rw[hc];rfl
    .rw[V k2 e2]at hs;exact hs
  frz:=hF
  val:=h.val
  sym:=h.sym}
theorem LG{B:Bs}{H:Hp}{w:World}{G:Gh}(h:R B H w G){r b o x:Nat}{cs:List AV}(hr:G.β r=some (b,o,x))(hx:cs.length<=x)(hc:gC G w b o cs)(hF:∀j,j<cs.length->∃v,G.F b (o+j)=some v)
 (hmap:∀zdu i o1 x1 es,G.β zdu=some (i,o1,x1)->H.get zdu=some (.map es)->i≠b) :
 Step B H.next G w (H.set r (.cells cs cs.length false)) w G:=by
 have Y:∀k,k≠r->(H.set r (.cells cs cs.length false)).get k=H.get k:=fun k V=>by rw[aW,ai V]
 have M:(H.set r (.cells cs cs.length false)).get r=some (.cells cs cs.length false):=ik;have z:∀k m O A,k=r->G.β k=some (m,O,A)->m=b/\O=o/\A=x:=fun k m O A e V=>by
  subst e;rw[hr]at V;simp only[cr]at V;exact⟨V.1.symm,V.2.1.symm,V.2.2.symm⟩
 have K:∀L Z g,(H.set r (.cells cs cs.length false)).get r=some (.cells L Z g)->L=cs/\Z=cs.length/\g=false:=fun L Z g V=>by
  rw[M]at V;simp only[aA,HB.cells.injEq]at V;exact⟨V.1.symm,V.2.1.symm,V.2.2.symm⟩
 refine⟨?_,rQ _,tS _ _,p6 _ _,fun _ _ h=>.inl h,aM _,fun _ _ _ h=>.inl h⟩;exact{
  base:=h.base
  dom:=h.dom
  lt:=h.lt
  cells:=fun k m O A L Z g V J=>by
   by_cases e:k=r
   .obtain⟨rfl,rfl,rfl⟩:=z k _ _ _ e V;subst e;obtain⟨rfl,rfl,rfl⟩:=K _ _ _ J;exact hc
   .rw[Y k e]at J;exact h.cells k m O A L Z g V J
  imm:=fun k m O A L Z g V J j hj I=>by
   by_cases e:k=r
   .obtain⟨rfl,rfl,rfl⟩:=z k _ _ _ e V;subst e;obtain⟨rfl,rfl,rfl⟩:=K _ _ _ J;exact hF j I
   .rw[Y k e]at J;exact h.imm k m O A L Z g V J j hj I
  ext:=fun k m O A L Z g V J=>by
   by_cases e:k=r
   .subst e;obtain⟨rfl,rfl,rfl⟩:=K _ _ _ J;exact aM _
   .rw[Y k e]at J;exact h.ext k m O A L Z g V J
  fits:=fun k m O A L Z g V J=>by
   by_cases e:k=r
   .subst e;obtain⟨rfl,rfl,rfl⟩:=K _ _ _ J;obtain⟨_,_,rfl⟩:=z _ _ _ _ rfl V;exact hx
   .rw[Y k e]at J;exact h.fits k m O A L Z g V J
  room:=fun k m O A L Z g V J j hj I=>by
   by_cases e:k=r
   .subst e;obtain⟨rfl,rfl,rfl⟩:=K _ _ _ J;simp only[zeJ]at I;omega
   .rw[Y k e]at J;exact h.room k m O A L Z g V J j hj I
  apart:=fun zeb i o1 x1 cs1 imm1 tip1 k2 b2 o2 x2 cs2 imm2 tip2 F U C hc2 hne j1 j2 hj1 hl1 hj2 hl2 he=>by
   by_cases e1:zeb=r
   .subst e1;obtain⟨rfl,rfl,rfl⟩:=K _ _ _ U;simp only[zeJ]at hl1;omega
   .by_cases e2:k2=r
    .subst e2;obtain⟨rfl,rfl,rfl⟩:=K _ _ _ hc2;simp only[zeJ]at hl2;omega
    .rw[Y zeb e1]at U;rw[Y k2 e2]at hc2;exact h.apart zeb i o1 x1 cs1 imm1 tip1 k2 b2 o2 x2 cs2 imm2 tip2 F U C hc2 hne j1 j2 hj1 hl1 hj2 hl2 he
  map:=fun k m O A es V J=>by
   by_cases e:k=r
   .subst e;rw[M]at J;simp at J
   .rw[Y k e]at J;exact h.map k m O A es V J
  mapApart:=fun zeb i o1 x1 es k2 b2 o2 x2 F U C hs hne=>by
   by_cases e:zeb=r
   .subst e;rw[M]at U;simp at U
   .rw[Y zeb e]at U;by_cases e2:k2=r
    .obtain⟨rfl,rfl,rfl⟩:=z k2 _ _ _ e2 C;exact hmap zeb i o1 x1 es F U
    .rw[Y k2 e2]at hs;exact h.mapApart zeb i o1 x1 es k2 b2 o2 x2 F U C hs hne
  frz:=h.frz
  val:=h.val
  sym:=h.sym}
def p8(P:Program)(B:Bs)(H:Hp)(G:Gh)(w:World)(s:Sem Next)(c:AV)(H':Hp):Prop:=
 ∃n Z i v,s.run P w=.ok n Z/\(n=.value v\/(n=.skip/\v=undef))/\VR i c v/\Step B H.next G w H' Z i
theorem Df{G:Gh}{v:Value}{c:AV}(h:tA v=some c):VR G c v:=by
 unfold tA at h;split at h<;>simp only[aA,reduceCtorEq]at h<;>subst h<;>constructor;rfl
theorem Dg{G:Gh}:∀{vs:List Value}{Y:List AV},vs.mapM tA=some Y->bW G Y vs
 |[],Y,h=>by simp at h;subst h;exact lY G
 |v::vs,Y,h=>by
  rw[List.mapM_cons]at h;simp only[Option.bind_eq_bind,cm,Option.pure_def,aA]at h;obtain⟨c,hc,L,M,rfl⟩:=h;exact jG (Df hc) (Dg M)
theorem rS{G:Gh}{v:Value}{c:AV}(h:rI v=some c):VR G c v:=by
 unfold rI at h;split at h
 .rename_i Y;simp only[mR]at h;obtain⟨l,F,rfl⟩:=h;have:=Dg (G:=G) F;exact .agg (vs:=Y.toList) this.1 this.2
 .exact Df h
theorem gC.list{G:Gh}{w:World}{b:Nat}:∀{cs:List AV}{o:Nat},gC G w b o cs->∃vs,bW G cs vs/\∀(j:Nat) v,vs[j]?=some v->w.cell? ⟨b,o+j,none⟩=some v
 |[],o,_=>⟨[],lY G,aB⟩
 |c::cs,o,h=>by
  obtain⟨v,i,g⟩:=h 0 c rfl;obtain⟨vs,zeb,k2⟩:=gC.list (cs:=cs) (o:=o+1) (fun j d O=>by
   obtain⟨u,V,Z⟩:=h (j+1) d wj;exact⟨u,by rw[show o+1+j=o+(j+1) by omega];exact V,Z⟩)
  refine⟨v::vs,jG g zeb,fun j u O=>?_⟩;cases j with
  |zero=>simp at O;subst O;exact i
  |succ j=>rw[show o+(j+1)=o+1+j by omega];exact k2 j u wj
theorem gC.drop{G:Gh}{w:World}{b o:Nat}{cs:List AV}(h:gC G w b o cs)(n:Nat):gC G w b (o+n) (cs.drop n):=fun j c O=>by
 rw[nW]at O;rw[io];exact h (n+j) c O
theorem gC.take{G:Gh}{w:World}{b o:Nat}{cs:List AV}(h:gC G w b o cs)(n:Nat):gC G w b o (cs.take n):=fun j c O=>by
 rw[mQ]at O;split at O
 .exact h j c O
 .simp at O
section
variable {P:Program} {w:World} {t:TypeId}
theorem zeA{d:TypeDesc}(h:P.underlying t=some d):(underlying t).run P w=.ok d w:=by simp[underlying,h]
theorem rT{i:TypeInfo}(h:P.info? t=some i):(typeInfo t).run P w=.ok i w:=by simp[typeInfo,h]
theorem Dh{s:Nat}(h:zdB P t=some s):∃i,P.info? t=some i/\i.size=s:=by simpa [zdB,mR]using h
theorem jo{s:Nat}(h:zdB P t=some s):(sizeOf t).run P w=.ok s w:=by
 obtain⟨i,Z,g⟩:=Dh h;simp[sizeOf,rT Z,g]
theorem Di{c:AV}(h:nR P t=some c):∃i v,P.info? t=some i/\i.zero=some v/\rI v=some c:=by
 unfold nR at h;split at h
 .rename_i x d s V Z hp al fa M g ms Y;exact⟨_,M,Y,rfl,h⟩
 .simp at h
theorem LH{c:AV}(h:nR P t=some c):∃v,(∀w,(zeroValue t).run P w=.ok v w)/\∀G,VR G c v:=by
 obtain⟨i,v,Z,g,o⟩:=Di h;exact⟨v,fun w=>by simp[zeroValue,rT Z,g],fun G=>rS o⟩
theorem zw{z:List AV}(h:zdZ P t=some z):∃i v c,P.info? t=some i/\i.zero=some v/\rI v=some c/\c.cells=z:=by
 unfold zdZ at h;split at h
 .rename_i c hc;simp only[aA]at h;obtain⟨i,v,Z,g,o⟩:=Di hc;exact⟨i,v,c,Z,g,o,h⟩
 .simp at h
theorem tW{z:List AV}(h:zdZ P t=some z):∃v,(∀w,(zeroValue t).run P w=.ok v w)/\∀G,bW G z v.cells.toList:=by
 obtain⟨i,v,c,Z,g,o,rfl⟩:=zw h;exact⟨v,fun w=>by simp[zeroValue,rT Z,g],fun G=>(rS o).cells⟩
def zx:TypeDesc->Bool
 | .struct _|.array _ _=>true
 |_=>false
theorem wq{d:TypeDesc}(h:P.underlying t=some d):(isAgg t).run P w=.ok (zx d) w:=by
 simp only[isAgg,dO,zeA h,dW];cases d<;>rfl
theorem Dj{cs:List AV}{off:Nat}{c:AV}(h:zdx P t cs off=some c):
 (∃d s,P.underlying t=some d/\zx d=true/\zdB P t=some s/\((cs.drop off).take s).length=s/\c=.agg ((cs.drop off).take s)) \/
 (∃d,P.underlying t=some d/\zx d=false/\cs[off]?=some c):=by
 unfold zdx at h;split at h
 .rename_i f hd;split at h
  .rename_i s K;simp only[]at h;split at h
   .rename_i F;simp only[aA]at h;exact .inl ⟨_,s,hd,rfl,K,F,h.symm⟩
   .simp at h
  .simp at h
 .rename_i n e hd;split at h
  .rename_i s K;simp only[]at h;split at h
   .rename_i F;simp only[aA]at h;exact .inl ⟨_,s,hd,rfl,K,F,h.symm⟩
   .simp at h
  .simp at h
 .rename_i d i g hd;refine .inr ⟨d,hd,?_,h⟩;cases d<;>first|rfl|exact(i _ rfl).elim|exact(g _ _ rfl).elim
 .simp at h
theorem Dk{G:Gh}{b o off:Nat}{cs:List AV}{c:AV}(Y:gC G w b o cs)(h:zdx P t cs off=some c):
 ∃v,(loadVar t ⟨b,o+off,none⟩).run P w=.ok v w/\VR G c v:=by
 rcases Dj h with⟨d,s,hd,J,K,F,rfl⟩|⟨d,hd,J,hc⟩
 .obtain⟨vs,i,Z⟩:=((Y.drop off).take s).list;refine⟨.agg vs.toArray,?_,.agg i.1 i.2⟩;simp only[loadVar,dO,wq hd,J,dW,bT,jo K];have g:vs.length=s:=by rw[<-i.1];exact F
  rw[<-g,run_loadCells_list _ _ vs (fun j v O=>by rw[zfU];exact Z j v O)];rfl
 .obtain⟨v,i,Z⟩:=Y off c hc;refine⟨v,?_,Z⟩;simp[loadVar,wq hd,J,i]
theorem wr{G:Gh}{off:Nat}{cs:List AV}{vs:List Value}{c:AV}(L:bW G cs vs)(h:zdx P t cs off=some c):
 ∃v,(part t vs.toArray off).run P w=.ok v w/\VR G c v:=by
 rcases Dj h with⟨d,s,hd,J,K,F,rfl⟩|⟨d,hd,J,hc⟩
 .have i:=(L.drop off).take s;refine⟨.agg ((vs.drop off).take s).toArray,?_,.agg i.1 i.2⟩;simp only[part,dO,wq hd,J,dW,bT,jo K,iE]
  congr 2
  apply lm;simp
 .have o:off<cs.length:=(de.1 hc).1;have C:off<vs.length:=by have:=L.1;omega
  refine⟨vs[off],?_,L.2 off c _ hc (aR C)⟩;simp[part,wq hd,J,C]
end
theorem rU{P:Program}{B:Bs}{G:Gh}{H:Hp}{w:World}(h:R B H w G){s:Sem Next}{c:AV}{v:Value}(hr:s.run P w=.ok (.value v) w)(L:VR G c v):p8 P B H G w s c H:=
 ⟨.value v,w,G,v,hr,.inl rfl,L,jm h⟩
theorem zfI{H H':Hp}{x:Option AV}{c:AV}(h:ret H x=some (c,H')):x=some c/\H'=H:=by
 cases x with
 |none=>simp[ret]at h
 |some v=>simp[ret]at h;exact⟨by rw[h.1],h.2.symm⟩
section
variable {P:Program} {B:Bs} {G:Gh} {H H':Hp} {w:World} (h:R B H w G) {c:AV}
include h
theorem Dl{t:TypeId}{a:AV}{U:Value}(J:VR G a U)(F:zeX P H t a=some c):∃v,(Instr.loadAt t U).run P w=.ok v w/\VR G c v:=by
 unfold zeX at F;split at F
 .rename_i r V;cases J with
  |ptr hr=>
   split at F
   .rename_i Y Z K hc;obtain⟨v,i,g⟩:=Dk (h.cells _ _ _ _ _ _ _ hr hc) F;exact⟨v,C9,g⟩
   .simp at F
 .rename_i Y;cases J with
  |iptr vs A L=>
   rename_i b o;have M:gC G w b o Y:=fun j d O=>⟨vs j,h.frz _ _ _ (A j (de.1 O).1),L j d O⟩;obtain⟨v,i,g⟩:=Dk M F;exact⟨v,C9,g⟩
 .simp at F
theorem LI{t:TypeId}{a x:AV}{C V:Value}(ha:VR G a C)(hx:VR G x V)(K:jA P H t a x=some H'):
 ∃L,(Instr.storeAt t C V).run P w=.ok () L/\Step B H.next G w H' L G:=by
 unfold jA at K;split at K
 .rename_i r J;cases ha with
  |ptr hr=>
   rename_i b o ex;split at K
   .rename_i z j I s hc F;split at K
    .rename_i Y;obtain⟨h1,h2,h3,h4⟩:=Y;simp only[aA]at K;subst K;have Z:=hx.cells;have g:V.cells.toList.length=s:=by rw[<-Z.1];exact h1
     have U:∀v∈V.cells.toList,v.oneCell'=true:=fun v hv=>by
      obtain⟨i,m,rfl⟩:=o0 hv;have O:i<x.cells.length:=by rw[Z.1];exact m
      rw[(Z.2 i _ _ (aR O) (aR m)).oneCell];exact gS.1 h4 _ (dr O)
     have hex:=h.ext r b o ex z j I hr hc;obtain⟨L,hw,A⟩:=zu P hr J x.cells V.cells.toList z 0 H w h hc Z U ac ac ac (fun _=>ac);refine⟨L,?_,oZ⟩;have M:V.cells.size=s:=by simpa using g
     simp only[Instr.storeAt,Instr.sureAddr,dO,iE,dW,storeVar,jo F,M];simpa using hw
    .simp at K
   .simp at K
 .simp at K
end
section
variable {P:Program} {B:Bs} {G:Gh} {H H':Hp} {w:World}
theorem LJ{t:TypeId}{a c:AV}{U:Value}{i:Nat}(J:VR G a U)(m:zdt P t a i=some c):∃v,(Instr.fieldAt t U i).run P w=.ok v w/\VR G c v:=by
 unfold zdt at m;split at m
 .rename_i F hd;split at m
  .rename_i f Y;split at m
   .rename_i s K;have O:∀b o,U=.pointer (some ⟨b,o,none⟩)->(Instr.fieldAt t U i).run P w=.ok (.pointer (some ⟨b,o+f.offset,none⟩)) w:=fun b o e=>by
     subst e;simp only[Instr.fieldAt,dO,zeA hd,dW];simp[Y,Instr.sureAddr,fieldPlace,jo K,zfU]
    split at m
    .rename_i r V;simp only[aA]at m;subst m;cases J with
     |ptr hr=>exact⟨_,O _ _ rfl,zp⟩
    .rename_i M;simp only[aA]at m;subst m;cases J with
     |iptr vs A L=>
      refine⟨_,O _ _ rfl,.iptr (fun j=>vs (f.offset+j)) (fun j Z=>?_) (fun j d Z=>?_)⟩
      .rw[iD]at Z;rw[io];exact A _ ac
      .rw[nW]at Z;exact L _ _ Z
    .simp at m
   .simp at m
  .simp at m
 .simp at m
theorem LK{t:TypeId}{a c:AV}{U:Value}{i:Nat}(J:VR G a U)(m:zdN P t a i=some c):∃v,(Instr.field t U i).run P w=.ok v w/\VR G c v:=by
 unfold zdN at m;split at m
 .rename_i F V hd;cases J with
  |agg Y L=>
   rename_i vs;split at m
   .rename_i f o;obtain⟨v,Z,g⟩:=wr (P:=P) (w:=w) ⟨Y,L⟩ m;refine⟨v,?_,g⟩;simp only[Instr.field,dO,zeA hd,dW];simp only[o,dO,asAgg,iE,dW];exact Z
   .simp at m
 .simp at m
theorem LL{t:TypeId}{a i c:AV}{I F:Value}(J:VR G a I)(A:VR G i F)(m:zdV P t a i=some c):∃v,(Instr.indexAt t I F).run P w=.ok v w/\VR G c v:=by
 unfold zdV at m;split at m
 .rename_i kk k;cases A;split at m
  .rename_i e hd;split at m
   .rename_i s K;split at m
    .rename_i r Y O z;split at m
     .rename_i Z;simp only[aA]at m;subst m;cases J with
      |sl hr hl hc=>
       rename_i b o x L;refine⟨.pointer (some ⟨b,o+Y+k*s,none⟩),?_,zp⟩;simp only[Instr.indexAt,asIntOf,dO,iE,dW,zeA hd];have h1:(0:Int)<=Int.ofNat k:=Int.natCast_nonneg k;have h2:(Int.ofNat k)<(O:Int):=rN;simp[jo K,Z,zfU]
     .simp at m
    .rename_i xs;split at m
     .rename_i U V;split at m
      .rename_i g;simp only[aA]at m;subst m;have Z:k<xs.length:=(de.1 V).1;cases J with
       |lst vs hz hF hv hc=>
        rename_i b o L z;have M:s=z:=by rw[<-g];exact hz k U V
        subst M;refine⟨.pointer (some ⟨b,o+k*s,none⟩),?_,.iptr (vs k) (fun j C=>hF k j Z ac) (fun j d C=>hv k j U d V C)⟩;simp only[Instr.indexAt,asIntOf,dO,iE,dW,zeA hd];simp[jo K,Z,zfU]
       |lst0 a L=>simp at Z
      .simp at m
     .simp at m
    .simp at m
   .simp at m
  .rename_i n e hd;split at m
   .rename_i s K;split at m
    .rename_i r Y;split at m
     .rename_i Z;simp only[aA]at m;subst m;cases J with
      |ptr hr=>
       rename_i b o x;refine⟨.pointer (some ⟨b,o+Y+k*s,none⟩),?_,zp⟩;simp only[Instr.indexAt,asIntOf,dO,iE,dW,zeA hd];simp[jo K,Z,zfU,Instr.sureAddr]
     .simp at m
    .simp at m
   .simp at m
  .simp at m
 .simp at m
theorem LM{t:TypeId}{a i c:AV}{U Z:Value}(J:VR G a U)(A:VR G i Z)(m:lW P t a i=some c):∃v,(Instr.index t U Z).run P w=.ok v w/\VR G c v:=by
 unfold lW at m;split at m
 .rename_i O k;cases A;split at m
  .rename_i s hd;split at m
   .rename_i b z;simp only[aA]at m;subst m;cases J with
    |str L l F=>
     subst F;refine⟨_,?_,.int .u8 b.toNat⟩;have j:k<L.size:=by
      have:=(de.1 z).1;simpa using this
     have C:L[k]?=some b:=by
      rw[ByteArray.getElem?_lt' _ _ j];have:=(de.1 z).2;simp at this;rw[<-this];rfl
     simp only[Instr.index,asIntOf,dO,iE,dW,zeA hd];simp[C]
   .simp at m
  .rename_i n e M hd;split at m
   .rename_i j;split at m
    .rename_i s K;cases J with
     |agg F V=>
      rename_i vs;obtain⟨v,Y,g⟩:=wr (P:=P) (w:=w) ⟨F,V⟩ m;refine⟨v,?_,g⟩;simp only[Instr.index,asIntOf,dO,iE,dW,zeA hd];simp[jo K,j,Y]
    .simp at m
   .simp at m
  .simp at m
 .simp at m
theorem LN{a c:AV}{U:Value}{i:Nat}(J:VR G a U)(m:extract a i=some c):∃v,(Instr.extract U i).run P w=.ok v w/\VR G c v:=by
 unfold extract at m;split at m
 .rename_i Z;cases J with
  |tup F L=>
   rename_i vs;have A:i<Z.length:=(de.1 m).1;have Y:i<vs.length:=ac;exact⟨vs[i],by simp[Instr.extract,Y],L i c _ m (aR Y)⟩
 .simp at m
theorem zy{op:BinOp}{k:IntKind}{a b:Int}{c:AV}(g:op≠.shl/\op≠.shr)(h:zfw op k a b=some c)(Y:TypeId):∃v,(binOp op Y (.int k a) (.int k b)).run P w=.ok v w/\VR G c v:=by
 cases op<;>simp only[zfw,aA,reduceCtorEq]at h<;>first
  |(subst h;exact⟨_,by simp[binOp,Op.intArith,Op.intBits,Op.intCmp];rfl,nV⟩)
  |(subst h;exact⟨.int k (k.wrap (BitVec.ofInt k.bits a &&& ~~~ BitVec.ofInt k.bits b).toNat),by simp[binOp,Op.intBits],nV⟩)
  |(split at h
    ·simp at h
    .rename_i z;simp only[aA]at h;subst h;exact⟨_,by simp[binOp,Op.intDiv,z];rfl,nV⟩)
  |simp at g
theorem LO{op:BinOp}{a b:ByteArray}{c:AV}(h:tC op a.data.toList b.data.toList=some c)(Y:TypeId):∃v,(binOp op Y (.string a) (.string b)).run P w=.ok v w/\VR G c v:=by
 have o:∀x y,oR x y=Op.bytesLess x y:=fun x=>by
  induction x with
  |nil=>intro y;cases y<;>rfl
  |cons p x ih=>intro y;cases y with
   |nil=>rfl
   |cons q y=>simp[oR,Op.bytesLess,ih]
 cases op<;>simp only[tC,aA,reduceCtorEq,o]at h<;>first
  |(subst h;exact⟨.bool (a.data.toList == b.data.toList),rO,nV⟩)
  |(subst h;exact⟨.bool !(a.data.toList == b.data.toList),rO,nV⟩)
  |(subst h;exact⟨.bool (Op.bytesLess a.data.toList b.data.toList),rO,nV⟩)
  |(subst h;exact⟨.bool !(Op.bytesLess a.data.toList b.data.toList),rO,nV⟩)
  |(subst h;exact⟨.bool (Op.bytesLess a.data.toList b.data.toList||a.data.toList == b.data.toList),rO,nV⟩)
  |(subst h;exact⟨.bool !(Op.bytesLess a.data.toList b.data.toList||a.data.toList == b.data.toList),rO,nV⟩)
  |(split at h
    ·rename_i z;simp only[aA]at h;subst h;refine⟨.string (a++b),?_,.str _ _ ?_⟩
     .have j:¬((a.size+b.size:Nat):Int) > IntKind.i64.max:=by
       have i:a.size+b.size<=70368744177664:=by simpa [zeL]using z
       have g:IntKind.i64.max=9223372036854775807:=rfl;rw[g];omega
      simp only[binOp,Op.stringOp,ai j];rfl
     .simp
    .simp at h)
theorem Dm(j:Nat){x y:AV}{i V:Value}{r:Bool}{Y:TypeId}(I:VR G x i)(O:VR G y V)(h:vU P Y x y=some r):(Op.equalIn (j+1) Y i V).run P w=.ok r w:=by
 unfold vU at h;split at h;all_goals first
  |(rename_i hd
    split at h<;>simp only[aA,reduceCtorEq]at h<;>subst h<;>cases I<;>cases O<;>simp[Op.equalIn,zeA hd]
    done)
  |(rename_i e hd
    split at h<;>simp only[aA,reduceCtorEq]at h<;>subst h<;>cases I<;>cases O<;>simp[Op.equalIn,zeA hd]
    done)
  |(rename_i Z C hd
    split at h<;>simp only[aA,reduceCtorEq]at h<;>subst h<;>cases I<;>cases O<;>simp[Op.equalIn,zeA hd]
    done)
  |(rename_i Z C U hd
    split at h<;>simp only[aA,reduceCtorEq]at h<;>subst h<;>cases I<;>cases O<;>simp[Op.equalIn,zeA hd]
    done)
  |simp at h
theorem wt{op:BinOp}{t:TypeId}{x y:Operand}{c d:AV}{cv z:Value}(O:VR G c cv)(hd:VR G d z)(h:∀l m,c=.agg l->d=.agg m->False):(eqGuard op t x y cv z).run P w=.ok () w:=by
 cases op<;>first|rfl|(cases O<;>cases hd<;>first|rfl|exact(h _ _ rfl rfl).elim)
theorem LP(a b:ByteArray):(a == b)=(a.data.toList == b.data.toList):=by
 cases a with
 |mk x=>cases b with
  |mk y=>
   show(x == y)=_;rw[rP,lq,lq];exact⟨fun h=>by rw[h],fun h=>lm h⟩
theorem Dn(j:Nat){x y:AV}{i V:Value}{r:Bool}{Y:TypeId}(I:VR G x i)(O:VR G y V)(h:zk P Y x y=some r):(Op.equalIn (j+1) Y i V).run P w=.ok r w:=by
 unfold zk at h;split at h
 .split at h
  .rename_i hd;split at h
   .rename_i Z;simp only[aA]at h;subst h Z;cases I;cases O;simp[Op.equalIn,zeA hd]
   .simp at h
  .simp at h
 .split at h
  .rename_i hd;simp only[aA]at h;subst h;cases I with
   |str a m J=>cases O with
    |str b U z=>
     subst J z;simp only[Op.equalIn,dO,zeA hd,dW,iE,LP]
  .simp at h
 .exact Dm j I O h
theorem zA{xs V:List AV}{i U:List Value}(I:bW G xs i)(O:bW G V U)(j:Nat):∀(Z:List Field) (r:Bool),rJ P xs V Z=some r ->
 Sem.run P (forIn Z (none,()) fun(f:Field) (_:Option Bool×Unit)=>
         if f.name="_" then pure (ForInStep.yield (none,()))
         else do
          let a <-part f.type i.toArray f.offset
          let b <-part f.type U.toArray f.offset
          let c <-Op.equalIn (j+1) f.type a b
          if c=false then pure (ForInStep.done (some false,()))else pure (ForInStep.yield (none,())))
  w=.ok (match r with|true=>(none,())|false=>(some false,())) w
 |[],r,h=>by
  simp only[rJ,aA]at h;subst h;rfl
 |f::Z,r,h=>by
  unfold rJ at h;rw[List.forIn_cons];split at h
  .rename_i m;rw[az (by simpa using m)];simp only[dO,iE,dW];exact zA I O j Z r h
  .rename_i m;rw[ai (by simpa using m)];split at h
   .rename_i a b J L;obtain⟨K,o,z⟩:=wr (P:=P) (w:=w) I J;obtain⟨F,A,Y⟩:=wr (P:=P) (w:=w) O L;split at h
    .rename_i M;have:=Dn (P:=P) (w:=w) j z Y M;simp only[dO,o,A,this,dW,ls,cn,iE];exact zA I O j Z r h
    .rename_i M;have:=Dn (P:=P) (w:=w) j z Y M;simp only[aA]at h;subst h;simp only[dO,o,A,this,dW,bT,iE]
    .simp at h
   .simp at h
theorem LQ(d:Nat){t:TypeId}{F:Array Field}{xs I:Array Value}(hd:P.underlying t=some (.struct F))(K:P.stoodInHeld t=false):
 (Op.equalIn (d+1) t (.agg xs) (.agg I)).run P w=(Sem.run P (forIn F.toList (none,()) fun(f:Field) (_:Option Bool×Unit)=>
   if f.name="_" then pure (ForInStep.yield (none,()))
   else do
    let a <-part f.type xs f.offset
    let b <-part f.type I f.offset
    let c <-Op.equalIn d f.type a b
    if c=false then pure (ForInStep.done (some false,()))else pure (ForInStep.yield (none,())))
   w).andThen fun a Z=>Sem.run P (match a.1 with|some r=>pure r|none=>pure true) Z:=by
 simp[Op.equalIn,zeA hd,K]
 congr 1
 funext a Z
 rcases a with⟨_ |_,_⟩<;>rfl
theorem LR(j:Nat){x y:AV}{i V:Value}{r:Bool}{Y:TypeId}(I:VR G x i)(O:VR G y V)(h:pR P Y x y=some r):(Op.equalIn (j+2) Y i V).run P w=.ok r w:=by
 unfold pR at h;split at h
 .unfold vV at h;split at h
  .rename_i F hd;split at h
   .simp at h
   .rename_i U;simp only[lw]at U;cases I with
    |agg z A=>cases O with
     |agg Z C=>
      have:=zA (P:=P) (w:=w) ⟨z,A⟩ ⟨Z,C⟩ j F.toList r h;rw[LQ (j+1) hd U.1,this];cases r<;>rfl
  .simp at h
 .exact Dm (j+1) I O h
theorem LS{x y:AV}{i V:Value}{r:Bool}{Y:TypeId}(I:VR G x i)(O:VR G y V)(h:pR P Y x y=some r):(Op.equal Y i V).run P w=.ok r w:=LR 9998 I O h
theorem LU{op:BinOp}{t:TypeId}{x y:Operand}{xs I:List AV}{i V:Value}(Z:VR G (.agg xs) i)(O:VR G (.agg I) V){r:Bool}(h:vV P t xs I=some r):(eqGuard op t x y i V).run P w=.ok () w:=by
 unfold vV at h;split at h
 .split at h
  .simp at h
  .rename_i C;simp only[lw]at C;cases Z;cases O;cases op<;>first|rfl|simp[eqGuard,C.2]
 .simp at h
theorem LV{op:BinOp}{Y:TypeId}{K o:Operand}{x y c:AV}{i V:Value}(I:VR G x i)(O:VR G y V)(Z:∀k a k' b,x=.int k a->y=.int k' b->False)
 (L:∀a b,x=.str a->y=.str b->False) (z:∀k a,x=.sx k a->False) (U:∀k a k' b,x=.int k a->y=.sx k' b->False) (h:zl P op Y x y=some c) :
 ∃v,(do eqGuard op Y K o i V;binOp op Y i V:Sem Value).run P w=.ok v w/\VR G c v:=by
 unfold zl at h;have C:∃r,pR P Y x y=some r/\((op=.eql/\c=.bool r)\/(op=.neq/\c=.bool !r)):=by
  split at h
  .split at h
   .rename_i r hr;simp only[aA]at h;exact⟨r,hr,.inl ⟨rfl,h.symm⟩⟩
   .simp at h
  .split at h
   .rename_i r hr;simp only[aA]at h;exact⟨r,hr,.inr ⟨rfl,h.symm⟩⟩
   .simp at h
  .simp at h
 obtain⟨r,hr,g⟩:=C;have F:(eqGuard op Y K o i V).run P w=.ok () w:=by
  have M:=hr;unfold pR at M;split at M
  .exact LU I O M
  .rename_i m;exact wt I O m
 have J:=LS (P:=P) (w:=w) I O hr;simp only[dO,F,dW];rcases g with⟨rfl,rfl⟩|⟨rfl,rfl⟩
 .refine⟨.bool r,?_,.bool r⟩;have:binOp .eql Y i V=(do pure (.bool (<-Op.equal Y i V)):Sem Value):=by
   cases I<;>cases O<;>first|rfl|exact(Z _ _ _ _ rfl rfl).elim|exact(L _ _ rfl rfl).elim|exact(z _ _ rfl).elim|exact(U _ _ _ _ rfl rfl).elim
  rw[this];simp[J]
 .refine⟨.bool !r,?_,.bool _⟩;have:binOp .neq Y i V=(do pure (.bool (!(<-Op.equal Y i V))):Sem Value):=by
   cases I<;>cases O<;>first|rfl|exact(Z _ _ _ _ rfl rfl).elim|exact(L _ _ rfl rfl).elim|exact(z _ _ rfl).elim|exact(U _ _ _ _ rfl rfl).elim
  rw[this];simp[J]
theorem Do{x:AV}{k:IntKind}{e:Sx}{i:Value}(I:VR G x i)(h:vR x=some (k,e)):i=.int k (e.eval G.ρ):=by
 unfold vR at h;split at h
 .simp only[cr]at h;obtain⟨rfl,rfl⟩:=h;cases I;rfl
 .simp only[cr]at h;obtain⟨rfl,rfl⟩:=h;cases I;rfl
 .simp at h
theorem LW{op:BinOp}{k:IntKind}{a b n:Int}(h:zfw op k a b=some (.int k n)):zi op k a b=n:=by simp[zi,h]
theorem LX{D:BinOp->Sx->Sx->Option Bool}(i:kJ D G.ρ){op:BinOp}{k:IntKind}{a b:Sx}{c:AV}(h:zj D op k a b=some c)(Y:TypeId):
 ∃v,(binOp op Y (.int k (a.eval G.ρ)) (.int k (b.eval G.ρ))).run P w=.ok v w/\VR G c v:=by
 have I:∀(op:BinOp) (n:Int),(op≠.shl/\op≠.shr)->zfw op k (a.eval G.ρ) (b.eval G.ρ)=some (.int k n)->c=.sx k (.bin op k a b) ->
  ∃v,(binOp op Y (.int k (a.eval G.ρ)) (.int k (b.eval G.ρ))).run P w=.ok v w/\VR G c v:=fun op n g A hc=>by
  obtain⟨v,Z,V⟩:=zy (P:=P) (w:=w) (G:=G) g A Y;cases V;refine⟨_,Z,?_⟩;subst hc;have:VR G (.sx k (.bin op k a b)) (.int k ((Sx.bin op k a b).eval G.ρ)):=.sx _ _;simp only[Sx.eval,LW A]at this;exact this
 have z:D .eql b (.lit 0)=some false->b.eval G.ρ≠0:=fun hd=>by
  have:=i _ k _ _ _ hd;simp[zfw,Sx.eval]at this;exact this
 cases op<;>simp only[zj,aA,reduceCtorEq]at h<;>first
  |exact I _ _ aB rfl h.symm
  |(split at h
    ·rename_i hd;simp only[aA]at h;first
      |exact I .quo (k.wrap ((a.eval G.ρ).tdiv (b.eval G.ρ))) aB (by simp only[zfw,ai (z hd)]) h.symm
      |exact I .rem ((a.eval G.ρ).tmod (b.eval G.ρ)) aB (by simp only[zfw,ai (z hd)]) h.symm
    .simp at h)
  |(split at h
    ·rename_i r hd;simp only[aA]at h;subst h;exact zy (P:=P) (w:=w) (G:=G) aB (i _ k _ _ _ hd) Y
    .simp at h)
theorem Dp{D:BinOp->Sx->Sx->Option Bool}(M:kJ D G.ρ){op:BinOp}{Y:TypeId}{U o:Operand}{x y c:AV}{i V:Value}(I:VR G x i)(O:VR G y V)(F:∀l m,x=.agg l->y=.agg m->False)(h:vT D op x y=some c):
 ∃v,(do eqGuard op Y U o i V;binOp op Y i V:Sem Value).run P w=.ok v w/\VR G c v:=by
 have C:=wt (P:=P) (w:=w) (op:=op) (t:=Y) (x:=U) (y:=o) I O F;simp only[dO,C,dW];unfold vT at h;split at h
 .rename_i k a k' b z Z;have L:=Do I z;have K:=Do O Z;subst L K;split at h
  .rename_i j;subst j;exact LX M h Y
  .simp at h
 .simp at h
theorem LY{D:BinOp->Sx->Sx->Option Bool}(Z:kJ D G.ρ){op:BinOp}{Y:TypeId}{m o:Operand}{x y c:AV}{i V:Value}(I:VR G x i)(O:VR G y V)(h:zep P D op Y x y=some c):
 ∃v,(do eqGuard op Y m o i V;binOp op Y i V:Sem Value).run P w=.ok v w/\VR G c v:=by
 unfold zep at h;split at h
 .rename_i k a k' b;have C:=wt (P:=P) (w:=w) (op:=op) (t:=Y) (x:=m) (y:=o) I O aB;simp only[dO,C,dW];cases I;cases O;unfold nS at h;split at h
  .unfold oS at h;split at h
   .simp only[aA]at h;subst h;refine⟨_,?_,.int _ _⟩;simp only[binOp,Op.shift];rw[ai aB];rfl
   .simp at h
  .unfold oS at h;split at h
   .simp only[aA]at h;subst h;refine⟨_,?_,.int _ _⟩;simp only[binOp,Op.shift];rw[ai aB];rfl
   .simp at h
  .rename_i U g;split at h
   .rename_i j;subst j;exact zy ⟨U,g⟩ h Y
   .simp at h
 .rename_i a b;have C:=wt (P:=P) (w:=w) (op:=op) (t:=Y) (x:=m) (y:=o) I O aB;simp only[dO,C,dW];cases I with
  |str M _ J=>
   cases O with
   |str L _ z=>
    subst J z;exact LO h Y
 .exact Dp Z I O aB h
 .exact Dp Z I O aB h
 .exact LV I O il il il il h
theorem LZ{op:UnOp}{x c:AV}{i:Value}(I:VR G x i)(h:nT op x=some c):∃v,(Op.unary op i).run P w=.ok v w/\VR G c v:=by
 unfold nT at h;split at h
 .cases I;simp only[aA]at h;subst h;refine⟨_,rfl,?_⟩;exact .sx _ _
 .cases I;simp only[aA]at h;subst h;refine⟨_,rfl,?_⟩;exact .sx _ _
 .cases I;simp only[zfw,aA]at h;subst h;exact⟨_,rfl,.int _ _⟩
 .cases I;simp only[zfw,aA]at h;subst h;exact⟨_,rfl,.int _ _⟩
 .cases I;simp only[aA]at h;subst h;exact⟨_,rfl,.bool _⟩
 .simp at h
end
end Go.Ab
