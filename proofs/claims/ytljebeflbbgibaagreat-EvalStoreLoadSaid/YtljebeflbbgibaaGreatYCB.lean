/- Parts: AbRel, AbMem, AbOps, AbOps2. -/
import Derived.Test.YtljebeflbbgibaaGreatYCA
import Derived.WalkKit
set_option linter.unusedSimpArgs false
set_option linter.unusedVariables false
set_option linter.unusedSectionVars false
set_option linter.defProp false
set_option maxHeartbeats 32000000
namespace Go.Ab
set_option maxRecDepth 20000
open Go
theorem aE{P:Prop}(h:P:=by simp):P:=h
theorem wh{P:Prop}(h:P:=by simpa using hc):P:=h
theorem oI{P:Prop}(h:P:=by simpa using L):P:=h
theorem ac{P:Prop}(h:P:=by omega):P:=h
theorem jd{P:Prop}(h:P:=by rw[<- k r _ hr];exact hc):P:=h
theorem cp{P:Prop}(h:P:=by simp;omega):P:=h
theorem zn{P:Prop}(h:P:=by have:=h.dom _ _ K;omega):P:=h
theorem iu{P:Prop}(h:P:=by rw[zcY,if_pos rfl]):P:=h
theorem hW{P:Prop}(h:P:=by rw[Hp.get_set,if_pos rfl]):P:=h
theorem tW{P:Prop}(h:P:=by simp only[zec];omega):P:=h
theorem mr{P:Prop}(h:P:=by trivial):P:=h
theorem wi{P:Prop}(h:P:=by rw[Hp.get_set,if_neg Z]):P:=h
theorem Db{P:Prop}(h:P:=by simpa [Instr.loadAt,Instr.sureAddr]using i):P:=h
theorem zo{P:Prop}(h:P:=by rw[Nat.add_assoc];exact .ptr hr):P:=h
theorem nH{P:Prop}(h:P:=by constructor):P:=h
theorem rT{P:Prop}(h:P:=by simp[binOp,Op.stringOp,ByteArray.toList_eq]):P:=h
theorem hY{P:Prop}(h:P:=by assumption):P:=h
theorem fK{P:Prop}(h:P:=by rw[zcY,if_neg ac]):P:=h
def je:=@List.getElem?_append_left
def jS:=@List.getElem?_append_right
def mw:=@List.getElem?_take
def ay:=@if_pos
def aM:=@Nat.le_refl
def eP:=@Nat.le_trans
def gk:=@Nat.lt_of_lt_of_le
def gK:=@Nat.eq_of_beq_eq_true
def zp:=@Nat.ne_of_beq_eq_false
def k6:=@decide_true
def gl:=@decide_false
def ah:=@if_neg
def aA:=@Option.some.injEq
def gL:=@Nat.blt_eq
def gM:=@Array.getD_eq_getD_getElem?
def p7:=@Array.getElem?_setIfInBounds
def fu:=@Prod.mk.injEq
def dJ:=@List.getElem?_eq_some_iff
def aO:=@List.getElem?_eq_getElem
def bz:=@Nat.zero_add
def wj:=@Go.RowKit.Below.heap_alloc
def gm:=@Nat.le_succ
def zq:=@List.take_append_of_le_length
def eF:=@List.take_of_length_le
def zr:=@List.drop_of_length_le
def fv:=@List.length_append
def iS:=@List.length_take
def dl:=@List.length_cons
def jx:=@List.length_nil
def wl:=@List.drop_drop
def lN:=@List.nil_append
def gw:=@List.append_assoc
def nI:=@List.getElem?_drop
def dN:=@Go.Sem.run_bind
def hZ:=@Nat.add_assoc
def iw:=@List.length_drop
def cj:=@Option.bind_eq_some_iff
def my:=@Option.map_eq_some_iff
def dU:=@Go.Result.andThen_ok
def bS:=@if_true
def iy:=@Go.Sem.run_pure
def k7:=@Array.ext'
def oJ:=@List.getElem_of_mem
def fT:=@List.all_eq_true
def dx:=@List.getElem_mem
def tX:=@Bool.eq_iff_iff
def k8:=@beq_iff_eq
def k9:=@Bool.true_eq_false
def cb:=@if_false
def lb:=@Bool.or_eq_false_iff
def ck:=And.intro @aA.{0} @fu.{0,0}
end Go.Ab
namespace Go.Ab
set_option maxRecDepth 20000
open Go Go.RowKit
structure Gh where
 β:Nat->Option (Nat×Nat×Nat)
 F:Nat->Nat->Option Value
 ρ:Nat->Int
structure Bs where
 at':Nat
 ρ:Nat->Int
 cfg:Cfg
def kA(D:BinOp->Sx->Sx->Option Bool)(ρ:Nat->Int):Prop:=∀i k a b r,D i a b=some r->zeZ i k (a.eval ρ) (b.eval ρ)=some (.bool r)
inductive VR (G:Gh):AV->Value->Prop
 |int (k:IntKind) (n:Int):VR G (.int k n) (.int k n)
 |sx (k:IntKind) (e:Sx):VR G (.sx k e) (.int k (e.eval G.ρ))
 |bool (b:Bool):VR G (.bool b) (.bool b)
 |str (s:ByteArray) (l:List UInt8) (h:s.data.toList=l):VR G (.str l) (.string s)
 |nilP:VR G .nilP (.pointer none)
 |nilM:VR G .nilM (.map none)
 |nilF:VR G .nilF .nilFunc
 |nilS:VR G .nilS (.slice none 0 0)
 |ptr {r off b o x:Nat} (h:G.β r=some (b,o,x)):VR G (.ptr r off) (.pointer (some ⟨b,o+off,none⟩))
 |iptr {cs:List AV}{b o:Nat} (vs:Nat->Value) (hF:∀j,j<cs.length->G.F b (o+j)=some (vs j))
  (hv:∀(j:Nat) (c:AV),cs[j]?=some c->VR G c (vs j)):VR G (.iptr cs) (.pointer (some ⟨b,o,none⟩))
 |sl {r off len z b o x cap:Nat} (h:G.β r=some (b,o,x)) (hl:len<=cap) (hc:off+cap*z<=x) :
  VR G (.sl r off len z) (.slice (some ⟨b,o+off,none⟩) len cap)
 |lst {xs:List (List AV)}{b o cap z:Nat} (vs:Nat->Nat->Value) (hz:∀(i:Nat) (row:List AV),xs[i]?=some row->row.length=z)
  (hF:∀i j,i<xs.length->j<z->G.F b (o+i*z+j)=some (vs i j))
  (hv:∀(i j:Nat) (row:List AV) (c:AV),xs[i]?=some row->row[j]?=some c->VR G c (vs i j)) (hc:xs.length<=cap) :
  VR G (.lst xs) (.slice (some ⟨b,o,none⟩) xs.length cap)
 |lst0 (a:Option Addr) (cap:Nat):VR G (.lst []) (.slice a 0 cap)
 |map {r b o x:Nat} (h:G.β r=some (b,o,x)):VR G (.map r) (.map (some b))
 |clo {f:Nat}{cs:List AV}{vs:List Value} (hl:cs.length=vs.length) (hv:∀(i:Nat) c v,cs[i]?=some c->vs[i]?=some v->VR G c v) :
  VR G (.clo f cs) (.func (.func f) #[] vs.toArray)
 |agg {cs:List AV}{vs:List Value} (hl:cs.length=vs.length) (hv:∀(i:Nat) c v,cs[i]?=some c->vs[i]?=some v->VR G c v) :
  VR G (.agg cs) (.agg vs.toArray)
 |tup {cs:List AV}{vs:List Value} (hl:cs.length=vs.length) (hv:∀(i:Nat) c v,cs[i]?=some c->vs[i]?=some v->VR G c v) :
  VR G (.tup cs) (.tuple vs.toArray)
def bT(G:Gh)(cs:List AV)(vs:List Value):Prop:=cs.length=vs.length/\∀(i:Nat) c v,cs[i]?=some c->vs[i]?=some v->VR G c v
theorem bT.nil(G:Gh):bT G [] []:=⟨rfl,aE⟩
def lO:=@bT.nil
theorem bT.cons{G:Gh}{c:AV}{v:Value}{cs:List AV}{vs:List Value}(h:VR G c v)(K:bT G cs vs):bT G (c::cs) (v::vs):=by
 refine⟨by simp[K.1],fun i O o hc L=>?_⟩;cases i with
 |zero=>simp at hc L;subst hc L;exact h
 |succ i=>exact K.2 i O o wh oI
def iT:=@bT.cons
theorem bT.of_cons{G:Gh}{c:AV}{v:Value}{cs:List AV}{vs:List Value}(h:bT G (c::cs) (v::vs)):VR G c v/\bT G cs vs:=
 ⟨h.2 0 c v rfl rfl,by simpa using h.1,fun i O o hc L=>h.2 (i+1) O o wh oI⟩
theorem bT.append{G:Gh}{cs F:List AV}{vs us:List Value}(h:bT G cs vs)(Y:bT G F us):bT G (cs++F) (vs++us):=by
 refine⟨by simp[h.1,Y.1],fun i c v hc L=>?_⟩;have I:=h.1;by_cases C:i<cs.length
 .rw[je C]at hc;rw[je ac]at L;exact h.2 i c v hc L
 .rw[jS ac]at hc;rw[jS ac]at L;rw[<-I]at L;exact Y.2 _ c v hc L
theorem bT.drop{G:Gh}{cs:List AV}{vs:List Value}(h:bT G cs vs)(n:Nat):bT G (cs.drop n) (vs.drop n):=
 ⟨by simp[h.1],fun i c v hc L=>h.2 (n+i) c v wh oI⟩
theorem bT.take{G:Gh}{cs:List AV}{vs:List Value}(h:bT G cs vs)(n:Nat):bT G (cs.take n) (vs.take n):=by
 refine⟨by simp[h.1],fun i c v hc L=>?_⟩;rw[mw]at hc L;split at hc
 .rename_i C;rw[ay C]at L;exact h.2 i c v hc L
 .simp at hc
structure Ext (G G':Gh):Prop where
 β:∀r p,G.β r=some p->G'.β r=some p
 F:∀b o v,G.F b o=some v->G'.F b o=some v
 ρ:G'.ρ=G.ρ
theorem Ext.refl(G:Gh):Ext G G:=⟨fun _ _ h=>h,fun _ _ _ h=>h,rfl⟩
def rU:=@Ext.refl
theorem Ext.trans{a b c:Gh}(h:Ext a b)(k:Ext b c):Ext a c:=⟨fun r p hp=>k.β r p (h.β r p hp),fun x y v L=>k.F x y v (h.F x y v L),k.ρ.trans h.ρ⟩
theorem VR.mono{G Z:Gh}(e:Ext G Z){c:AV}{v:Value}(h:VR G c v):VR Z c v:=by
 induction h with
 |int k n=>exact .int k n
 |sx k x=>rw[<-e.ρ];exact .sx k x
 |bool b=>exact .bool b
 |str s l h=>exact .str s l h
 |nilP=>exact .nilP
 |nilM=>exact .nilM
 |nilF=>exact .nilF
 |nilS=>exact .nilS
 |ptr h=>exact .ptr (e.β _ _ h)
 |iptr vs g _ ih=>exact .iptr vs (fun j O=>e.F _ _ _ (g j O)) ih
 |sl h I hc=>exact .sl (e.β _ _ h) I hc
 |lst vs m g _ hc ih=>exact .lst vs m (fun i j C O=>e.F _ _ _ (g i j C O)) ih hc
 |lst0 a U=>exact .lst0 a U
 |map h=>exact .map (e.β _ _ h)
 |clo I _ ih=>exact .clo I ih
 |agg I _ ih=>exact .agg I ih
 |tup I _ ih=>exact .tup I ih
theorem bT.mono{G Z:Gh}(e:Ext G Z){c:List AV}{v:List Value}(h:bT G c v):bT Z c v:=⟨h.1,fun i a b F z=>(h.2 i a b F z).mono e⟩
theorem VR.oneCell{G:Gh}{c:AV}{v:Value}(h:VR G c v):v.oneCell'=c.one:=by cases h<;>rfl
theorem VR.cells{G:Gh}{c:AV}{v:Value}(h:VR G c v):bT G c.cells v.cells.toList:=by
 cases h with
 |agg I L=>exact⟨by simpa [AV.cells,Value.cells]using I,by simpa [AV.cells,Value.cells]using L⟩
 |_=>exact iT (by constructor<;>assumption) (lO _)
def gz(G:Gh)(w:World)(b o:Nat)(cs:List AV):Prop:=∀(j:Nat) (c:AV),cs[j]?=some c->∃v,w.cell? ⟨b,o+j,none⟩=some v/\VR G c v
def zec(x:Nat)(cs:List AV):Bool->Nat
 |true=>x
 |false=>cs.length
def nJ(G:Gh)(U:List (AV×AV))(ms:List MapEntry):Prop:=
 U.length=ms.length/\∀(i:Nat) e m,U[i]?=some e->ms[i]?=some m->VR G e.1 m.key/\VR G e.2 m.val
structure R (B:Bs) (H:Hp) (w:World) (G:Gh):Prop where
 base:B.at'<=w.heap.size
 dom:∀r p,G.β r=some p->r<H.next
 lt:∀r b o x,G.β r=some (b,o,x)->B.at'<=b/\b<w.heap.size
 cells:∀r b o x cs imm tip,G.β r=some (b,o,x)->H.get r=some (.cells cs imm tip)->gz G w b o cs
 imm:∀r b o x cs imm tip,G.β r=some (b,o,x)->H.get r=some (.cells cs imm tip)->∀j,j<imm->j<cs.length->∃v,G.F b (o+j)=some v
 ext:∀r b o x cs imm tip,G.β r=some (b,o,x)->H.get r=some (.cells cs imm tip)->cs.length<=zec x cs tip
 room:∀r b o x cs imm tip,G.β r=some (b,o,x)->H.get r=some (.cells cs imm tip)->∀j,imm<=j->j<zec x cs tip ->
  (∃v,w.cell? ⟨b,o+j,none⟩=some v)/\w.frozen? ⟨b,o+j,none⟩=false/\G.F b (o+j)=none
 apart:∀r b o x cs imm tip r' b' o' x' cs' imm' tip',G.β r=some (b,o,x)->H.get r=some (.cells cs imm tip) ->
  G.β r'=some (b',o',x')->H.get r'=some (.cells cs' imm' tip')->r≠r' ->
  ∀j j',imm<=j->j<zec x cs tip->imm'<=j'->j'<zec x' cs' tip'->b=b'->o+j≠o'+j'
 map:∀r b o x es,G.β r=some (b,o,x)->H.get r=some (.map es)->∃ms clock,w.heap[b]?=some (.map ms clock)/\nJ G es ms.toList
 mapApart:∀r b o x es r' b' o' x',G.β r=some (b,o,x)->H.get r=some (.map es)->G.β r'=some (b',o',x')->(H.get r').isSome->r≠r'->b≠b'
 frz:∀b o v,G.F b o=some v->w.cell? ⟨b,o,none⟩=some v
 val:G.ρ=B.ρ
 sym:kA B.cfg.dec B.ρ
 fits:∀r b o x cs imm tip,G.β r=some (b,o,x)->H.get r=some (.cells cs imm tip)->cs.length<=x
structure Fr (G:Gh) (w w':World):Prop where
 os:w'.os=w.os
 tape:w'.tape=w.tape
 output:w'.output=w.output
 size:w.heap.size<=w'.heap.size
 block:∀k,k<w.heap.size->(∀r b o x,G.β r=some (b,o,x)->b≠k)->w'.heap[k]?=w.heap[k]?
theorem Fr.refl(G:Gh)(w:World):Fr G w w:=⟨rfl,rfl,rfl,aM _,fun _ _ _=>rfl⟩
def tY:=@Fr.refl
def nK(G Z:Gh)(w:World):Prop:=∀r b o x,Z.β r=some (b,o,x)->G.β r=some (b,o,x)\/w.heap.size<=b\/∃m U Y,G.β m=some (b,U,Y)
theorem Fr.trans{G W:Gh}{a b c:World}(h:Fr G a b)(k:Fr W b c)(n:nK G W a):Fr G a c:=
 ⟨k.os.trans h.os,k.tape.trans h.tape,k.output.trans h.output,eP h.size k.size,fun i C Y=>
  (k.block i (gk C h.size) (fun r b o x hr L=>by
    rcases n r b o x hr with Z|Z|⟨m,U,V,Z⟩
    .exact Y r b o x Z L
    .omega
    .exact Y m b U V Z L)).trans (h.block i C Y)⟩
theorem nK.refl(G:Gh)(w:World):nK G G w:=fun _ _ _ _ h=>.inl h
def p8:=@nK.refl
theorem nK.trans{G Z V:Gh}{w w':World}(h:nK G Z w)(k:nK Z V w')(K:w.heap.size<=w'.heap.size):nK G V w:=fun r b o x hr=>by
 rcases k r b o x hr with i|i|⟨m,U,Y,i⟩
 .exact h r b o x i
 .exact .inr (.inl ac)
 .rcases h m b U Y i with g|g|g
  .exact .inr (.inr ⟨m,U,Y,g⟩)
  .exact .inr (.inl g)
  .exact .inr (.inr g)
structure Step (B:Bs) (nx:Nat) (G:Gh) (w:World) (H':Hp) (w':World) (G':Gh):Prop where
 r:R B H' w' G'
 ext:Ext G G'
 fr:Fr G w w'
 new:nK G G' w
 low:∀r p,G'.β r=some p->G.β r=some p\/nx<=r
 mono:nx<=H'.next
 icy:∀b o v,G'.F b o=some v->G.F b o=some v\/B.at'<=b
theorem Step.refl{B:Bs}{H:Hp}{G:Gh}{w:World}(h:R B H w G):Step B H.next G w H w G:=⟨h,rU _,tY _ _,p8 _ _,fun _ _ h=>.inl h,aM _,fun _ _ _ h=>.inl h⟩
def jf:=@Step.refl
theorem Step.trans{B:Bs}{Z:Nat}{H' U:Hp}{G Y V:Gh}{w w' W:World}(h:Step B Z G w H' w' Y)(k:Step B H'.next Y w' U W V):Step B Z G w U W V:=
 ⟨k.r,h.ext.trans k.ext,h.fr.trans k.fr h.new,h.new.trans k.new h.fr.size,fun r p hr=>by
  rcases k.low r p hr with i|i
  .exact h.low r p i
  .exact .inr (eP h.mono i),eP h.mono k.mono,fun b o v L=>by
  rcases k.icy b o v L with i|i
  .exact h.icy b o v i
  .exact .inr i⟩
structure TR (N:Nat) (G:Gh) (E:aw) (a:Act):Prop where
 size:a.tmps.size=N
 slots:∀t,VR G (E.at t) (a.tmps.getD t undef)
theorem TR.mono{N:Nat}{G Z:Gh}{E:aw}{a:Act}(e:Ext G Z)(h:TR N G E a):TR N Z E a:=⟨h.size,fun t=>(h.slots t).mono e⟩
theorem VR.undef(G:Gh):VR G zd1 Go.undef:=.tup (cs:=[]) (vs:=[]) rfl aE
def tZ:=@VR.undef
@[simp] theorem nL {α:Type} (x y:α):il true x y=x:=rfl
@[simp] theorem zfk {α:Type} (x y:α):il false x y=y:=rfl
theorem t3{M:Type}(k:Nat):(T.e:T M).get k=none:=rfl
theorem p9{M:Type}(v:Option M)(l r:T M)(k:Nat):
 (T.n v l r).get k=il (Nat.beq k 0) v (il (Nat.beq (Nat.mod k 2) 1) (l.get (Nat.div k 2)) (r.get (Nat.sub (Nat.div k 2) 1))):=rfl
theorem Lc{M:Type}(v:Option M)(f:Nat)(t:T M)(k:Nat):pR v (f+1) t k=T.casesOn t
 (il (Nat.beq k 0) (.n v .e .e) (il (Nat.beq (Nat.mod k 2) 1) (.n none (pR v f .e (Nat.div k 2)) .e) (.n none .e (pR v f .e (Nat.sub (Nat.div k 2) 1)))))
 (fun u l r=>il (Nat.beq k 0) (.n v l r) (il (Nat.beq (Nat.mod k 2) 1) (.n u (pR v f l (Nat.div k 2)) r) (.n u l (pR v f r (Nat.sub (Nat.div k 2) 1))))):=rfl
theorem Ld{L:Type}(v:Option L):∀(f:Nat) (t:T L) (k j:Nat),k<f->(pR v f t k).get j=if j=k then v else t.get j:=by
 intro f;induction f with
 |zero=>intro t k j h;omega
 |succ f ih=>
  intro t k j h;have hd:∀n:Nat,Nat.div n 2=n/2:=fun _=>rfl;have M:∀n:Nat,Nat.mod n 2=n%2:=fun _=>rfl;have U:∀n:Nat,Nat.sub n 1=n-1:=fun _=>rfl;have V:∀n m:Nat,Nat.beq n m=decide (n=m):=fun n m=>by
   cases h:Nat.beq n m with
   |true=>have e:=gK h;simp[e]
   |false=>have e:=zp h;simp[e]
  rw[Lc];cases t with
  |e=>
   simp only[];by_cases Z:k=0
   .subst Z;simp only[V,k6,nL,p9,t3];by_cases O:j=0<;>simp[O] ;cases decide (j.mod 2=1)<;>rfl
   .simp only[V,Z,gl,zfk];by_cases W:Nat.mod k 2=1
    .simp only[W,k6,nL,p9,V];by_cases K:j=0
     .subst K;simp[t3];omega
     .simp only[K,gl,zfk];by_cases Y:Nat.mod j 2=1
      .simp only[Y,k6,nL];rw[ih _ _ _ (by rw[hd];omega)];rw[hd,hd,M]at *;by_cases e:j=k
       .subst e;simp
       .rw[ah ac,ah e];rfl
      .simp only[Y,gl,zfk,t3];rw[ah (by rintro rfl;exact Y W)]
    .simp only[W,gl,zfk,p9,V];by_cases K:j=0
     .subst K;simp[t3];omega
     .simp only[K,gl,zfk];by_cases Y:Nat.mod j 2=1
      .simp only[Y,k6,nL,t3];rw[ah (by rintro rfl;exact W Y)]
      .simp only[Y,gl,zfk];rw[ih _ _ _ (by rw[hd,U];omega)];rw[hd,hd,U,U];rw[M]at W Y;by_cases e:j=k
       .subst e;simp
       .rw[ah ac,ah e];rfl
  |n u l r=>
   simp only[];by_cases Z:k=0
   .subst Z;simp only[V,k6,nL,p9];by_cases O:j=0<;>simp[O]
   .simp only[V,Z,gl,zfk];by_cases W:Nat.mod k 2=1
    .simp only[W,k6,nL,p9,V];by_cases K:j=0
     .subst K;simp;omega
     .simp only[K,gl,zfk];by_cases Y:Nat.mod j 2=1
      .simp only[Y,k6,nL];rw[ih _ _ _ (by rw[hd];omega)];rw[M]at W Y;rw[hd,hd];by_cases e:j=k
       .subst e;simp
       .rw[ah ac,ah e]
      .simp only[Y,gl,zfk];rw[ah (by rintro rfl;exact Y W)]
    .simp only[W,gl,zfk,p9,V];by_cases K:j=0
     .subst K;simp;omega
     .simp only[K,gl,zfk];by_cases Y:Nat.mod j 2=1
      .simp only[Y,k6,nL];rw[ah (by rintro rfl;exact W Y)]
      .simp only[Y,gl,zfk];rw[ih _ _ _ (by rw[hd,U];omega)];rw[M]at W Y;rw[hd,hd,U,U];by_cases e:j=k
       .subst e;simp
       .rw[ah ac,ah e]
theorem T.get_set{M:Type}(t:T M)(k j:Nat)(v:Option M):(t.set k v).get j=if j=k then v else t.get j:=Ld v (k+1) t k j ac
def wm:=@T.get_set
theorem Hp.get_set(h:Hp)(r j:Nat)(b:HB):(h.set r b).get j=if j=r then some b else h.get j:=wm _ _ _ _
def aX:=@Hp.get_set
theorem zeI(h:Hp)(r j:Nat):(h.kill r).get j=if j=r then none else h.get j:=wm _ _ _ _
theorem zcY(h:Hp)(j:Nat)(b:HB):(h.alloc b).get j=if j=h.next then some b else h.get j:=wm _ _ _ _
@[simp] theorem zdm (h:Hp) (r:Nat) (b:HB):(h.set r b).next=h.next:=rfl
@[simp] theorem zfq (h:Hp) (r:Nat):(h.kill r).next=h.next:=rfl
@[simp] theorem zc6 (h:Hp) (b:HB):(h.alloc b).next=h.next+1:=rfl
theorem rV(E:aw)(d t:Nat)(v:AV):aw.at (T.set E d (some v)) t=if t=d then v else E.at t:=by
 unfold aw.at;rw[wm];split<;>rfl
theorem TR.put{N:Nat}{G:Gh}{E F:aw}{a:Act}(h:TR N G E a){j:Option Tmp}{c:AV}{v:Value}(L:VR G c v)(V:d9 N E j c=some F):TR N G F (a.put j v):=by
 cases j with
 |none=>simp[d9]at V;subst V;exact h
 |some d=>
  simp only[d9]at V;split at V
  .rename_i hd;simp only[aA]at V;subst V;have Y:d<N:=by simpa [gL]using hd
   refine⟨by simp[Act.put,h.size],fun t=>?_⟩;rw[rV];simp only[Act.put];by_cases e:t=d
   .subst e;rw[ay rfl];simpa [Array.getD,h.size,Y]using L
   .rw[ah e];have:=h.slots t;simpa [gM,p7,Ne.symm e]using this
  .simp at V
theorem lg{w:World}{b o:Nat}{v:Value}(h:w.cell? ⟨b,o,none⟩=some v):b<w.heap.size:=World.block_lt_of_cell? w ⟨b,o,none⟩ h
theorem R.congr{B:Bs}{H H':Hp}{w:World}{G:Gh}(h:R B H w G)(K:H'.next=H.next)(J:∀r,(G.β r).isSome->H'.get r=H.get r):R B H' w G:=by
 have k:∀r p,G.β r=some p->H'.get r=H.get r:=fun r p hr=>J r (by simp[hr]);exact{
  base:=h.base
  dom:=fun r p hr=>by rw[K];exact h.dom r p hr
  lt:=h.lt
  cells:=fun r b o x W imm O hr hc=>h.cells r b o x W imm O hr jd
  imm:=fun r b o x W imm O hr hc=>h.imm r b o x W imm O hr jd
  ext:=fun r b o x W imm O hr hc=>h.ext r b o x W imm O hr jd
  fits:=fun r b o x W imm O hr hc=>h.fits r b o x W imm O hr jd
  room:=fun r b o x W imm O hr hc=>h.room r b o x W imm O hr jd
  apart:=fun r b o x W imm O m Z U Y V z A hr hc i M=>h.apart r b o x W imm O m Z U Y V z A hr jd i (by rw[<-k m _ i];exact M)
  map:=fun r b o x L hr hc=>h.map r b o x L hr jd
  mapApart:=fun r b o x L m Z U Y hr hc i I=>h.mapApart r b o x L m Z U Y hr jd i (by rw[<-k m _ i];exact I)
  frz:=h.frz
  val:=h.val
  sym:=h.sym}
theorem R.kill{B:Bs}{H:Hp}{w:World}{G:Gh}(h:R B H w G)(zdg:Nat):R B (H.kill zdg) w G:=by
 have k:∀j b,(H.kill zdg).get j=some b->H.get j=some b:=fun j b Z=>by
  rw[zeI]at Z;split at Z
  .simp at Z
  .exact Z
 exact{
  base:=h.base
  dom:=h.dom
  lt:=h.lt
  cells:=fun r b o x W imm O hr hc=>h.cells r b o x W imm O hr (k _ _ hc)
  imm:=fun r b o x W imm O hr hc=>h.imm r b o x W imm O hr (k _ _ hc)
  ext:=fun r b o x W imm O hr hc=>h.ext r b o x W imm O hr (k _ _ hc)
  fits:=fun r b o x W imm O hr hc=>h.fits r b o x W imm O hr (k _ _ hc)
  room:=fun r b o x W imm O hr hc=>h.room r b o x W imm O hr (k _ _ hc)
  apart:=fun r b o x W imm O m Y U V M z A hr hc i L=>h.apart r b o x W imm O m Y U V M z A hr (k _ _ hc) i (k _ _ L)
  map:=fun r b o x K hr hc=>h.map r b o x K hr (k _ _ hc)
  mapApart:=fun r b o x K m Y U V hr hc i I=>h.mapApart r b o x K m Y U V hr (k _ _ hc) i (by
   cases J:(H.kill zdg).get m with
   |none=>simp[J]at I
   |some b=>rw[k _ _ J];rfl)
  frz:=h.frz
  val:=h.val
  sym:=h.sym}
def Gh.add(G:Gh)(r:Nat)(p:Nat×Nat×Nat):Gh:={β:=fun k=>if k=r then some p else G.β k,F:=G.F,ρ:=G.ρ}
theorem zfD(G:Gh)(r:Nat)(p:Nat×Nat×Nat):(G.add r p).β r=some p:=by simp[Gh.add]
theorem zs{G:Gh}{r:Nat}{p:Nat×Nat×Nat}(h:∀q,G.β r=some q->False):Ext G (G.add r p):=
 ⟨fun k q j=>by
  simp only[Gh.add];split
  .rename_i e;subst e;exact(h q j).elim
  .exact j,fun _ _ _ h=>h,rfl⟩
theorem gz.mono{G Z:Gh}{w:World}{b o:Nat}{cs:List AV}(e:Ext G Z)(h:gz G w b o cs):gz Z w b o cs:=
 fun j c O=>let ⟨v,i,g⟩:=h j c O;⟨v,i,g.mono e⟩
theorem nJ.mono{G Z:Gh}{U:List (AV×AV)}{ms:List MapEntry}(e:Ext G Z)(h:nJ G U ms):nJ Z U ms:=
 ⟨h.1,fun i a b F z=>⟨(h.2 i a b F z).1.mono e,(h.2 i a b F z).2.mono e⟩⟩
theorem Dc{B:Bs}{nx zdg:Nat}{X:Hp}{w:World}{G:Gh}(h:R B X w G){cs:List AV}{vs:List Value}(hno:∀q,G.β zdg=some q->False)(hlt0:zdg<X.next)(g:X.get zdg=some (.cells cs 0 true))(hnx:nx<=zdg)
 (hv:bT G cs vs) (Z:List Value) (e:TypeId) :
 Step B nx G w X (w.alloc (.cells (vs++Z).toArray e)) (G.add zdg (w.heap.size,0,vs.length+Z.length)):=by
 have V:Ext G (G.add zdg (w.heap.size,0,vs.length+Z.length)):=zs hno;have C:∀k J F,k<w.heap.size->J=k->(w.alloc (.cells (vs++Z).toArray e)).cell? ⟨J,F,none⟩=w.cell? ⟨J,F,none⟩:=fun k J F hk hb=>World.cell?_alloc_lt _ _ _ (by simpa [hb]using hk);have z:∀j,(w.alloc (.cells (vs++Z).toArray e)).cell? ⟨w.heap.size,j,none⟩=(vs++Z)[j]?:=fun j=>by
  rw[World.cell?_alloc_new];simp
 have Y:∀r p,(G.add zdg (w.heap.size,0,vs.length+Z.length)).β r=some p->(r=zdg/\p=(w.heap.size,0,vs.length+Z.length))\/(r≠zdg/\G.β r=some p):=fun r p hr=>by
  simp only[Gh.add]at hr;split at hr
  .rename_i e;exact .inl ⟨e,by simpa using hr.symm⟩
  .rename_i e;exact .inr ⟨e,hr⟩
 refine⟨?_,V,⟨rfl,rfl,rfl,aE,fun k hk _=>?_⟩,fun r b o x hr=>?_,fun r p hr=>(Y r p hr).elim (fun e=>.inr (by rw[e.1];exact hnx)) (fun e=>.inl e.2),ac,fun _ _ _ h=>.inl h⟩
 .exact{
   base:=by have:=h.base;simp;omega
   dom:=fun r p hr=>by
    rcases Y r p hr with⟨rfl,_⟩|⟨_,i⟩
    .exact hlt0
    .exact h.dom r p i
   lt:=fun r b o x hr=>by
    rcases Y r _ hr with⟨rfl,hp⟩|⟨_,i⟩
    .simp only[fu]at hp;obtain⟨rfl,rfl,rfl⟩:=hp;exact⟨h.base,aE⟩
    .have:=h.lt r b o x i;exact⟨this.1,cp⟩
   cells:=fun r b o x W imm O hr hc=>by
    rcases Y r _ hr with⟨rfl,hp⟩|⟨K,i⟩
    .simp only[fu]at hp;obtain⟨rfl,rfl,rfl⟩:=hp;rw[g]at hc;simp only[aA,HB.cells.injEq]at hc;obtain⟨rfl,rfl,rfl⟩:=hc;intro j c L;have I:j<cs.length:=(dJ.1 L).1;have hjv:j<vs.length:=by have:=hv.1;omega
     refine⟨vs[j],?_,(hv.2 j c _ L (aO hjv)).mono V⟩;rw[bz,z,je hjv,aO hjv]
    .intro j c L;obtain⟨v,A,h2⟩:=h.cells r b o x W imm O i hc j c L;exact⟨v,by rw[C _ _ _ (lg A) rfl];exact A,h2.mono V⟩
   imm:=fun r b o x W imm O hr hc j L I=>by
    rcases Y r _ hr with⟨rfl,hp⟩|⟨K,i⟩
    .rw[g]at hc;simp only[aA,HB.cells.injEq]at hc;obtain⟨rfl,rfl,rfl⟩:=hc;omega
    .exact h.imm r b o x W imm O i hc j L I
   ext:=fun r b o x W imm O hr hc=>by
    rcases Y r _ hr with⟨rfl,hp⟩|⟨K,i⟩
    .simp only[fu]at hp;obtain⟨rfl,rfl,rfl⟩:=hp;rw[g]at hc;simp only[aA,HB.cells.injEq]at hc;obtain⟨rfl,rfl,rfl⟩:=hc;have:=hv.1;simp only[zec];omega
    .exact h.ext r b o x W imm O i hc
   fits:=fun r b o x W imm O hr hc=>by
    rcases Y r _ hr with⟨rfl,hp⟩|⟨K,i⟩
    .simp only[fu]at hp;obtain⟨rfl,rfl,rfl⟩:=hp;rw[g]at hc;simp only[aA,HB.cells.injEq]at hc;obtain⟨rfl,rfl,rfl⟩:=hc;have:=hv.1;omega
    .exact h.fits r b o x W imm O i hc
   room:=fun r b o x W imm O hr hc j L I=>by
    rcases Y r _ hr with⟨rfl,hp⟩|⟨K,i⟩
    .simp only[fu]at hp;obtain⟨rfl,rfl,rfl⟩:=hp;rw[g]at hc;simp only[aA,HB.cells.injEq]at hc;obtain⟨rfl,rfl,rfl⟩:=hc;simp only[zec]at I;refine⟨⟨(vs++Z)[j]' cp,?_⟩,?_,?_⟩
     .rw[bz,z,aO]
     .simp
     .cases hf:G.F w.heap.size (0+j)with
      |none=>exact hf
      |some v=>have:=lg (h.frz _ _ _ hf);omega
    .obtain⟨⟨v,A⟩,h2,h3⟩:=h.room r b o x W imm O i hc j L I;exact⟨⟨v,by rw[C _ _ _ (lg A) rfl];exact A⟩,by rw[World.frozen?_alloc_old _ _ _ (by have:=lg A;simp;omega)];exact h2,h3⟩
   apart:=fun r b o x cs1 imm O m J F x' cs2 imm' tip' hr hc i hc' K j j' L I hj' hjl' he=>by
    rcases Y r _ hr with⟨rfl,hp⟩|⟨hn1,U⟩
    .simp only[fu]at hp;obtain⟨rfl,rfl,rfl⟩:=hp;rcases Y m _ i with⟨rfl,hp⟩|⟨hn2,M⟩
     .exact(K rfl).elim
     .have:=(h.lt m J F x' M).2;omega
    .rcases Y m _ i with⟨rfl,hp⟩|⟨hn2,M⟩
     .simp only[fu]at hp;obtain⟨rfl,rfl,rfl⟩:=hp;have:=(h.lt r b o x U).2;omega
     .exact h.apart r b o x cs1 imm O m J F x' cs2 imm' tip' U hc M hc' K j j' L I hj' hjl' he
   map:=fun r b o x es hr hc=>by
    rcases Y r _ hr with⟨rfl,hp⟩|⟨K,i⟩
    .rw[g]at hc;simp at hc
    .obtain⟨ms,clock,A,h2⟩:=h.map r b o x es i hc;refine⟨ms,clock,?_,h2.mono V⟩;rw[wj _ _ _ (h.lt r b o x i).2];exact A
   mapApart:=fun r b o x es m J F x' hr hc i hs K=>by
    rcases Y r _ hr with⟨rfl,hp⟩|⟨hn1,U⟩
    .rw[g]at hc;simp at hc
    .rcases Y m _ i with⟨rfl,hp⟩|⟨hn2,M⟩
     .simp only[fu]at hp;obtain⟨rfl,rfl,rfl⟩:=hp;have:=(h.lt r b o x U).2;omega
     .exact h.mapApart r b o x es m J F x' U hc M hs K
   frz:=fun b o v hf=>by
    have:=h.frz b o v hf;rw[C _ _ _ (lg this) rfl];exact this
   val:=h.val
   sym:=h.sym}
 .exact wj _ _ _ hk
 .rcases Y r _ hr with⟨rfl,hp⟩|⟨_,i⟩
  .simp only[fu]at hp;obtain⟨rfl,rfl,rfl⟩:=hp;exact .inr (.inl (aM _))
  .exact .inl i
theorem Dd{B:Bs}{nx zdg:Nat}{X:Hp}{w:World}{G:Gh}(h:R B X w G)(hno:∀q,G.β zdg=some q->False)(hlt0:zdg<X.next)(g:X.get zdg=some (.map []))(hnx:nx<=zdg):
 Step B nx G w X (w.alloc (.map #[] 0)) (G.add zdg (w.heap.size,0,0)):=by
 have V:Ext G (G.add zdg (w.heap.size,0,0)):=zs hno;have C:∀k U L,k<w.heap.size->U=k->(w.alloc (.map #[] 0)).cell? ⟨U,L,none⟩=w.cell? ⟨U,L,none⟩:=fun k U L hk hb=>World.cell?_alloc_lt _ _ _ (by simpa [hb]using hk);have Z:∀r p,(G.add zdg (w.heap.size,0,0)).β r=some p->(r=zdg/\p=(w.heap.size,0,0))\/(r≠zdg/\G.β r=some p):=fun r p hr=>by
  simp only[Gh.add]at hr;split at hr
  .rename_i e;exact .inl ⟨e,by simpa using hr.symm⟩
  .rename_i e;exact .inr ⟨e,hr⟩
 refine⟨?_,V,⟨rfl,rfl,rfl,aE,fun k hk _=>?_⟩,fun r b o x hr=>?_,fun r p hr=>(Z r p hr).elim (fun e=>.inr (by rw[e.1];exact hnx)) (fun e=>.inl e.2),ac,fun _ _ _ h=>.inl h⟩
 .exact{
   base:=by have:=h.base;simp;omega
   dom:=fun r p hr=>by
    rcases Z r p hr with⟨rfl,_⟩|⟨_,i⟩
    .exact hlt0
    .exact h.dom r p i
   lt:=fun r b o x hr=>by
    rcases Z r _ hr with⟨rfl,hp⟩|⟨_,i⟩
    .simp only[fu]at hp;obtain⟨rfl,rfl,rfl⟩:=hp;exact⟨h.base,aE⟩
    .have:=h.lt r b o x i;exact⟨this.1,cp⟩
   cells:=fun r b o x Y imm O hr hc=>by
    rcases Z r _ hr with⟨rfl,hp⟩|⟨K,i⟩
    .rw[g]at hc;simp at hc
    .intro j c F;obtain⟨v,J,h2⟩:=h.cells r b o x Y imm O i hc j c F;exact⟨v,by rw[C _ _ _ (lg J) rfl];exact J,h2.mono V⟩
   imm:=fun r b o x Y imm O hr hc j F I=>by
    rcases Z r _ hr with⟨rfl,hp⟩|⟨K,i⟩
    .rw[g]at hc;simp at hc
    .exact h.imm r b o x Y imm O i hc j F I
   ext:=fun r b o x Y imm O hr hc=>by
    rcases Z r _ hr with⟨rfl,hp⟩|⟨K,i⟩
    .rw[g]at hc;simp at hc
    .exact h.ext r b o x Y imm O i hc
   fits:=fun r b o x Y imm O hr hc=>by
    rcases Z r _ hr with⟨rfl,hp⟩|⟨K,i⟩
    .rw[g]at hc;simp at hc
    .exact h.fits r b o x Y imm O i hc
   room:=fun r b o x Y imm O hr hc j F I=>by
    rcases Z r _ hr with⟨rfl,hp⟩|⟨K,i⟩
    .rw[g]at hc;simp at hc
    .obtain⟨⟨v,J⟩,h2,h3⟩:=h.room r b o x Y imm O i hc j F I;exact⟨⟨v,by rw[C _ _ _ (lg J) rfl];exact J⟩,by rw[World.frozen?_alloc_old _ _ _ (by have:=lg J;simp;omega)];exact h2,h3⟩
   apart:=fun r b o x cs1 imm O m U L x' cs2 imm' tip' hr hc i A K j j' F I hj' hjl' he=>by
    rcases Z r _ hr with⟨rfl,hp⟩|⟨hn1,M⟩
    .rw[g]at hc;simp at hc
    .rcases Z m _ i with⟨rfl,hp⟩|⟨hn2,W⟩
     .rw[g]at A;simp at A
     .exact h.apart r b o x cs1 imm O m U L x' cs2 imm' tip' M hc W A K j j' F I hj' hjl' he
   map:=fun r b o x es hr hc=>by
    rcases Z r _ hr with⟨rfl,hp⟩|⟨K,i⟩
    .simp only[fu]at hp;obtain⟨rfl,rfl,rfl⟩:=hp;rw[g]at hc;simp only[aA,HB.map.injEq]at hc;subst hc;exact⟨#[],0,by show(w.heap.push _)[w.heap.size]?=_;simp,rfl,aE⟩
    .obtain⟨ms,z,J,h2⟩:=h.map r b o x es i hc;refine⟨ms,z,?_,h2.mono V⟩;rw[wj _ _ _ (h.lt r b o x i).2];exact J
   mapApart:=fun r b o x es m U L x' hr hc i hs K=>by
    rcases Z r _ hr with⟨rfl,hp⟩|⟨hn1,M⟩
    .simp only[fu]at hp;obtain⟨rfl,rfl,rfl⟩:=hp;rcases Z m _ i with⟨rfl,hp⟩|⟨hn2,W⟩
     .exact(K rfl).elim
     .have:=(h.lt m U L x' W).2;omega
    .rcases Z m _ i with⟨rfl,hp⟩|⟨hn2,W⟩
     .simp only[fu]at hp;obtain⟨rfl,rfl,rfl⟩:=hp;have:=(h.lt r b o x M).2;omega
     .exact h.mapApart r b o x es m U L x' M hc W hs K
   frz:=fun b o v hf=>by
    have:=h.frz b o v hf;rw[C _ _ _ (lg this) rfl];exact this
   val:=h.val
   sym:=h.sym}
 .exact wj _ _ _ hk
 .rcases Z r _ hr with⟨rfl,hp⟩|⟨_,i⟩
  .simp only[fu]at hp;obtain⟨rfl,rfl,rfl⟩:=hp;exact .inr (.inl (aM _))
  .exact .inl i
theorem R.more{B:Bs}{H X:Hp}{w:World}{G:Gh}(h:R B H w G)(K:H.next<=X.next)(J:∀r,r<H.next->X.get r=H.get r):R B X w G:=by
 have k:∀r p,G.β r=some p->X.get r=H.get r:=fun r p hr=>J r (h.dom r p hr);exact{
  base:=h.base
  dom:=fun r p hr=>gk (h.dom r p hr) K
  lt:=h.lt
  cells:=fun r b o x W imm O hr hc=>h.cells r b o x W imm O hr jd
  imm:=fun r b o x W imm O hr hc=>h.imm r b o x W imm O hr jd
  ext:=fun r b o x W imm O hr hc=>h.ext r b o x W imm O hr jd
  fits:=fun r b o x W imm O hr hc=>h.fits r b o x W imm O hr jd
  room:=fun r b o x W imm O hr hc=>h.room r b o x W imm O hr jd
  apart:=fun r b o x W imm O m Z U Y V z A hr hc i M=>h.apart r b o x W imm O m Z U Y V z A hr jd i (by rw[<-k m _ i];exact M)
  map:=fun r b o x L hr hc=>h.map r b o x L hr jd
  mapApart:=fun r b o x L m Z U Y hr hc i I=>h.mapApart r b o x L m Z U Y hr jd i (by rw[<-k m _ i];exact I)
  frz:=h.frz
  val:=h.val
  sym:=h.sym}
theorem R.alloc{B:Bs}{H:Hp}{w:World}{G:Gh}(h:R B H w G)(g:HB):R B (H.alloc g) w G:=
 h.more (gm _) (fun r hr=>fK)
theorem wn{B:Bs}{H:Hp}{w:World}{G:Gh}(h:R B H w G){cs:List AV}{vs:List Value}(L:bT G cs vs)(i:List Value)(e:TypeId):
 Step B H.next G w (H.alloc (.cells cs 0 true)) (w.alloc (.cells (vs++i).toArray e)) (G.add H.next (w.heap.size,0,vs.length+i.length)):=
 Dc (h.alloc _) (fun q K=>zn) aE iu (aM _) L i e
theorem Le{B:Bs}{H:Hp}{w:World}{G:Gh}(h:R B H w G):
 Step B H.next G w (H.alloc (.map [])) (w.alloc (.map #[] 0)) (G.add H.next (w.heap.size,0,0)):=
 Dd (h.alloc _) (fun q K=>zn) aE iu (aM _)
inductive Made (G:Gh):HB->Obj->Nat->Prop
 |cells (cs:List AV) (vs spare:List Value) (e:TypeId) (hv:bT G cs vs):Made G (.cells cs 0 true) (.cells (vs++spare).toArray e) (vs.length+spare.length)
 |map:Made G (.map []) (.map #[] 0) 0
theorem De{B:Bs}{o zdg:Nat}{X:Hp}{w:World}{G:Gh}{g:HB}{A:Obj}{ext:Nat}(h:R B X w G)(z:∀q,G.β zdg=some q->False)(Z:zdg<X.next)(W:X.get zdg=some g)(Y:o<=zdg)(M:Made G g A ext):
 Step B o G w X (w.alloc A) (G.add zdg (w.heap.size,0,ext)):=by
 cases M with
 |cells V vs i e L=>exact Dc h z Z W Y L i e
 |map=>exact Dd h z Z W Y
def lP(P:Program)(G:Gh)(w:World){M:Type}(s:Sem M)(f:Value->M)(c:AV)(H H':Hp):Prop:=
 ∃g A ext v,H'=H.alloc g/\s.run P w=.ok (f v) (w.alloc A)/\Made G g A ext/\∀Z:Gh,Z.β H.next=some (w.heap.size,0,ext)->VR Z c v
theorem lP.sim{P:Program}{B:Bs}{H H':Hp}{w:World}{G:Gh}(h:R B H w G){s:Sem Value}{c:AV}(M:lP P G w s id c H H'):∃v W Z,s.run P w=.ok v W/\VR Z c v/\Step B H.next G w H' W Z:=by
 obtain⟨g,A,ext,v,rfl,i,Y,m⟩:=M;exact⟨v,_,_,i,m _ (zfD _ _ _),De (h.alloc _) (fun q K=>zn) aE iu (aM _) Y⟩
theorem lP.next{P:Program}{H H':Hp}{w:World}{G:Gh}{s:Sem Value}{c:AV}(M:lP P G w s id c H H'):lP P G w (do pure (.value (<-s)):Sem Next) Next.value c H H':=by
 obtain⟨g,A,ext,v,o,i,Z,m⟩:=M;exact⟨g,A,ext,v,o,by simp[i],Z,m⟩
theorem Lf{b o i U:Nat}(h:b=i->o≠U):(⟨b,o,none⟩:Addr)≠⟨i,U,none⟩:=fun e=>by
 simp only[Addr.mk.injEq]at e;exact h e.1 e.2.1
theorem Lg{B:Bs}{H:Hp}{w:World}{G:Gh}(h:R B H w G){r b o x:Nat}{cs cs':List AV}{imm:Nat}{tip:Bool}(hr:G.β r=some (b,o,x))(hc:H.get r=some (.cells cs imm tip))
 {j:Nat} (hj:imm<=j) (hjl:j<zec x cs tip) {v:Value}
 (hcs:∀(i:Nat) c,cs'[i]?=some c->(i=j/\VR G c v)\/(i≠j/\cs[i]?=some c)) (hl:cs'.length<=zec x cs tip) (hl':tip=false->cs'.length=cs.length) :
 Step B H.next G w (H.set r (.cells cs' imm tip)) (w.setCell ⟨b,o+j,none⟩ v) G:=by
 obtain⟨⟨u,hu⟩,hfz,hF⟩:=h.room r b o x cs imm tip hr hc j hj hjl;have hsame:(w.setCell ⟨b,o+j,none⟩ v).cell? ⟨b,o+j,none⟩=some v:=World.cell?_setCell_same _ _ _ hu;have O:∀F C,(F=b->C≠o+j)->(w.setCell ⟨b,o+j,none⟩ v).cell? ⟨F,C,none⟩=w.cell? ⟨F,C,none⟩:=fun F C m=>
  World.cell?_setCell_other _ _ _ _ (Lf fun e e'=>m e.symm e'.symm)
 have K:zec x cs' tip=zec x cs tip:=by
  cases tip with
  |true=>rfl
  |false=>exact hl' rfl
 have U:∀k,k≠r->(H.set r (.cells cs' imm tip)).get k=H.get k:=fun k hk=>by rw[aX,ah hk]
 have z:(H.set r (.cells cs' imm tip)).get r=some (.cells cs' imm tip):=hW;have hkeep:∀F C v',G.F F C=some v'->(F=b->C≠o+j):=fun F C v' hf e e'=>by subst e;subst e';rw[hF]at hf;simp at hf
 have hcell:∀F C,(∃v',w.cell? ⟨F,C,none⟩=some v')->∃v',(w.setCell ⟨b,o+j,none⟩ v).cell? ⟨F,C,none⟩=some v':=fun F C ⟨v',hv'⟩=>by
  by_cases e:F=b/\C=o+j
  .obtain⟨rfl,rfl⟩:=e;exact⟨v,hsame⟩
  .exact⟨v',by rw[O F C (fun e1 e2=>e ⟨e1,e2⟩)];exact hv'⟩
 refine⟨?_,rU _,⟨rfl,rfl,rfl,aE,fun k hk hn=>?_⟩,p8 _ _,fun _ _ h=>.inl h,aM _,fun _ _ _ h=>.inl h⟩
 .exact{
   base:=by have:=h.base;simpa using this
   dom:=h.dom
   lt:=fun r b o x hr=>by have:=h.lt r b o x hr;simpa using this
   cells:=fun zc0 A J M V W g Y Z=>by
    by_cases e:zc0=r
    .subst e;rw[hr]at Y;simp only[ck]at Y;obtain⟨rfl,rfl,rfl⟩:=Y;rw[z]at Z;simp only[aA,HB.cells.injEq]at Z;obtain⟨rfl,rfl,rfl⟩:=Z;intro i c hi;rcases hcs i c hi with⟨rfl,hv⟩|⟨m,hi'⟩
     .exact⟨v,hsame,hv⟩
     .obtain⟨v',h1,h2⟩:=h.cells zc0 b o x cs imm tip hr hc i c hi';exact⟨v',by rw[O _ _ (fun _=>ac)];exact h1,h2⟩
    .rw[U zc0 e]at Z;intro i c hi;obtain⟨v',h1,h2⟩:=h.cells zc0 A J M V W g Y Z i c hi;refine⟨v',?_,h2⟩;rw[O]
     .exact h1
     .have L:i<V.length:=(dJ.1 hi).1;have hex:=h.ext zc0 A J M V W g Y Z;by_cases hi1:W<=i
      .exact h.apart zc0 A J M V W g r b o x cs imm tip Y Z hr hc e i j hi1 ac hj hjl
      .obtain⟨u',hu'⟩:=h.imm zc0 A J M V W g Y Z i ac L;exact hkeep _ _ _ hu'
   imm:=fun zc0 A J M V W g Y Z i hi L=>by
    by_cases e:zc0=r
    .subst e;rw[hr]at Y;simp only[ck]at Y;obtain⟨rfl,rfl,rfl⟩:=Y;rw[z]at Z;simp only[aA,HB.cells.injEq]at Z;obtain⟨rfl,rfl,rfl⟩:=Z;rcases hcs i _ (aO L)with⟨rfl,_⟩|⟨_,hi'⟩
     .omega
     .exact h.imm zc0 b o x cs imm tip hr hc i hi (dJ.1 hi').1
    .rw[U zc0 e]at Z;exact h.imm zc0 A J M V W g Y Z i hi L
   ext:=fun zc0 A J M V W g Y Z=>by
    by_cases e:zc0=r
    .subst e;rw[hr]at Y;simp only[ck]at Y;obtain⟨rfl,rfl,rfl⟩:=Y;rw[z]at Z;simp only[aA,HB.cells.injEq]at Z;obtain⟨rfl,rfl,rfl⟩:=Z;rw[K];exact hl
    .rw[U zc0 e]at Z;exact h.ext zc0 A J M V W g Y Z
   fits:=fun zc0 A J M V W g Y Z=>by
    by_cases e:zc0=r
    .subst e;rw[hr]at Y;simp only[ck]at Y;obtain⟨rfl,rfl,rfl⟩:=Y;rw[z]at Z;simp only[aA,HB.cells.injEq]at Z;obtain⟨rfl,rfl,rfl⟩:=Z;rcases Bool.eq_false_or_eq_true tip with e1|e1
     .subst e1;exact hl
     .rw[hl' e1];exact h.fits _ _ _ _ _ _ _ hr hc
    .rw[U zc0 e]at Z;exact h.fits zc0 A J M V W g Y Z
   room:=fun zc0 A J M V W g Y Z i hi L=>by
    by_cases e:zc0=r
    .subst e;rw[hr]at Y;simp only[ck]at Y;obtain⟨rfl,rfl,rfl⟩:=Y;rw[z]at Z;simp only[aA,HB.cells.injEq]at Z;obtain⟨rfl,rfl,rfl⟩:=Z;rw[K]at L;obtain⟨h1,h2,h3⟩:=h.room zc0 b o x cs imm tip hr hc i hi L;exact⟨hcell _ _ h1,by rw[World.frozen?_setCell];exact h2,h3⟩
    .rw[U zc0 e]at Z;obtain⟨h1,h2,h3⟩:=h.room zc0 A J M V W g Y Z i hi L;exact⟨hcell _ _ h1,by rw[World.frozen?_setCell];exact h2,h3⟩
   apart:=fun zc0 A J M V W g r2 b2 o2 x2 cs2 imm2 tip2 Y Z hr2 hc2 m i i' hi L hi' hil'=>by
    have key:∀k bk ok xk csk immk I,G.β k=some (bk,ok,xk)->(H.set r (.cells cs' imm tip)).get k=some (.cells csk immk I) ->
     ∃cs0,H.get k=some (.cells cs0 immk I)/\zec xk cs0 I=zec xk csk I:=fun k bk ok xk csk immk I hk hck=>by
     by_cases e:k=r
     .subst e;rw[hr]at hk;simp only[ck]at hk;obtain⟨rfl,rfl,rfl⟩:=hk;rw[z]at hck;simp only[aA,HB.cells.injEq]at hck;obtain⟨rfl,rfl,rfl⟩:=hck;exact⟨cs,hc,K.symm⟩
     .rw[U k e]at hck;exact⟨csk,hck,rfl⟩
    obtain⟨c1,g1,e1⟩:=key zc0 A J M V W g Y Z;obtain⟨c2,g2,e2⟩:=key r2 b2 o2 x2 cs2 imm2 tip2 hr2 hc2;exact h.apart zc0 A J M c1 W g r2 b2 o2 x2 c2 imm2 tip2 Y g1 hr2 g2 m i i' hi ac hi' ac
   map:=fun zc0 A J M es Y Z=>by
    by_cases e:zc0=r
    .subst e;rw[z]at Z;simp at Z
    .rw[U zc0 e]at Z;obtain⟨ms,clock,h1,h2⟩:=h.map zc0 A J M es Y Z;refine⟨ms,clock,?_,h2⟩;have hb:A≠b:=fun eb=>by
      subst eb;unfold World.cell? at hu;rw[h1]at hu;simp at hu
     rw[Below.heap_setCell _ _ _ _ hb];exact h1
   mapApart:=fun zc0 A J M es r2 b2 o2 x2 Y Z hr2 hs m=>by
    by_cases e:zc0=r
    .subst e;rw[z]at Z;simp at Z
    .rw[U zc0 e]at Z;refine h.mapApart zc0 A J M es r2 b2 o2 x2 Y Z hr2 ?_ m;by_cases e2:r2=r
     .subst e2;rw[hc];rfl
     .rw[U r2 e2]at hs;exact hs
   frz:=fun F C v' hf=>by rw[O _ _ (hkeep _ _ _ hf)];exact h.frz _ _ _ hf
   val:=h.val
   sym:=h.sym}
 .exact Below.heap_setCell _ _ _ _ (fun e=>hn r b o x hr e.symm)
theorem Lh{B:Bs}{H:Hp}{w:World}{G:Gh}(P:Program)(h:R B H w G){r b o x:Nat}{cs:List AV}{imm:Nat}{tip:Bool}(hr:G.β r=some (b,o,x))(O:H.get r=some (.cells cs imm tip))
 {j:Nat} (Y:imm<=j) (I:j<zec x cs tip) {v:Value} (W:v.oneCell'=true) :
 (store ⟨b,o+j,none⟩ v).run P w=.ok () (w.setCell ⟨b,o+j,none⟩ v):=by
 obtain⟨⟨u,V⟩,Z,_⟩:=h.room r b o x cs imm tip hr O j Y I;rw[run_store P w _ v _ W,V];simp[Z]
theorem Li(cs:List AV)(off:Nat)(c:AV)(L:List AV)(h:off<=cs.length):splice cs off (c::L)=splice (splice cs off [c]) (off+1) L:=by
 unfold splice;have i:(List.take off cs++[c]++List.drop (off+[c].length) cs).take (off+1)=List.take off cs++[c]:=by
  rw[zq cp,eF cp]
 have g:(List.take off cs++[c]++List.drop (off+[c].length) cs).drop (off+1+L.length)=List.drop (off+(L.length+1)) cs:=by
  rw[List.drop_append,zr cp];simp only[fv,iS,dl,jx,wl,lN]
  congr 1
  omega
 rw[i,g];simp
theorem Lj(cs:List AV)(off:Nat):splice cs off []=cs:=by simp[splice]
theorem Lk(cs:List AV)(off:Nat)(L:List AV)(h:off+L.length<=cs.length):(splice cs off L).length=cs.length:=by simp[splice];omega
theorem Ll(cs:List AV)(off:Nat)(L:List AV)(h:off<=cs.length):(splice cs off L).length=max cs.length (off+L.length):=by simp[splice];omega
theorem Df(cs L:List AV):splice cs cs.length L=cs++L:=by simp[splice]
theorem splice_one{cs:List AV}{j:Nat}(c:AV)(O:j<=cs.length){i:Nat}{d:AV}(h:(splice cs j [c])[i]?=some d):(i=j/\d=c)\/(i≠j/\cs[i]?=some d):=by
 unfold splice at h;by_cases C:i<j
 .rw[gw,je cp,mw,ay C]at h;exact .inr ⟨ac,h⟩
 .by_cases e:i=j
  .subst e;rw[gw,jS cp]at h;have Y:i-(List.take i cs).length=0:=cp;rw[Y]at h;simp at h;exact .inl ⟨rfl,h.symm⟩
  .rw[jS cp]at h;rw[nI]at h;refine .inr ⟨e,?_⟩;rw[<-h]
   congr 1
   simp;omega
theorem zfn(b o i:Nat):(⟨b,o,none⟩:Addr).add i=⟨b,o+i,none⟩:=by
 unfold Addr.add;split
 .rename_i e;subst e;rfl
 .rfl
theorem Step.congr{B:Bs}{o:Nat}{G Z:Gh}{w w':World}{H H':Hp}(h:Step B o G w H w' Z)(Y:H'.next=H.next)(A:∀r,(Z.β r).isSome->H'.get r=H.get r):Step B o G w H' w' Z:=
 ⟨h.r.congr Y A,h.ext,h.fr,h.new,h.low,by rw[Y];exact h.mono,h.icy⟩
theorem zt{B:Bs}(P:Program){G:Gh}{r b o x:Nat}{imm:Nat}{tip:Bool}(hr:G.β r=some (b,o,x))(off:Nat):∀(L:List AV) (vs:List Value) (W:List AV) (i:Nat) (H:Hp) (w:World),R B H w G ->
 H.get r=some (.cells W imm tip)->bT G L vs->(∀v∈vs,v.oneCell'=true)->imm<=off+i->off+i<=W.length->off+i+L.length<=zec x W tip->(tip=false->off+i+L.length<=W.length) ->
 ∃J,(storeCells ⟨b,o+off,none⟩ vs i).run P w=.ok () J/\Step B H.next G w (H.set r (.cells (splice W (off+i) L) imm tip)) J G:=by
 intro L;induction L with
 |nil=>
  intro vs W i H w M hc I Y F A U _;have O:vs=[]:=by have:=I.1;simpa using this.symm
  subst O;refine⟨w,rfl,(jf M).congr rfl fun k _=>?_⟩;rw[aX,Lj];split
  .rename_i e;subst e;rw[hc]
  .rfl
 |cons c L ih=>
  intro vs W i H w M hc I Y F A U Z;cases vs with
  |nil=>have:=I.1;simp at this
  |cons v vs=>
   obtain⟨m,O⟩:=I.of_cons;simp only[dl]at U Z;have V:(splice W (off+i) [c]).length=max W.length (off+i+1):=Ll _ _ _ A;have hext:=M.ext r b o x W imm tip hr hc;have K:=Lg M hr hc (j:=off+i) (cs':=splice W (off+i) [c]) (v:=v) F ac
    (fun k d hk=>by
      rcases splice_one c A hk with⟨e1,e2⟩|h2
      .subst e2;exact .inl ⟨e1,m⟩
      .exact .inr h2)
    (by rw[V];cases tip with
        |true=>simp only[zec]at *;omega
        |false=>have:=Z rfl;simp only[zec]at *;omega)
    (fun C=>by have:=Z C;rw[V];omega)
   have g:=Lh P M hr hc (j:=off+i) F ac (v:=v) (Y v aE);have hg1:(H.set r (.cells (splice W (off+i) [c]) imm tip)).get r=some (.cells (splice W (off+i) [c]) imm tip):=hW;have z:zec x (splice W (off+i) [c]) tip=zec x W tip:=by
    cases tip with
    |true=>rfl
    |false=>have:=Z rfl;simp only[zec];omega
   obtain⟨J,hw',hs'⟩:=ih vs (splice W (off+i) [c]) (i+1) _ _ K.r hg1 O (fun u hu=>Y u (by simp[hu])) ac (by rw[V];omega) (by rw[z];omega) (fun C=>by have:=Z C;rw[V];omega);refine⟨J,?_,(K.trans hs').congr rfl fun k _=>?_⟩
   .simp only[storeCells,dN];rw[zfn,hZ,g];exact hw'
   .rw[aX,aX,aX,Li _ _ _ _ A];split
    .rfl
    .rfl
theorem Dg{B:Bs}{H:Hp}{w:World}{G:Gh}(h:R B H w G){r b o x:Nat}{cs:List AV}{imm:Nat}(hr:G.β r=some (b,o,x))(hc:H.get r=some (.cells cs imm true)){off:Nat}(hoff:off<=cs.length):
 Step B H.next G w ((H.kill r).alloc (.cells (cs.drop off) (imm-off) true)) w (G.add H.next (b,o+off,x-off)):=by
 have hno:∀q,G.β H.next=some q->False:=fun q hq=>by have:=h.dom _ _ hq;omega
 have hext:Ext G (G.add H.next (b,o+off,x-off)):=zs hno;have hrn:r≠H.next:=fun e=>by subst e;exact hno _ hr
 have i:∀k p,(G.add H.next (b,o+off,x-off)).β k=some p->(k=H.next/\p=(b,o+off,x-off))\/(k≠H.next/\G.β k=some p):=fun k p W=>by
  simp only[Gh.add]at W;split at W
  .rename_i e;exact .inl ⟨e,by simpa using W.symm⟩
  .rename_i e;exact .inr ⟨e,W⟩
 have Z:∀k q,k≠H.next->((H.kill r).alloc (.cells (cs.drop off) (imm-off) true)).get k=some q->k≠r/\H.get k=some q:=fun k q W hq=>by
  rw[zcY,zfq,ah W,zeI]at hq;split at hq
  .simp at hq
  .rename_i e;exact⟨e,hq⟩
 have g:((H.kill r).alloc (.cells (cs.drop off) (imm-off) true)).get H.next=some (.cells (cs.drop off) (imm-off) true):=by rw[zcY,zfq,ay rfl]
 have hlen:=h.ext r b o x cs imm true hr hc;simp only[zec]at hlen;refine⟨?_,hext,tY _ _,fun k M L C W=>?_,fun k p W=>(i k p W).elim (fun e=>.inr (by rw[e.1];exact aM _)) (fun e=>.inl e.2),aE,fun _ _ _ h=>.inl h⟩
 .exact{
   base:=h.base
   dom:=fun k p W=>by
    rcases i k p W with⟨rfl,_⟩|⟨_,I⟩
    .simp
    .have:=h.dom k p I;simp;omega
   lt:=fun k M L C W=>by
    rcases i k _ W with⟨rfl,hp⟩|⟨_,I⟩
    .simp only[fu]at hp;obtain⟨rfl,rfl,rfl⟩:=hp;exact h.lt r _ _ _ hr
    .exact h.lt k M L C I
   cells:=fun k M L C V z Y W m=>by
    rcases i k _ W with⟨rfl,hp⟩|⟨K,I⟩
    .simp only[fu]at hp;obtain⟨rfl,rfl,rfl⟩:=hp;rw[g]at m;simp only[aA,HB.cells.injEq]at m;obtain⟨rfl,rfl,rfl⟩:=m;intro j c hj;rw[nI]at hj;obtain⟨v,h1,h2⟩:=h.cells r _ _ _ _ _ _ hr hc (off+j) c hj;exact⟨v,by rw[hZ];exact h1,h2.mono hext⟩
    .obtain⟨_,A⟩:=Z k _ K m;exact(h.cells k M L C V z Y I A).mono hext
   imm:=fun k M L C V z Y W m j hj hjl=>by
    rcases i k _ W with⟨rfl,hp⟩|⟨K,I⟩
    .simp only[fu]at hp;obtain⟨rfl,rfl,rfl⟩:=hp;rw[g]at m;simp only[aA,HB.cells.injEq]at m;obtain⟨rfl,rfl,rfl⟩:=m;rw[iw]at hjl;rw[hZ];exact h.imm r _ _ _ _ _ _ hr hc (off+j) ac ac
    .obtain⟨_,A⟩:=Z k _ K m;exact h.imm k M L C V z Y I A j hj hjl
   ext:=fun k M L C V z Y W m=>by
    rcases i k _ W with⟨rfl,hp⟩|⟨K,I⟩
    .simp only[fu]at hp;obtain⟨rfl,rfl,rfl⟩:=hp;rw[g]at m;simp only[aA,HB.cells.injEq]at m;obtain⟨rfl,rfl,rfl⟩:=m;simp only[zec,iw];omega
    .obtain⟨_,A⟩:=Z k _ K m;exact h.ext k M L C V z Y I A
   fits:=fun k M L C V z Y W m=>by
    rcases i k _ W with⟨rfl,hp⟩|⟨K,I⟩
    .simp only[fu]at hp;obtain⟨rfl,rfl,rfl⟩:=hp;rw[g]at m;simp only[aA,HB.cells.injEq]at m;obtain⟨rfl,rfl,rfl⟩:=m;simp only[iw];omega
    .obtain⟨_,A⟩:=Z k _ K m;exact h.fits k M L C V z Y I A
   room:=fun k M L C V z Y W m j hj hjl=>by
    rcases i k _ W with⟨rfl,hp⟩|⟨K,I⟩
    .simp only[fu]at hp;obtain⟨rfl,rfl,rfl⟩:=hp;rw[g]at m;simp only[aA,HB.cells.injEq]at m;obtain⟨rfl,rfl,rfl⟩:=m;simp only[zec]at hjl;rw[hZ];exact h.room r _ _ _ _ _ _ hr hc (off+j) ac tW
    .obtain⟨_,A⟩:=Z k _ K m;exact h.room k M L C V z Y I A j hj hjl
   apart:=fun k1 b1 o1 x1 cs1 imm1 tip1 zdp b2 o2 x2 cs2 imm2 tip2 hk1 U hk2 hc2 K j1 j2 hj1 hl1 hj2 hl2 he=>by
    rcases i k1 _ hk1 with⟨rfl,hp⟩|⟨hn1,O⟩
    .simp only[fu]at hp;obtain⟨rfl,rfl,rfl⟩:=hp;rw[g]at U;simp only[aA,HB.cells.injEq]at U;obtain⟨rfl,rfl,rfl⟩:=U;simp only[zec]at hl1;rcases i zdp _ hk2 with⟨rfl,hp⟩|⟨hn2,J⟩
     .exact(K rfl).elim
     .obtain⟨hr2,hc2'⟩:=Z zdp _ hn2 hc2;rw[hZ];exact h.apart r _ _ _ _ _ _ zdp b2 o2 x2 cs2 imm2 tip2 hr hc J hc2' (Ne.symm hr2) (off+j1) j2 ac tW hj2 hl2 he
    .obtain⟨hr1,F⟩:=Z k1 _ hn1 U;rcases i zdp _ hk2 with⟨rfl,hp⟩|⟨hn2,J⟩
     .simp only[fu]at hp;obtain⟨rfl,rfl,rfl⟩:=hp;rw[g]at hc2;simp only[aA,HB.cells.injEq]at hc2;obtain⟨rfl,rfl,rfl⟩:=hc2;simp only[zec]at hl2;rw[hZ];exact h.apart k1 b1 o1 x1 cs1 imm1 tip1 r _ _ _ _ _ _ O F hr hc hr1 j1 (off+j2) hj1 hl1 ac tW he
     .obtain⟨hr2,hc2'⟩:=Z zdp _ hn2 hc2;exact h.apart k1 b1 o1 x1 cs1 imm1 tip1 zdp b2 o2 x2 cs2 imm2 tip2 O F J hc2' K j1 j2 hj1 hl1 hj2 hl2 he
   map:=fun k M L C es W m=>by
    rcases i k _ W with⟨rfl,hp⟩|⟨K,I⟩
    .rw[g]at m;simp at m
    .obtain⟨_,A⟩:=Z k _ K m;obtain⟨ms,clock,h1,h2⟩:=h.map k M L C es I A;exact⟨ms,clock,h1,h2.mono hext⟩
   mapApart:=fun k1 b1 o1 x1 es zdp b2 o2 x2 hk1 U hk2 hs K=>by
    rcases i k1 _ hk1 with⟨rfl,hp⟩|⟨hn1,O⟩
    .rw[g]at U;simp at U
    .obtain⟨hr1,F⟩:=Z k1 _ hn1 U;rcases i zdp _ hk2 with⟨rfl,hp⟩|⟨hn2,J⟩
     .simp only[fu]at hp;obtain⟨rfl,rfl,rfl⟩:=hp;exact h.mapApart k1 b1 o1 x1 es r _ _ _ O F hr (by rw[hc];rfl) hr1
     .cases hh:((H.kill r).alloc (.cells (cs.drop off) (imm-off) true)).get zdp with
      |none=>simp[hh]at hs
      |some q=>
       obtain⟨_,hq⟩:=Z zdp q hn2 hh;exact h.mapApart k1 b1 o1 x1 es zdp b2 o2 x2 O F J (by rw[hq];rfl) K
   frz:=h.frz
   val:=h.val
   sym:=h.sym}
 .rcases i k _ W with⟨rfl,hp⟩|⟨_,I⟩
  .simp only[fu]at hp;obtain⟨rfl,rfl,rfl⟩:=hp;exact .inr (.inr ⟨r,o,x,hr⟩)
  .exact .inl I
def Gh.ice(G:Gh)(w:World)(b o n:Nat):Gh:={β:=G.β,F:=fun i U=>match G.F i U with
 |some v=>some v
 |none=>if i=b/\o<=U/\U<o+n then w.cell? ⟨i,U,none⟩else none,ρ:=G.ρ}
theorem Lm(G:Gh)(w:World)(b o n:Nat):Ext G (G.ice w b o n):=⟨fun _ _ h=>h,fun i U v h=>by simp[Gh.ice,h],rfl⟩
theorem t4{B:Bs}{H:Hp}{w:World}{G:Gh}(h:R B H w G){r b o x:Nat}{cs:List AV}{imm:Nat}{tip:Bool}(hr:G.β r=some (b,o,x))(hc:H.get r=some (.cells cs imm tip)){n:Nat}(himm:imm<=n)(hn:n<=cs.length)(A:Bool)(ht:A=true->tip=true):
 Step B H.next G w (H.set r (.cells cs n A)) w (G.ice w b o n):=by
 have L:Ext G (G.ice w b o n):=Lm _ _ _ _ _;have Y:∀k,k≠r->(H.set r (.cells cs n A)).get k=H.get k:=fun k V=>by rw[aX,ah V]
 have z:(H.set r (.cells cs n A)).get r=some (.cells cs n A):=hW;have hex:=h.ext r b o x cs imm tip hr hc;have F:∀j,n<=j->j<zec x cs A->j<zec x cs tip:=fun j hj W=>by
  cases A with
  |true=>rw[ht rfl];exact W
  |false=>simp only[zec]at W;omega
 have hF:∀i U v,(G.ice w b o n).F i U=some v->w.cell? ⟨i,U,none⟩=some v:=fun i U v hf=>by
  simp only[Gh.ice]at hf;split at hf
  .rename_i u hu;simp only[aA]at hf;subst hf;exact h.frz _ _ _ hu
  .split at hf
   .exact hf
   .simp at hf
 have hFin:∀j,j<n->∃v,(G.ice w b o n).F b (o+j)=some v:=fun j hj=>by
  obtain⟨v,h1,_⟩:=h.cells r b o x cs imm tip hr hc j _ (aO ac);simp only[Gh.ice];split
  .rename_i u _;exact⟨u,rfl⟩
  .rw[ay ⟨mr,ac,ac⟩];exact⟨v,h1⟩
 have hFout:∀i U,G.F i U=none->(i=b->U<o\/o+n<=U)->(G.ice w b o n).F i U=none:=fun i U hf hne=>by
  simp only[Gh.ice,hf];rw[ah];rintro⟨e1,e2,e3⟩;have:=hne e1;omega
 refine⟨?_,L,tY _ _,p8 _ _,fun _ _ h=>.inl h,aM _,fun i U v' hv=>?_⟩;rotate_left
 .simp only[Gh.ice]at hv;split at hv
  .rename_i v'' hF';exact .inl (by rw[hF'];exact hv)
  .split at hv
   .rename_i hc';exact .inr (by rw[hc'.1];exact(h.lt r b o x hr).1)
   .simp at hv
 exact{
  base:=h.base
  dom:=h.dom
  lt:=h.lt
  cells:=fun k i U M O Z g V m=>by
   by_cases e:k=r
   .subst e;have I:G.β k=some (i,U,M):=V;rw[hr]at I;simp only[ck]at I;obtain⟨rfl,rfl,rfl⟩:=I;rw[z]at m;simp only[aA,HB.cells.injEq]at m;obtain⟨rfl,rfl,rfl⟩:=m;exact(h.cells k _ _ _ _ _ _ hr hc).mono L
   .rw[Y k e]at m;exact(h.cells k i U M O Z g V m).mono L
  imm:=fun k i U M O Z g V m j hj W=>by
   by_cases e:k=r
   .subst e;have I:G.β k=some (i,U,M):=V;rw[hr]at I;simp only[ck]at I;obtain⟨rfl,rfl,rfl⟩:=I;rw[z]at m;simp only[aA,HB.cells.injEq]at m;obtain⟨rfl,rfl,rfl⟩:=m;exact hFin j hj
   .rw[Y k e]at m;obtain⟨v,hv⟩:=h.imm k i U M O Z g V m j hj W;exact⟨v,L.F _ _ _ hv⟩
  ext:=fun k i U M O Z g V m=>by
   by_cases e:k=r
   .subst e;have I:G.β k=some (i,U,M):=V;rw[hr]at I;simp only[ck]at I;obtain⟨rfl,rfl,rfl⟩:=I;rw[z]at m;simp only[aA,HB.cells.injEq]at m;obtain⟨rfl,rfl,rfl⟩:=m;cases A with
    |true=>rw[ht rfl]at hex;exact hex
    |false=>exact aM _
   .rw[Y k e]at m;exact h.ext k i U M O Z g V m
  fits:=fun k i U M O Z g V m=>by
   by_cases e:k=r
   .subst e;have I:G.β k=some (i,U,M):=V;rw[hr]at I;simp only[ck]at I;obtain⟨rfl,rfl,rfl⟩:=I;rw[z]at m;simp only[aA,HB.cells.injEq]at m;obtain⟨rfl,rfl,rfl⟩:=m;exact h.fits _ _ _ _ _ _ _ hr hc
   .rw[Y k e]at m;exact h.fits k i U M O Z g V m
  room:=fun k i U M O Z g V m j hj W=>by
   by_cases e:k=r
   .subst e;have I:G.β k=some (i,U,M):=V;rw[hr]at I;simp only[ck]at I;obtain⟨rfl,rfl,rfl⟩:=I;rw[z]at m;simp only[aA,HB.cells.injEq]at m;obtain⟨rfl,rfl,rfl⟩:=m;have h1:=F j hj W;obtain⟨g1,g2,g3⟩:=h.room k _ _ _ _ _ _ hr hc j ac h1;exact⟨g1,g2,hFout _ _ g3 (fun _=>ac)⟩
   .rw[Y k e]at m;obtain⟨g1,g2,g3⟩:=h.room k i U M O Z g V m j hj W;refine⟨g1,g2,hFout _ _ g3 (fun eb=>?_)⟩;by_cases hin:o<=U+j/\U+j<o+n
    .exfalso;have hj0:U+j-o<cs.length:=ac;have hj1:U+j-o<zec x cs tip:=ac;by_cases hi:imm<=U+j-o
     .exact h.apart k i U M O Z g r b o x cs imm tip V m hr hc e j (U+j-o) hj W hi hj1 eb ac
     .obtain⟨v,hv⟩:=h.imm r b o x cs imm tip hr hc (U+j-o) ac hj0;rw[show o+(U+j-o)=U+j by omega,<-eb,g3]at hv;simp at hv
    .omega
  apart:=fun k1 b1 o1 x1 cs1 imm1 g zdp b2 o2 x2 cs2 imm2 tip2 hk1 C hk2 hc2 hne j1 j2 hj1 hl1 hj2 hl2 he=>by
   have key:∀k bk ok xk csk K J j,G.β k=some (bk,ok,xk)->(H.set r (.cells cs n A)).get k=some (.cells csk K J)->K<=j->j<zec xk csk J ->
    ∃cs0 imm0 tip0,H.get k=some (.cells cs0 imm0 tip0)/\imm0<=j/\j<zec xk cs0 tip0:=fun k bk ok xk csk K J j V m hj W=>by
    by_cases e:k=r
    .subst e;have I:G.β k=some (bk,ok,xk):=V;rw[hr]at I;simp only[ck]at I;obtain⟨rfl,rfl,rfl⟩:=I;rw[z]at m;simp only[aA,HB.cells.injEq]at m;obtain⟨rfl,rfl,rfl⟩:=m;exact⟨cs,imm,tip,hc,ac,F j hj W⟩
    .rw[Y k e]at m;exact⟨csk,K,J,m,hj,W⟩
   obtain⟨c1,i1,t1,g1,zd0,l1⟩:=key k1 b1 o1 x1 cs1 imm1 g j1 hk1 C hj1 hl1;obtain⟨c2,i2,t2,g2,a2,l2⟩:=key zdp b2 o2 x2 cs2 imm2 tip2 j2 hk2 hc2 hj2 hl2;exact h.apart k1 b1 o1 x1 c1 i1 t1 zdp b2 o2 x2 c2 i2 t2 hk1 g1 hk2 g2 hne j1 j2 zd0 l1 a2 l2 he
  map:=fun k i U M es V m=>by
   by_cases e:k=r
   .subst e;rw[z]at m;simp at m
   .rw[Y k e]at m;obtain⟨ms,clock,h1,h2⟩:=h.map k i U M es V m;exact⟨ms,clock,h1,h2.mono L⟩
  mapApart:=fun k1 b1 o1 x1 es zdp b2 o2 x2 hk1 C hk2 hs hne=>by
   by_cases e:k1=r
   .subst e;rw[z]at C;simp at C
   .rw[Y k1 e]at C;refine h.mapApart k1 b1 o1 x1 es zdp b2 o2 x2 hk1 C hk2 ?_ hne;by_cases e2:zdp=r
    .subst e2;rw[hc];rfl
    .rw[Y zdp e2]at hs;exact hs
  frz:=hF
  val:=h.val
  sym:=h.sym}
theorem Ln{B:Bs}{H:Hp}{w:World}{G:Gh}(h:R B H w G){r b o x:Nat}{cs:List AV}(hr:G.β r=some (b,o,x))(hx:cs.length<=x)(hc:gz G w b o cs)(hF:∀j,j<cs.length->∃v,G.F b (o+j)=some v)
 (hmap:∀zc0 F o1 x1 es,G.β zc0=some (F,o1,x1)->H.get zc0=some (.map es)->F≠b) :
 Step B H.next G w (H.set r (.cells cs cs.length false)) w G:=by
 have g:∀k,k≠r->(H.set r (.cells cs cs.length false)).get k=H.get k:=fun k Z=>wi;have O:(H.set r (.cells cs cs.length false)).get r=some (.cells cs cs.length false):=hW;have J:∀k i U V,k=r->G.β k=some (i,U,V)->i=b/\U=o/\V=x:=fun k i U V e Z=>by
  subst e;rw[hr]at Z;simp only[ck]at Z;exact⟨Z.1.symm,Z.2.1.symm,Z.2.2.symm⟩
 have M:∀Y z A,(H.set r (.cells cs cs.length false)).get r=some (.cells Y z A)->Y=cs/\z=cs.length/\A=false:=fun Y z A Z=>by
  rw[O]at Z;simp only[aA,HB.cells.injEq]at Z;exact⟨Z.1.symm,Z.2.1.symm,Z.2.2.symm⟩
 refine⟨?_,rU _,tY _ _,p8 _ _,fun _ _ h=>.inl h,aM _,fun _ _ _ h=>.inl h⟩;exact{
  base:=h.base
  dom:=h.dom
  lt:=h.lt
  cells:=fun k i U V Y z A Z m=>by
   by_cases e:k=r
   .obtain⟨rfl,rfl,rfl⟩:=J k _ _ _ e Z;subst e;obtain⟨rfl,rfl,rfl⟩:=M _ _ _ m;exact hc
   .rw[g k e]at m;exact h.cells k i U V Y z A Z m
  imm:=fun k i U V Y z A Z m j hj I=>by
   by_cases e:k=r
   .obtain⟨rfl,rfl,rfl⟩:=J k _ _ _ e Z;subst e;obtain⟨rfl,rfl,rfl⟩:=M _ _ _ m;exact hF j I
   .rw[g k e]at m;exact h.imm k i U V Y z A Z m j hj I
  ext:=fun k i U V Y z A Z m=>by
   by_cases e:k=r
   .subst e;obtain⟨rfl,rfl,rfl⟩:=M _ _ _ m;exact aM _
   .rw[g k e]at m;exact h.ext k i U V Y z A Z m
  fits:=fun k i U V Y z A Z m=>by
   by_cases e:k=r
   .subst e;obtain⟨rfl,rfl,rfl⟩:=M _ _ _ m;obtain⟨_,_,rfl⟩:=J _ _ _ _ rfl Z;exact hx
   .rw[g k e]at m;exact h.fits k i U V Y z A Z m
  room:=fun k i U V Y z A Z m j hj I=>by
   by_cases e:k=r
   .subst e;obtain⟨rfl,rfl,rfl⟩:=M _ _ _ m;simp only[zec]at I;omega
   .rw[g k e]at m;exact h.room k i U V Y z A Z m j hj I
  apart:=fun k1 F o1 x1 cs1 imm1 tip1 zdp b2 o2 x2 cs2 imm2 tip2 L W K C hne j1 j2 hj1 hl1 hj2 hl2 he=>by
   by_cases e1:k1=r
   .subst e1;obtain⟨rfl,rfl,rfl⟩:=M _ _ _ W;simp only[zec]at hl1;omega
   .by_cases e2:zdp=r
    .subst e2;obtain⟨rfl,rfl,rfl⟩:=M _ _ _ C;simp only[zec]at hl2;omega
    .rw[g k1 e1]at W;rw[g zdp e2]at C;exact h.apart k1 F o1 x1 cs1 imm1 tip1 zdp b2 o2 x2 cs2 imm2 tip2 L W K C hne j1 j2 hj1 hl1 hj2 hl2 he
  map:=fun k i U V es Z m=>by
   by_cases e:k=r
   .subst e;rw[O]at m;simp at m
   .rw[g k e]at m;exact h.map k i U V es Z m
  mapApart:=fun k1 F o1 x1 es zdp b2 o2 x2 L W K hs hne=>by
   by_cases e:k1=r
   .subst e;rw[O]at W;simp at W
   .rw[g k1 e]at W;by_cases e2:zdp=r
    .obtain⟨rfl,rfl,rfl⟩:=J zdp _ _ _ e2 K;exact hmap k1 F o1 x1 es L W
    .rw[g zdp e2]at hs;exact h.mapApart k1 F o1 x1 es zdp b2 o2 x2 L W K hs hne
  frz:=h.frz
  val:=h.val
  sym:=h.sym}
def qa(P:Program)(B:Bs)(H:Hp)(G:Gh)(w:World)(s:Sem Next)(c:AV)(H':Hp):Prop:=
 ∃n W Z v,s.run P w=.ok n W/\(n=.value v\/(n=.skip/\v=undef))/\VR Z c v/\Step B H.next G w H' W Z
theorem Dh{G:Gh}{v:Value}{c:AV}(h:tF v=some c):VR G c v:=by
 unfold tF at h;split at h<;>simp only[aA,reduceCtorEq]at h<;>subst h<;>constructor;rfl
theorem Di{G:Gh}:∀{vs:List Value}{W:List AV},vs.mapM tF=some W->bT G W vs
 |[],W,h=>by simp at h;subst h;exact lO G
 |v::vs,W,h=>by
  rw[List.mapM_cons]at h;simp only[Option.bind_eq_bind,cj,Option.pure_def,aA]at h;obtain⟨c,hc,o,Y,rfl⟩:=h;exact iT (Dh hc) (Di Y)
theorem rW{G:Gh}{v:Value}{c:AV}(h:rO v=some c):VR G c v:=by
 unfold rO at h;split at h
 .rename_i W;simp only[my]at h;obtain⟨l,I,rfl⟩:=h;have:=Di (G:=G) I;exact .agg (vs:=W.toList) this.1 this.2
 .exact Dh h
theorem gz.list{G:Gh}{w:World}{b:Nat}:∀{cs:List AV}{o:Nat},gz G w b o cs->∃vs,bT G cs vs/\∀(j:Nat) v,vs[j]?=some v->w.cell? ⟨b,o+j,none⟩=some v
 |[],o,_=>⟨[],lO G,aE⟩
 |c::cs,o,h=>by
  obtain⟨v,i,g⟩:=h 0 c rfl;obtain⟨vs,k1,zdp⟩:=gz.list (cs:=cs) (o:=o+1) (fun j d O=>by
   obtain⟨u,W,Y⟩:=h (j+1) d (by simpa using O);exact⟨u,by rw[show o+1+j=o+(j+1) by omega];exact W,Y⟩)
  refine⟨v::vs,iT g k1,fun j u O=>?_⟩;cases j with
  |zero=>simp at O;subst O;exact i
  |succ j=>rw[show o+(j+1)=o+1+j by omega];exact zdp j u (by simpa using O)
theorem gz.drop{G:Gh}{w:World}{b o:Nat}{cs:List AV}(h:gz G w b o cs)(n:Nat):gz G w b (o+n) (cs.drop n):=fun j c O=>by
 rw[nI]at O;rw[hZ];exact h (n+j) c O
theorem gz.take{G:Gh}{w:World}{b o:Nat}{cs:List AV}(h:gz G w b o cs)(n:Nat):gz G w b o (cs.take n):=fun j c O=>by
 rw[mw]at O;split at O
 .exact h j c O
 .simp at O
section
variable {P:Program} {w:World} {t:TypeId}
theorem zd5{d:TypeDesc}(h:P.underlying t=some d):(underlying t).run P w=.ok d w:=by simp[underlying,h]
theorem rX{i:TypeInfo}(h:P.info? t=some i):(typeInfo t).run P w=.ok i w:=by simp[typeInfo,h]
theorem Dj{s:Nat}(h:zc8 P t=some s):∃i,P.info? t=some i/\i.size=s:=by simpa [zc8,my]using h
theorem zfe{s:Nat}(h:zc8 P t=some s):(sizeOf t).run P w=.ok s w:=by
 obtain⟨i,Z,g⟩:=Dj h;simp[sizeOf,rX Z,g]
theorem Dk{c:AV}(h:nD P t=some c):∃i v,P.info? t=some i/\i.zero=some v/\rO v=some c:=by
 unfold nD at h;split at h
 .rename_i x d s W Y hp al fa L V ms Z;exact⟨_,L,Z,rfl,h⟩
 .simp at h
theorem Lo{c:AV}(h:nD P t=some c):∃v,(∀w,(zeroValue t).run P w=.ok v w)/\∀G,VR G c v:=by
 obtain⟨i,v,Z,g,m⟩:=Dk h;exact⟨v,fun w=>by simp[zeroValue,rX Z,g],fun G=>rW m⟩
theorem zu{z:List AV}(h:zdq P t=some z):∃i v c,P.info? t=some i/\i.zero=some v/\rO v=some c/\c.cells=z:=by
 unfold zdq at h;split at h
 .rename_i c hc;simp only[aA]at h;obtain⟨i,v,Z,g,m⟩:=Dk hc;exact⟨i,v,c,Z,g,m,h⟩
 .simp at h
theorem t6{z:List AV}(h:zdq P t=some z):∃v,(∀w,(zeroValue t).run P w=.ok v w)/\∀G,bT G z v.cells.toList:=by
 obtain⟨i,v,c,Z,g,m,rfl⟩:=zu h;exact⟨v,fun w=>by simp[zeroValue,rX Z,g],fun G=>(rW m).cells⟩
def zw:TypeDesc->Bool
 | .struct _|.array _ _=>true
 |_=>false
theorem wo{d:TypeDesc}(h:P.underlying t=some d):(isAgg t).run P w=.ok (zw d) w:=by
 simp only[isAgg,dN,zd5 h,dU];cases d<;>rfl
theorem Dl{cs:List AV}{off:Nat}{c:AV}(h:zc1 P t cs off=some c):
 (∃d s,P.underlying t=some d/\zw d=true/\zc8 P t=some s/\((cs.drop off).take s).length=s/\c=.agg ((cs.drop off).take s)) \/
 (∃d,P.underlying t=some d/\zw d=false/\cs[off]?=some c):=by
 unfold zc1 at h;split at h
 .rename_i f hd;split at h
  .rename_i s K;simp only[]at h;split at h
   .rename_i I;simp only[aA]at h;exact .inl ⟨_,s,hd,rfl,K,I,h.symm⟩
   .simp at h
  .simp at h
 .rename_i n e hd;split at h
  .rename_i s K;simp only[]at h;split at h
   .rename_i I;simp only[aA]at h;exact .inl ⟨_,s,hd,rfl,K,I,h.symm⟩
   .simp at h
  .simp at h
 .rename_i d i g hd;refine .inr ⟨d,hd,?_,h⟩;cases d<;>first|rfl|exact(i _ rfl).elim|exact(g _ _ rfl).elim
 .simp at h
theorem Dm{G:Gh}{b o off:Nat}{cs:List AV}{c:AV}(Y:gz G w b o cs)(h:zc1 P t cs off=some c):
 ∃v,(loadVar t ⟨b,o+off,none⟩).run P w=.ok v w/\VR G c v:=by
 rcases Dl h with⟨d,s,hd,F,K,I,rfl⟩|⟨d,hd,F,hc⟩
 .obtain⟨vs,i,g⟩:=((Y.drop off).take s).list;refine⟨.agg vs.toArray,?_,.agg i.1 i.2⟩;simp only[loadVar,dN,wo hd,F,dU,bS,zfe K];have Z:vs.length=s:=by rw[<-i.1];exact I
  rw[<-Z,run_loadCells_list _ _ vs (fun j v O=>by rw[zfn];exact g j v O)];rfl
 .obtain⟨v,i,g⟩:=Y off c hc;refine⟨v,?_,g⟩;simp[loadVar,wo hd,F,i]
theorem wq{G:Gh}{off:Nat}{cs:List AV}{vs:List Value}{c:AV}(L:bT G cs vs)(h:zc1 P t cs off=some c):
 ∃v,(part t vs.toArray off).run P w=.ok v w/\VR G c v:=by
 rcases Dl h with⟨d,s,hd,F,K,I,rfl⟩|⟨d,hd,F,hc⟩
 .have i:=(L.drop off).take s;refine⟨.agg ((vs.drop off).take s).toArray,?_,.agg i.1 i.2⟩;simp only[part,dN,wo hd,F,dU,bS,zfe K,iy]
  congr 2
  apply k7;simp
 .have z:off<cs.length:=(dJ.1 hc).1;have m:off<vs.length:=by have:=L.1;omega
  refine⟨vs[off],?_,L.2 off c _ hc (aO m)⟩;simp[part,wo hd,F,m]
end
theorem rY{P:Program}{B:Bs}{G:Gh}{H:Hp}{w:World}(h:R B H w G){s:Sem Next}{c:AV}{v:Value}(hr:s.run P w=.ok (.value v) w)(L:VR G c v):qa P B H G w s c H:=
 ⟨.value v,w,G,v,hr,.inl rfl,L,jf h⟩
theorem zfb{H H':Hp}{x:Option AV}{c:AV}(h:ret H x=some (c,H')):x=some c/\H'=H:=by
 cases x with
 |none=>simp[ret]at h
 |some v=>simp[ret]at h;exact⟨by rw[h.1],h.2.symm⟩
section
variable {P:Program} {B:Bs} {G:Gh} {H H':Hp} {w:World} (h:R B H w G) {c:AV}
include h
theorem Dn{t:TypeId}{a:AV}{Z:Value}(F:VR G a Z)(I:zep P H t a=some c):∃v,(Instr.loadAt t Z).run P w=.ok v w/\VR G c v:=by
 unfold zep at I;split at I
 .rename_i r M;cases F with
  |ptr hr=>
   split at I
   .rename_i W Y V hc;obtain⟨v,i,g⟩:=Dm (h.cells _ _ _ _ _ _ _ hr hc) I;exact⟨v,Db,g⟩
   .simp at I
 .rename_i W;cases F with
  |iptr vs L K=>
   rename_i b o;have U:gz G w b o W:=fun j d O=>⟨vs j,h.frz _ _ _ (L j (dJ.1 O).1),K j d O⟩;obtain⟨v,i,g⟩:=Dm U I;exact⟨v,Db,g⟩
 .simp at I
theorem Lp{t:TypeId}{a x:AV}{C Y:Value}(m:VR G a C)(hx:VR G x Y)(K:zeP P H t a x=some H'):
 ∃V,(Instr.storeAt t C Y).run P w=.ok () V/\Step B H.next G w H' V G:=by
 unfold zeP at K;split at K
 .rename_i r M;cases m with
  |ptr hr=>
   rename_i b o ex;split at K
   .rename_i A U O s hc F;split at K
    .rename_i I;obtain⟨h1,h2,h3,h4⟩:=I;simp only[aA]at K;subst K;have J:=hx.cells;have j:Y.cells.toList.length=s:=by rw[<-J.1];exact h1
     have W:∀v∈Y.cells.toList,v.oneCell'=true:=fun v hv=>by
      obtain⟨i,z,rfl⟩:=oJ hv;have Z:i<x.cells.length:=by rw[J.1];exact z
      rw[(J.2 i _ _ (aO Z) (aO z)).oneCell];exact fT.1 h4 _ (dx Z)
     have hex:=h.ext r b o ex A U O hr hc;obtain⟨V,hw,L⟩:=zt P hr M x.cells Y.cells.toList A 0 H w h hc J W ac ac ac (fun _=>ac);refine⟨V,?_,oI⟩;have g:Y.cells.size=s:=by simpa using j
     simp only[Instr.storeAt,Instr.sureAddr,dN,iy,dU,storeVar,zfe F,g];simpa using hw
    .simp at K
   .simp at K
 .simp at K
end
section
variable {P:Program} {B:Bs} {G:Gh} {H H':Hp} {w:World}
theorem Lq{t:TypeId}{a c:AV}{Y:Value}{i:Nat}(F:VR G a Y)(Z:zcZ P t a i=some c):∃v,(Instr.fieldAt t Y i).run P w=.ok v w/\VR G c v:=by
 unfold zcZ at Z;split at Z
 .rename_i W hd;split at Z
  .rename_i f A;split at Z
   .rename_i s K;have g:∀b o,Y=.pointer (some ⟨b,o,none⟩)->(Instr.fieldAt t Y i).run P w=.ok (.pointer (some ⟨b,o+f.offset,none⟩)) w:=fun b o e=>by
     subst e;simp only[Instr.fieldAt,dN,zd5 hd,dU];simp[A,Instr.sureAddr,fieldPlace,zfe K,zfn]
    split at Z
    .rename_i r M;simp only[aA]at Z;subst Z;cases F with
     |ptr hr=>exact⟨_,g _ _ rfl,zo⟩
    .rename_i U;simp only[aA]at Z;subst Z;cases F with
     |iptr vs V L=>
      refine⟨_,g _ _ rfl,.iptr (fun j=>vs (f.offset+j)) (fun j O=>?_) (fun j d O=>?_)⟩
      .rw[iw]at O;rw[hZ];exact V _ ac
      .rw[nI]at O;exact L _ _ O
    .simp at Z
   .simp at Z
  .simp at Z
 .simp at Z
theorem Lr{t:TypeId}{a c:AV}{Z:Value}{i:Nat}(F:VR G a Z)(j:zdf P t a i=some c):∃v,(Instr.field t Z i).run P w=.ok v w/\VR G c v:=by
 unfold zdf at j;split at j
 .rename_i W V hd;cases F with
  |agg I L=>
   rename_i vs;split at j
   .rename_i f A;obtain⟨v,Y,g⟩:=wq (P:=P) (w:=w) ⟨I,L⟩ j;refine⟨v,?_,g⟩;simp only[Instr.field,dN,zd5 hd,dU];simp only[A,dN,asAgg,iy,dU];exact Y
   .simp at j
 .simp at j
theorem Ls{t:TypeId}{a i c:AV}{J I:Value}(F:VR G a J)(m:VR G i I)(Z:zdn P t a i=some c):∃v,(Instr.indexAt t J I).run P w=.ok v w/\VR G c v:=by
 unfold zdn at Z;split at Z
 .rename_i kk k;cases m;split at Z
  .rename_i e hd;split at Z
   .rename_i s K;split at Z
    .rename_i r M V z;split at Z
     .rename_i W;simp only[aA]at Z;subst Z;cases F with
      |sl hr hl hc=>
       rename_i b o x U;refine⟨.pointer (some ⟨b,o+M+k*s,none⟩),?_,zo⟩;simp only[Instr.indexAt,asIntOf,dN,iy,dU,zd5 hd];have h1:(0:Int)<=Int.ofNat k:=Int.natCast_nonneg k;have h2:(Int.ofNat k)<(V:Int):=by simpa using W
       simp[zfe K,W,zfn]
     .simp at Z
    .rename_i g;split at Z
     .rename_i A Y;split at Z
      .rename_i O;simp only[aA]at Z;subst Z;have W:k<g.length:=(dJ.1 Y).1;cases F with
       |lst vs hz hF hv hc=>
        rename_i b o U z;have L:s=z:=by rw[<-O];exact hz k A Y
        subst L;refine⟨.pointer (some ⟨b,o+k*s,none⟩),?_,.iptr (vs k) (fun j C=>hF k j W ac) (fun j d C=>hv k j A d Y C)⟩;simp only[Instr.indexAt,asIntOf,dN,iy,dU,zd5 hd];simp[zfe K,W,zfn]
       |lst0 a U=>simp at W
      .simp at Z
     .simp at Z
    .simp at Z
   .simp at Z
  .rename_i n e hd;split at Z
   .rename_i s K;split at Z
    .rename_i r M;split at Z
     .rename_i W;simp only[aA]at Z;subst Z;cases F with
      |ptr hr=>
       rename_i b o x;refine⟨.pointer (some ⟨b,o+M+k*s,none⟩),?_,zo⟩;simp only[Instr.indexAt,asIntOf,dN,iy,dU,zd5 hd];simp[zfe K,W,zfn,Instr.sureAddr]
     .simp at Z
    .simp at Z
   .simp at Z
  .simp at Z
 .simp at Z
theorem Lt{t:TypeId}{a i c:AV}{Y W:Value}(F:VR G a Y)(C:VR G i W)(j:lM P t a i=some c):∃v,(Instr.index t Y W).run P w=.ok v w/\VR G c v:=by
 unfold lM at j;split at j
 .rename_i U k;cases C;split at j
  .rename_i s hd;split at j
   .rename_i b z;simp only[aA]at j;subst j;cases F with
    |str J l I=>
     subst I;refine⟨_,?_,.int .u8 b.toNat⟩;have Z:k<J.size:=by
      have:=(dJ.1 z).1;simpa using this
     have A:J[k]?=some b:=by
      rw[ByteArray.getElem?_lt' _ _ Z];have:=(dJ.1 z).2;simp at this;rw[<-this];rfl
     simp only[Instr.index,asIntOf,dN,iy,dU,zd5 hd];simp[A]
   .simp at j
  .rename_i n e O hd;split at j
   .rename_i Z;split at j
    .rename_i s K;cases F with
     |agg I L=>
      rename_i vs;obtain⟨v,V,g⟩:=wq (P:=P) (w:=w) ⟨I,L⟩ j;refine⟨v,?_,g⟩;simp only[Instr.index,asIntOf,dN,iy,dU,zd5 hd];simp[zfe K,Z,V]
    .simp at j
   .simp at j
  .simp at j
 .simp at j
theorem Lu{a c:AV}{Y:Value}{i:Nat}(F:VR G a Y)(j:extract a i=some c):∃v,(Instr.extract Y i).run P w=.ok v w/\VR G c v:=by
 unfold extract at j;split at j
 .rename_i W;cases F with
  |tup I L=>
   rename_i vs;have C:i<W.length:=(dJ.1 j).1;have Z:i<vs.length:=ac;exact⟨vs[i],by simp[Instr.extract,Z],L i c _ j (aO Z)⟩
 .simp at j
theorem zx{op:BinOp}{k:IntKind}{a b:Int}{c:AV}(g:op≠.shl/\op≠.shr)(h:zeZ op k a b=some c)(j:TypeId):∃v,(binOp op j (.int k a) (.int k b)).run P w=.ok v w/\VR G c v:=by
 cases op<;>simp only[zeZ,aA,reduceCtorEq]at h<;>first
  |(subst h;exact⟨_,by simp[binOp,Op.intArith,Op.intBits,Op.intCmp];rfl,nH⟩)
  |(subst h;exact⟨.int k (k.wrap (BitVec.ofInt k.bits a &&& ~~~ BitVec.ofInt k.bits b).toNat),by simp[binOp,Op.intBits],nH⟩)
  |(split at h
    ·simp at h
    .rename_i z;simp only[aA]at h;subst h;exact⟨_,by simp[binOp,Op.intDiv,z];rfl,nH⟩)
  |simp at g
theorem Lw{op:BinOp}{a b:ByteArray}{c:AV}(h:tH op a.data.toList b.data.toList=some c)(j:TypeId):∃v,(binOp op j (.string a) (.string b)).run P w=.ok v w/\VR G c v:=by
 have z:∀x y,oA x y=Op.bytesLess x y:=fun x=>by
  induction x with
  |nil=>intro y;cases y<;>rfl
  |cons p x ih=>intro y;cases y with
   |nil=>rfl
   |cons q y=>simp[oA,Op.bytesLess,ih]
 cases op<;>simp only[tH,aA,reduceCtorEq,z]at h<;>first
  |(subst h;exact⟨.bool (a.data.toList == b.data.toList),rT,nH⟩)
  |(subst h;exact⟨.bool !(a.data.toList == b.data.toList),rT,nH⟩)
  |(subst h;exact⟨.bool (Op.bytesLess a.data.toList b.data.toList),rT,nH⟩)
  |(subst h;exact⟨.bool !(Op.bytesLess a.data.toList b.data.toList),rT,nH⟩)
  |(subst h;exact⟨.bool (Op.bytesLess a.data.toList b.data.toList||a.data.toList == b.data.toList),rT,nH⟩)
  |(subst h;exact⟨.bool !(Op.bytesLess a.data.toList b.data.toList||a.data.toList == b.data.toList),rT,nH⟩)
  |(split at h
    ·rename_i Z;simp only[aA]at h;subst h;refine⟨.string (a++b),?_,.str _ _ ?_⟩
     .have i:¬((a.size+b.size:Nat):Int) > IntKind.i64.max:=by
       have Y:a.size+b.size<=70368744177664:=by simpa [zef]using Z
       have g:IntKind.i64.max=9223372036854775807:=rfl;rw[g];omega
      simp only[binOp,Op.stringOp,ah i];rfl
     .simp
    .simp at h)
theorem Do(M:Nat){x y:AV}{Y I:Value}{r:Bool}{j:TypeId}(F:VR G x Y)(C:VR G y I)(h:vV P j x y=some r):(Op.equalIn (M+1) j Y I).run P w=.ok r w:=by
 unfold vV at h;split at h;all_goals first
  |(rename_i hd
    split at h<;>simp only[aA,reduceCtorEq]at h<;>subst h<;>cases F<;>cases C<;>simp[Op.equalIn,zd5 hd]
    done)
  |(rename_i e hd
    split at h<;>simp only[aA,reduceCtorEq]at h<;>subst h<;>cases F<;>cases C<;>simp[Op.equalIn,zd5 hd]
    done)
  |(rename_i Z A hd
    split at h<;>simp only[aA,reduceCtorEq]at h<;>subst h<;>cases F<;>cases C<;>simp[Op.equalIn,zd5 hd]
    done)
  |(rename_i Z A W hd
    split at h<;>simp only[aA,reduceCtorEq]at h<;>subst h<;>cases F<;>cases C<;>simp[Op.equalIn,zd5 hd]
    done)
  |simp at h
theorem wr{op:BinOp}{t:TypeId}{x y:Operand}{c d:AV}{cv C:Value}(O:VR G c cv)(hd:VR G d C)(h:∀l m,c=.agg l->d=.agg m->False):(eqGuard op t x y cv C).run P w=.ok () w:=by
 cases op<;>first|rfl|(cases O<;>cases hd<;>first|rfl|exact(h _ _ rfl rfl).elim)
theorem Ly(a b:ByteArray):(a == b)=(a.data.toList == b.data.toList):=by
 cases a with
 |mk x=>cases b with
  |mk y=>
   show(x == y)=_;rw[tX,k8,k8];exact⟨fun h=>by rw[h],fun h=>k7 h⟩
theorem Dp(M:Nat){x y:AV}{Y I:Value}{r:Bool}{j:TypeId}(F:VR G x Y)(C:VR G y I)(h:zj P j x y=some r):(Op.equalIn (M+1) j Y I).run P w=.ok r w:=by
 unfold zj at h;split at h
 .split at h
  .rename_i hd;split at h
   .rename_i Z;simp only[aA]at h;subst h Z;cases F;cases C;simp[Op.equalIn,zd5 hd]
   .simp at h
  .simp at h
 .split at h
  .rename_i hd;simp only[aA]at h;subst h;cases F with
   |str a O W=>cases C with
    |str b V z=>
     subst W z;simp only[Op.equalIn,dN,zd5 hd,dU,iy,Ly]
  .simp at h
 .exact Do M F C h
theorem zy{xs Y:List AV}{O I:List Value}(Z:bT G xs O)(C:bT G Y I)(M:Nat):∀(J:List Field) (r:Bool),rP P xs Y J=some r ->
 Sem.run P (forIn J (none,()) fun(f:Field) (_:Option Bool×Unit)=>
         if f.name="_" then pure (ForInStep.yield (none,()))
         else do
          let a <-part f.type O.toArray f.offset
          let b <-part f.type I.toArray f.offset
          let c <-Op.equalIn (M+1) f.type a b
          if c=false then pure (ForInStep.done (some false,()))else pure (ForInStep.yield (none,())))
  w=.ok (match r with|true=>(none,())|false=>(some false,())) w
 |[],r,h=>by
  simp only[rP,aA]at h;subst h;rfl
 |f::J,r,h=>by
  unfold rP at h;rw[List.forIn_cons];split at h
  .rename_i o;rw[ay (by simpa using o)];simp only[dN,iy,dU];exact zy Z C M J r h
  .rename_i o;rw[ah (by simpa using o)];split at h
   .rename_i a b K z;obtain⟨i,U,V⟩:=wq (P:=P) (w:=w) Z K;obtain⟨m,W,F⟩:=wq (P:=P) (w:=w) C z;split at h
    .rename_i L;have:=Dp (P:=P) (w:=w) M V F L;simp only[dN,U,W,this,dU,k9,cb,iy];exact zy Z C M J r h
    .rename_i L;have:=Dp (P:=P) (w:=w) M V F L;simp only[aA]at h;subst h;simp only[dN,U,W,this,dU,bS,iy]
    .simp at h
   .simp at h
theorem Lz(d:Nat){t:TypeId}{W:Array Field}{xs Z:Array Value}(hd:P.underlying t=some (.struct W))(K:P.stoodInHeld t=false):
 (Op.equalIn (d+1) t (.agg xs) (.agg Z)).run P w=(Sem.run P (forIn W.toList (none,()) fun(f:Field) (_:Option Bool×Unit)=>
   if f.name="_" then pure (ForInStep.yield (none,()))
   else do
    let a <-part f.type xs f.offset
    let b <-part f.type Z f.offset
    let c <-Op.equalIn d f.type a b
    if c=false then pure (ForInStep.done (some false,()))else pure (ForInStep.yield (none,())))
   w).andThen fun a Y=>Sem.run P (match a.1 with|some r=>pure r|none=>pure true) Y:=by
 simp[Op.equalIn,zd5 hd,K]
 congr 1
 funext a Y
 rcases a with⟨_ |_,_⟩<;>rfl
theorem LA(M:Nat){x y:AV}{Y I:Value}{r:Bool}{j:TypeId}(Z:VR G x Y)(C:VR G y I)(h:pT P j x y=some r):(Op.equalIn (M+2) j Y I).run P w=.ok r w:=by
 unfold pT at h;split at h
 .unfold vW at h;split at h
  .rename_i W hd;split at h
   .simp at h
   .rename_i V;simp only[lb]at V;cases Z with
    |agg o F=>cases C with
     |agg z A=>
      have:=zy (P:=P) (w:=w) ⟨o,F⟩ ⟨z,A⟩ M W.toList r h;rw[Lz (M+1) hd V.1,this];cases r<;>rfl
  .simp at h
 .exact Do (M+1) Z C h
theorem LB{x y:AV}{Y I:Value}{r:Bool}{j:TypeId}(F:VR G x Y)(C:VR G y I)(h:pT P j x y=some r):(Op.equal j Y I).run P w=.ok r w:=LA 9998 F C h
theorem LC{op:BinOp}{t:TypeId}{x y:Operand}{xs W:List AV}{Y I:Value}(F:VR G (.agg xs) Y)(C:VR G (.agg W) I){r:Bool}(h:vW P t xs W=some r):(eqGuard op t x y Y I).run P w=.ok () w:=by
 unfold vW at h;split at h
 .split at h
  .simp at h
  .rename_i A;simp only[lb]at A;cases F;cases C;cases op<;>first|rfl|simp[eqGuard,A.2]
 .simp at h
theorem LD{op:BinOp}{j:TypeId}{K L:Operand}{x y c:AV}{Y I:Value}(F:VR G x Y)(C:VR G y I)(W:∀k a k' b,x=.int k a->y=.int k' b->False)
 (V:∀a b,x=.str a->y=.str b->False) (U:∀k a,x=.sx k a->False) (O:∀k a k' b,x=.int k a->y=.sx k' b->False) (h:zk P op j x y=some c) :
 ∃v,(do eqGuard op j K L Y I;binOp op j Y I:Sem Value).run P w=.ok v w/\VR G c v:=by
 unfold zk at h;have Z:∃r,pT P j x y=some r/\((op=.eql/\c=.bool r)\/(op=.neq/\c=.bool !r)):=by
  split at h
  .split at h
   .rename_i r hr;simp only[aA]at h;exact⟨r,hr,.inl ⟨rfl,h.symm⟩⟩
   .simp at h
  .split at h
   .rename_i r hr;simp only[aA]at h;exact⟨r,hr,.inr ⟨rfl,h.symm⟩⟩
   .simp at h
  .simp at h
 obtain⟨r,hr,g⟩:=Z;have A:(eqGuard op j K L Y I).run P w=.ok () w:=by
  have i:=hr;unfold pT at i;split at i
  .exact LC F C i
  .rename_i z;exact wr F C z
 have M:=LB (P:=P) (w:=w) F C hr;simp only[dN,A,dU];rcases g with⟨rfl,rfl⟩|⟨rfl,rfl⟩
 .refine⟨.bool r,?_,.bool r⟩;have:binOp .eql j Y I=(do pure (.bool (<-Op.equal j Y I)):Sem Value):=by
   cases F<;>cases C<;>first|rfl|exact(W _ _ _ _ rfl rfl).elim|exact(V _ _ rfl rfl).elim|exact(U _ _ rfl).elim|exact(O _ _ _ _ rfl rfl).elim
  rw[this];simp[M]
 .refine⟨.bool !r,?_,.bool _⟩;have:binOp .neq j Y I=(do pure (.bool (!(<-Op.equal j Y I))):Sem Value):=by
   cases F<;>cases C<;>first|rfl|exact(W _ _ _ _ rfl rfl).elim|exact(V _ _ rfl rfl).elim|exact(U _ _ rfl).elim|exact(O _ _ _ _ rfl rfl).elim
  rw[this];simp[M]
theorem Dq{x:AV}{k:IntKind}{e:Sx}{Y:Value}(F:VR G x Y)(h:vT x=some (k,e)):Y=.int k (e.eval G.ρ):=by
 unfold vT at h;split at h
 .simp only[ck]at h;obtain⟨rfl,rfl⟩:=h;cases F;rfl
 .simp only[ck]at h;obtain⟨rfl,rfl⟩:=h;cases F;rfl
 .simp at h
theorem LF{op:BinOp}{k:IntKind}{a b n:Int}(h:zeZ op k a b=some (.int k n)):zh op k a b=n:=by simp[zh,h]
theorem LG{D:BinOp->Sx->Sx->Option Bool}(L:kA D G.ρ){op:BinOp}{k:IntKind}{a b:Sx}{c:AV}(h:zi D op k a b=some c)(j:TypeId):
 ∃v,(binOp op j (.int k (a.eval G.ρ)) (.int k (b.eval G.ρ))).run P w=.ok v w/\VR G c v:=by
 have F:∀(op:BinOp) (n:Int),(op≠.shl/\op≠.shr)->zeZ op k (a.eval G.ρ) (b.eval G.ρ)=some (.int k n)->c=.sx k (.bin op k a b) ->
  ∃v,(binOp op j (.int k (a.eval G.ρ)) (.int k (b.eval G.ρ))).run P w=.ok v w/\VR G c v:=fun op n g C hc=>by
  obtain⟨v,i,Z⟩:=zx (P:=P) (w:=w) (G:=G) g C j;cases Z;refine⟨_,i,?_⟩;subst hc;have:VR G (.sx k (.bin op k a b)) (.int k ((Sx.bin op k a b).eval G.ρ)):=.sx _ _;simp only[Sx.eval,LF C]at this;exact this
 have m:D .eql b (.lit 0)=some false->b.eval G.ρ≠0:=fun hd=>by
  have:=L _ k _ _ _ hd;simp[zeZ,Sx.eval]at this;exact this
 cases op<;>simp only[zi,aA,reduceCtorEq]at h<;>first
  |exact F _ _ aE rfl h.symm
  |(split at h
    ·rename_i hd;simp only[aA]at h;first
      |exact F .quo (k.wrap ((a.eval G.ρ).tdiv (b.eval G.ρ))) aE (by simp only[zeZ,ah (m hd)]) h.symm
      |exact F .rem ((a.eval G.ρ).tmod (b.eval G.ρ)) aE (by simp only[zeZ,ah (m hd)]) h.symm
    .simp at h)
  |(split at h
    ·rename_i r hd;simp only[aA]at h;subst h;exact zx (P:=P) (w:=w) (G:=G) aE (L _ k _ _ _ hd) j
    .simp at h)
theorem Dr{D:BinOp->Sx->Sx->Option Bool}(V:kA D G.ρ){op:BinOp}{j:TypeId}{K L:Operand}{x y c:AV}{Y I:Value}(F:VR G x Y)(W:VR G y I)(Z:∀l m,x=.agg l->y=.agg m->False)(h:vU D op x y=some c):
 ∃v,(do eqGuard op j K L Y I;binOp op j Y I:Sem Value).run P w=.ok v w/\VR G c v:=by
 have A:=wr (P:=P) (w:=w) (op:=op) (t:=j) (x:=K) (y:=L) F W Z;simp only[dN,A,dU];unfold vU at h;split at h
 .rename_i k a k' b M C;have O:=Dq F M;have J:=Dq W C;subst O J;split at h
  .rename_i U;subst U;exact LG V h j
  .simp at h
 .simp at h
theorem LH{D:BinOp->Sx->Sx->Option Bool}(Z:kA D G.ρ){op:BinOp}{j:TypeId}{K L:Operand}{x y c:AV}{Y I:Value}(F:VR G x Y)(C:VR G y I)(h:zdU P D op j x y=some c):
 ∃v,(do eqGuard op j K L Y I;binOp op j Y I:Sem Value).run P w=.ok v w/\VR G c v:=by
 unfold zdU at h;split at h
 .rename_i k a k' b;have A:=wr (P:=P) (w:=w) (op:=op) (t:=j) (x:=K) (y:=L) F C aE;simp only[dN,A,dU];cases F;cases C;unfold nE at h;split at h
  .unfold oB at h;split at h
   .simp only[aA]at h;subst h;refine⟨_,?_,.int _ _⟩;simp only[binOp,Op.shift];rw[ah aE];rfl
   .simp at h
  .unfold oB at h;split at h
   .simp only[aA]at h;subst h;refine⟨_,?_,.int _ _⟩;simp only[binOp,Op.shift];rw[ah aE];rfl
   .simp at h
  .rename_i i g;split at h
   .rename_i W;subst W;exact zx ⟨i,g⟩ h j
   .simp at h
 .rename_i a b;have A:=wr (P:=P) (w:=w) (op:=op) (t:=j) (x:=K) (y:=L) F C aE;simp only[dN,A,dU];cases F with
  |str U _ V=>
   cases C with
   |str O _ z=>
    subst V z;exact Lw h j
 .exact Dr Z F C aE h
 .exact Dr Z F C aE h
 .exact LD F C hY hY hY hY h
theorem LI{op:UnOp}{x c:AV}{Y:Value}(F:VR G x Y)(h:nF op x=some c):∃v,(Op.unary op Y).run P w=.ok v w/\VR G c v:=by
 unfold nF at h;split at h
 .cases F;simp only[aA]at h;subst h;refine⟨_,rfl,?_⟩;exact .sx _ _
 .cases F;simp only[aA]at h;subst h;refine⟨_,rfl,?_⟩;exact .sx _ _
 .cases F;simp only[zeZ,aA]at h;subst h;exact⟨_,rfl,.int _ _⟩
 .cases F;simp only[zeZ,aA]at h;subst h;exact⟨_,rfl,.int _ _⟩
 .cases F;simp only[aA]at h;subst h;exact⟨_,rfl,.bool _⟩
 .simp at h
end
end Go.Ab
