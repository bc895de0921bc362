/- Parts: AbRel, AbMem, AbOps, AbOps2. -/
import Derived.Test.YtljebeflbbgibaaGreatZCA
import Derived.WalkKit
set_option linter.unusedSimpArgs false
set_option linter.unusedVariables false
set_option linter.unusedSectionVars false
set_option linter.defProp false
set_option maxHeartbeats 32000000
namespace Go.Ab
set_option maxRecDepth 20000
open Go
theorem aD{P:Prop}(h:P:=by simp):P:=h
theorem vC{P:Prop}(h:P:=by simpa using hc):P:=h
theorem ki{P:Prop}(h:P:=by simpa using L):P:=h
theorem ac{P:Prop}(h:P:=by omega):P:=h
theorem i6{P:Prop}(h:P:=by rw[<- k r _ hr];exact hc):P:=h
theorem co{P:Prop}(h:P:=by simp;omega):P:=h
theorem yy{P:Prop}(h:P:=by have:=h.dom _ _ K;omega):P:=h
theorem ij{P:Prop}(h:P:=by rw[zcu,if_pos rfl]):P:=h
theorem hB{P:Prop}(h:P:=by rw[Hp.get_set,if_pos rfl]):P:=h
theorem tn{P:Prop}(h:P:=by rw[Y];omega):P:=h
theorem tp{P:Prop}(h:P:=by simp only[zdL];omega):P:=h
theorem mp{P:Prop}(h:P:=by trivial):P:=h
theorem tq{P:Prop}(h:P:=by simpa using O):P:=h
theorem Cy{P:Prop}(h:P:=by simpa [Instr.loadAt,Instr.sureAddr]using i):P:=h
theorem yz{P:Prop}(h:P:=by rw[Nat.add_assoc];exact .ptr hr):P:=h
theorem pB{P:Prop}(h:P:=by simpa using W):P:=h
theorem nC{P:Prop}(h:P:=by constructor):P:=h
theorem qZ{P:Prop}(h:P:=by simp[binOp,Op.stringOp,ByteArray.toList_eq]):P:=h
theorem hC{P:Prop}(h:P:=by assumption):P:=h
theorem fF{P:Prop}(h:P:=by rw[zcu,if_neg ac]):P:=h
def i7:=@List.getElem?_append_left
def jI:=@List.getElem?_append_right
def mq:=@List.getElem?_take
def ax:=@if_pos
def aM:=@Nat.le_refl
def eG:=@Nat.le_trans
def fZ:=@Nat.lt_of_lt_of_le
def gD:=@Nat.eq_of_beq_eq_true
def yA:=@Nat.ne_of_beq_eq_false
def kZ:=@decide_true
def f4:=@decide_false
def ah:=@if_neg
def az:=@Option.some.injEq
def gE:=@Nat.blt_eq
def gF:=@Array.getD_eq_getD_getElem?
def re:=@Array.getElem?_setIfInBounds
def fh:=@Prod.mk.injEq
def dD:=@List.getElem?_eq_some_iff
def aO:=@List.getElem?_eq_getElem
def bw:=@Nat.zero_add
def vD:=@Go.RowKit.Below.heap_alloc
def f7:=@Nat.le_succ
def yB:=@List.take_append_of_le_length
def ev:=@List.take_of_length_le
def yC:=@List.drop_of_length_le
def fj:=@List.length_append
def iN:=@List.length_take
def dg:=@List.length_cons
def jo:=@List.length_nil
def vE:=@List.drop_drop
def lK:=@List.nil_append
def f8:=@List.append_assoc
def nD:=@List.getElem?_drop
def dI:=@Go.Sem.run_bind
def gG:=@Nat.add_assoc
def ik:=@List.length_drop
def ch:=@Option.bind_eq_some_iff
def mr:=@Option.map_eq_some_iff
def dN:=@Go.Result.andThen_ok
def bT:=@if_true
def il:=@Go.Sem.run_pure
def k0:=@Array.ext'
def oA:=@List.getElem_of_mem
def f9:=@List.all_eq_true
def dj:=@List.getElem_mem
def tt:=@Bool.eq_iff_iff
def k1:=@beq_iff_eq
def k2:=@Bool.true_eq_false
def ck:=@if_false
def k3:=@Bool.or_eq_false_iff
def ci:=And.intro @az.{0} @fh.{0,0}
end Go.Ab
namespace Go.Ab
set_option maxRecDepth 20000
open Go Go.RowKit
structure Gh where
 β:Nat->Option (Nat×Nat×Nat)
 F:Nat->Nat->Option Value
 ρ:Nat->Int
structure Bs where
 at':Nat
 ρ:Nat->Int
 cfg:Cfg
def kj(D:BinOp->Sx->Sx->Option Bool)(ρ:Nat->Int):Prop:=∀i k a b r,D i a b=some r->zeE i k (a.eval ρ) (b.eval ρ)=some (.bool r)
inductive VR (G:Gh):AV->Value->Prop
 |int (k:IntKind) (n:Int):VR G (.int k n) (.int k n)
 |sx (k:IntKind) (e:Sx):VR G (.sx k e) (.int k (e.eval G.ρ))
 |bool (b:Bool):VR G (.bool b) (.bool b)
 |str (s:ByteArray) (l:List UInt8) (h:s.data.toList=l):VR G (.str l) (.string s)
 |nilP:VR G .nilP (.pointer none)
 |nilM:VR G .nilM (.map none)
 |nilF:VR G .nilF .nilFunc
 |nilS:VR G .nilS (.slice none 0 0)
 |ptr {r off b o x:Nat} (h:G.β r=some (b,o,x)):VR G (.ptr r off) (.pointer (some ⟨b,o+off,none⟩))
 |iptr {cs:List AV}{b o:Nat} (vs:Nat->Value) (hF:∀j,j<cs.length->G.F b (o+j)=some (vs j))
  (hv:∀(j:Nat) (c:AV),cs[j]?=some c->VR G c (vs j)):VR G (.iptr cs) (.pointer (some ⟨b,o,none⟩))
 |sl {r off len z b o x cap:Nat} (h:G.β r=some (b,o,x)) (hl:len<=cap) (hc:off+cap*z<=x) :
  VR G (.sl r off len z) (.slice (some ⟨b,o+off,none⟩) len cap)
 |lst {xs:List (List AV)}{b o cap z:Nat} (vs:Nat->Nat->Value) (hz:∀(i:Nat) (row:List AV),xs[i]?=some row->row.length=z)
  (hF:∀i j,i<xs.length->j<z->G.F b (o+i*z+j)=some (vs i j))
  (hv:∀(i j:Nat) (row:List AV) (c:AV),xs[i]?=some row->row[j]?=some c->VR G c (vs i j)) (hc:xs.length<=cap) :
  VR G (.lst xs) (.slice (some ⟨b,o,none⟩) xs.length cap)
 |lst0 (a:Option Addr) (cap:Nat):VR G (.lst []) (.slice a 0 cap)
 |map {r b o x:Nat} (h:G.β r=some (b,o,x)):VR G (.map r) (.map (some b))
 |clo {f:Nat}{cs:List AV}{vs:List Value} (hl:cs.length=vs.length) (hv:∀(i:Nat) c v,cs[i]?=some c->vs[i]?=some v->VR G c v) :
  VR G (.clo f cs) (.func (.func f) #[] vs.toArray)
 |agg {cs:List AV}{vs:List Value} (hl:cs.length=vs.length) (hv:∀(i:Nat) c v,cs[i]?=some c->vs[i]?=some v->VR G c v) :
  VR G (.agg cs) (.agg vs.toArray)
 |tup {cs:List AV}{vs:List Value} (hl:cs.length=vs.length) (hv:∀(i:Nat) c v,cs[i]?=some c->vs[i]?=some v->VR G c v) :
  VR G (.tup cs) (.tuple vs.toArray)
def bO(G:Gh)(cs:List AV)(vs:List Value):Prop:=cs.length=vs.length/\∀(i:Nat) c v,cs[i]?=some c->vs[i]?=some v->VR G c v
theorem bO.nil(G:Gh):bO G [] []:=⟨rfl,aD⟩
def lL:=@bO.nil
theorem bO.cons{G:Gh}{c:AV}{v:Value}{cs:List AV}{vs:List Value}(h:VR G c v)(K:bO G cs vs):bO G (c::cs) (v::vs):=by
 refine⟨by simp[K.1],fun i M A hc L=>?_⟩;cases i with
 |zero=>simp at hc L;subst hc L;exact h
 |succ i=>exact K.2 i M A vC ki
def jJ:=@bO.cons
theorem bO.of_cons{G:Gh}{c:AV}{v:Value}{cs:List AV}{vs:List Value}(h:bO G (c::cs) (v::vs)):VR G c v/\bO G cs vs:=
 ⟨h.2 0 c v rfl rfl,by simpa using h.1,fun i M A hc L=>h.2 (i+1) M A vC ki⟩
theorem bO.append{G:Gh}{cs F:List AV}{vs us:List Value}(h:bO G cs vs)(V:bO G F us):bO G (cs++F) (vs++us):=by
 refine⟨by simp[h.1,V.1],fun i c v hc L=>?_⟩;have I:=h.1;by_cases C:i<cs.length
 .rw[i7 C]at hc;rw[i7 ac]at L;exact h.2 i c v hc L
 .rw[jI ac]at hc;rw[jI ac]at L;rw[<-I]at L;exact V.2 _ c v hc L
theorem bO.drop{G:Gh}{cs:List AV}{vs:List Value}(h:bO G cs vs)(n:Nat):bO G (cs.drop n) (vs.drop n):=
 ⟨by simp[h.1],fun i c v hc L=>h.2 (n+i) c v vC ki⟩
theorem bO.take{G:Gh}{cs:List AV}{vs:List Value}(h:bO G cs vs)(n:Nat):bO G (cs.take n) (vs.take n):=by
 refine⟨by simp[h.1],fun i c v hc L=>?_⟩;rw[mq]at hc L;split at hc
 .rename_i C;rw[ax C]at L;exact h.2 i c v hc L
 .simp at hc
structure Ext (G G':Gh):Prop where
 β:∀r p,G.β r=some p->G'.β r=some p
 F:∀b o v,G.F b o=some v->G'.F b o=some v
 ρ:G'.ρ=G.ρ
theorem Ext.refl(G:Gh):Ext G G:=⟨fun _ _ h=>h,fun _ _ _ h=>h,rfl⟩
def rg:=@Ext.refl
theorem Ext.trans{a b c:Gh}(h:Ext a b)(k:Ext b c):Ext a c:=⟨fun r p hp=>k.β r p (h.β r p hp),fun x y v L=>k.F x y v (h.F x y v L),k.ρ.trans h.ρ⟩
theorem VR.mono{G Z:Gh}(e:Ext G Z){c:AV}{v:Value}(h:VR G c v):VR Z c v:=by
 induction h with
 |int k n=>exact .int k n
 |sx k x=>rw[<-e.ρ];exact .sx k x
 |bool b=>exact .bool b
 |str s l h=>exact .str s l h
 |nilP=>exact .nilP
 |nilM=>exact .nilM
 |nilF=>exact .nilF
 |nilS=>exact .nilS
 |ptr h=>exact .ptr (e.β _ _ h)
 |iptr vs g _ ih=>exact .iptr vs (fun j O=>e.F _ _ _ (g j O)) ih
 |sl h I hc=>exact .sl (e.β _ _ h) I hc
 |lst vs m g _ hc ih=>exact .lst vs m (fun i j C O=>e.F _ _ _ (g i j C O)) ih hc
 |lst0 a U=>exact .lst0 a U
 |map h=>exact .map (e.β _ _ h)
 |clo I _ ih=>exact .clo I ih
 |agg I _ ih=>exact .agg I ih
 |tup I _ ih=>exact .tup I ih
theorem bO.mono{G Z:Gh}(e:Ext G Z){c:List AV}{v:List Value}(h:bO G c v):bO Z c v:=⟨h.1,fun i a b F z=>(h.2 i a b F z).mono e⟩
theorem VR.oneCell{G:Gh}{c:AV}{v:Value}(h:VR G c v):v.oneCell'=c.one:=by cases h<;>rfl
theorem VR.cells{G:Gh}{c:AV}{v:Value}(h:VR G c v):bO G c.cells v.cells.toList:=by
 cases h with
 |agg I L=>exact⟨by simpa [AV.cells,Value.cells]using I,by simpa [AV.cells,Value.cells]using L⟩
 |_=>exact jJ (by constructor<;>assumption) (lL _)
def ge(G:Gh)(w:World)(b o:Nat)(cs:List AV):Prop:=∀(j:Nat) (c:AV),cs[j]?=some c->∃v,w.cell? ⟨b,o+j,none⟩=some v/\VR G c v
def zdL(x:Nat)(cs:List AV):Bool->Nat
 |true=>x
 |false=>cs.length
def nE(G:Gh)(U:List (AV×AV))(ms:List MapEntry):Prop:=
 U.length=ms.length/\∀(i:Nat) e m,U[i]?=some e->ms[i]?=some m->VR G e.1 m.key/\VR G e.2 m.val
structure R (B:Bs) (H:Hp) (w:World) (G:Gh):Prop where
 base:B.at'<=w.heap.size
 dom:∀r p,G.β r=some p->r<H.next
 lt:∀r b o x,G.β r=some (b,o,x)->B.at'<=b/\b<w.heap.size
 cells:∀r b o x cs imm tip,G.β r=some (b,o,x)->H.get r=some (.cells cs imm tip)->ge G w b o cs
 imm:∀r b o x cs imm tip,G.β r=some (b,o,x)->H.get r=some (.cells cs imm tip)->∀j,j<imm->j<cs.length->∃v,G.F b (o+j)=some v
 ext:∀r b o x cs imm tip,G.β r=some (b,o,x)->H.get r=some (.cells cs imm tip)->cs.length<=zdL x cs tip
 room:∀r b o x cs imm tip,G.β r=some (b,o,x)->H.get r=some (.cells cs imm tip)->∀j,imm<=j->j<zdL x cs tip ->
  (∃v,w.cell? ⟨b,o+j,none⟩=some v)/\w.frozen? ⟨b,o+j,none⟩=false/\G.F b (o+j)=none
 apart:∀r b o x cs imm tip r' b' o' x' cs' imm' tip',G.β r=some (b,o,x)->H.get r=some (.cells cs imm tip) ->
  G.β r'=some (b',o',x')->H.get r'=some (.cells cs' imm' tip')->r≠r' ->
  ∀j j',imm<=j->j<zdL x cs tip->imm'<=j'->j'<zdL x' cs' tip'->b=b'->o+j≠o'+j'
 map:∀r b o x es,G.β r=some (b,o,x)->H.get r=some (.map es)->∃ms clock,w.heap[b]?=some (.map ms clock)/\nE G es ms.toList
 mapApart:∀r b o x es r' b' o' x',G.β r=some (b,o,x)->H.get r=some (.map es)->G.β r'=some (b',o',x')->(H.get r').isSome->r≠r'->b≠b'
 frz:∀b o v,G.F b o=some v->w.cell? ⟨b,o,none⟩=some v
 val:G.ρ=B.ρ
 sym:kj B.cfg.dec B.ρ
 fits:∀r b o x cs imm tip,G.β r=some (b,o,x)->H.get r=some (.cells cs imm tip)->cs.length<=x
structure Fr (G:Gh) (w w':World):Prop where
 os:w'.os=w.os
 tape:w'.tape=w.tape
 output:w'.output=w.output
 size:w.heap.size<=w'.heap.size
 block:∀k,k<w.heap.size->(∀r b o x,G.β r=some (b,o,x)->b≠k)->w'.heap[k]?=w.heap[k]?
theorem Fr.refl(G:Gh)(w:World):Fr G w w:=⟨rfl,rfl,rfl,aM _,fun _ _ _=>rfl⟩
def tu:=@Fr.refl
def nF(G Z:Gh)(w:World):Prop:=∀r b o x,Z.β r=some (b,o,x)->G.β r=some (b,o,x)\/w.heap.size<=b\/∃m U Y,G.β m=some (b,U,Y)
theorem Fr.trans{G Y:Gh}{a b c:World}(h:Fr G a b)(k:Fr Y b c)(n:nF G Y a):Fr G a c:=
 ⟨k.os.trans h.os,k.tape.trans h.tape,k.output.trans h.output,eG h.size k.size,fun i C m=>
  (k.block i (fZ C h.size) (fun r b o x hr L=>by
    rcases n r b o x hr with Z|Z|⟨W,U,V,Z⟩
    .exact m r b o x Z L
    .omega
    .exact m W b U V Z L)).trans (h.block i C m)⟩
theorem nF.refl(G:Gh)(w:World):nF G G w:=fun _ _ _ _ h=>.inl h
def pC:=@nF.refl
theorem nF.trans{G Z M:Gh}{w w':World}(h:nF G Z w)(k:nF Z M w')(K:w.heap.size<=w'.heap.size):nF G M w:=fun r b o x hr=>by
 rcases k r b o x hr with i|i|⟨m,U,Y,i⟩
 .exact h r b o x i
 .exact .inr (.inl ac)
 .rcases h m b U Y i with g|g|g
  .exact .inr (.inr ⟨m,U,Y,g⟩)
  .exact .inr (.inl g)
  .exact .inr (.inr g)
structure Step (B:Bs) (nx:Nat) (G:Gh) (w:World) (H':Hp) (w':World) (G':Gh):Prop where
 r:R B H' w' G'
 ext:Ext G G'
 fr:Fr G w w'
 new:nF G G' w
 low:∀r p,G'.β r=some p->G.β r=some p\/nx<=r
 mono:nx<=H'.next
 icy:∀b o v,G'.F b o=some v->G.F b o=some v\/B.at'<=b
theorem Step.refl{B:Bs}{H:Hp}{G:Gh}{w:World}(h:R B H w G):Step B H.next G w H w G:=⟨h,rg _,tu _ _,pC _ _,fun _ _ h=>.inl h,aM _,fun _ _ _ h=>.inl h⟩
def i8:=@Step.refl
theorem Step.trans{B:Bs}{Y:Nat}{H' O:Hp}{G W M:Gh}{w w' Z:World}(h:Step B Y G w H' w' W)(k:Step B H'.next W w' O Z M):Step B Y G w O Z M:=
 ⟨k.r,h.ext.trans k.ext,h.fr.trans k.fr h.new,h.new.trans k.new h.fr.size,fun r p hr=>by
  rcases k.low r p hr with i|i
  .exact h.low r p i
  .exact .inr (eG h.mono i),eG h.mono k.mono,fun b o v L=>by
  rcases k.icy b o v L with i|i
  .exact h.icy b o v i
  .exact .inr i⟩
structure TR (N:Nat) (G:Gh) (E:ao) (a:Act):Prop where
 size:a.tmps.size=N
 slots:∀t,VR G (E.at t) (a.tmps.getD t undef)
theorem TR.mono{N:Nat}{G Z:Gh}{E:ao}{a:Act}(e:Ext G Z)(h:TR N G E a):TR N Z E a:=⟨h.size,fun t=>(h.slots t).mono e⟩
theorem VR.undef(G:Gh):VR G zdx Go.undef:=.tup (cs:=[]) (vs:=[]) rfl aD
def tv:=@VR.undef
@[simp] theorem nG {α:Type} (x y:α):hY true x y=x:=rfl
@[simp] theorem ze1 {α:Type} (x y:α):hY false x y=y:=rfl
theorem tw{M:Type}(k:Nat):(T.e:T M).get k=none:=rfl
theorem pD{M:Type}(v:Option M)(l r:T M)(k:Nat):
 (T.n v l r).get k=hY (Nat.beq k 0) v (hY (Nat.beq (Nat.mod k 2) 1) (l.get (Nat.div k 2)) (r.get (Nat.sub (Nat.div k 2) 1))):=rfl
theorem KN{M:Type}(v:Option M)(f:Nat)(t:T M)(k:Nat):po v (f+1) t k=T.casesOn t
 (hY (Nat.beq k 0) (.n v .e .e) (hY (Nat.beq (Nat.mod k 2) 1) (.n none (po v f .e (Nat.div k 2)) .e) (.n none .e (po v f .e (Nat.sub (Nat.div k 2) 1)))))
 (fun u l r=>hY (Nat.beq k 0) (.n v l r) (hY (Nat.beq (Nat.mod k 2) 1) (.n u (po v f l (Nat.div k 2)) r) (.n u l (po v f r (Nat.sub (Nat.div k 2) 1))))):=rfl
theorem KO{Y:Type}(v:Option Y):∀(f:Nat) (t:T Y) (k j:Nat),k<f->(po v f t k).get j=if j=k then v else t.get j:=by
 intro f;induction f with
 |zero=>intro t k j h;omega
 |succ f ih=>
  intro t k j h;have hd:∀n:Nat,Nat.div n 2=n/2:=fun _=>rfl;have M:∀n:Nat,Nat.mod n 2=n%2:=fun _=>rfl;have K:∀n:Nat,Nat.sub n 1=n-1:=fun _=>rfl;have U:∀n m:Nat,Nat.beq n m=decide (n=m):=fun n m=>by
   cases h:Nat.beq n m with
   |true=>have e:=gD h;simp[e]
   |false=>have e:=yA h;simp[e]
  rw[KN];cases t with
  |e=>
   simp only[];by_cases V:k=0
   .subst V;simp only[U,kZ,nG,pD,tw];by_cases O:j=0<;>simp[O] ;cases decide (j.mod 2=1)<;>rfl
   .simp only[U,V,f4,ze1];by_cases Z:Nat.mod k 2=1
    .simp only[Z,kZ,nG,pD,U];by_cases F:j=0
     .subst F;simp[tw];omega
     .simp only[F,f4,ze1];by_cases W:Nat.mod j 2=1
      .simp only[W,kZ,nG];rw[ih _ _ _ (by rw[hd];omega)];rw[hd,hd,M]at *;by_cases e:j=k
       .subst e;simp
       .rw[ah ac,ah e];rfl
      .simp only[W,f4,ze1,tw];rw[ah (by rintro rfl;exact W Z)]
    .simp only[Z,f4,ze1,pD,U];by_cases F:j=0
     .subst F;simp[tw];omega
     .simp only[F,f4,ze1];by_cases W:Nat.mod j 2=1
      .simp only[W,kZ,nG,tw];rw[ah (by rintro rfl;exact Z W)]
      .simp only[W,f4,ze1];rw[ih _ _ _ (by rw[hd,K];omega)];rw[hd,hd,K,K];rw[M]at Z W;by_cases e:j=k
       .subst e;simp
       .rw[ah ac,ah e];rfl
  |n u l r=>
   simp only[];by_cases V:k=0
   .subst V;simp only[U,kZ,nG,pD];by_cases O:j=0<;>simp[O]
   .simp only[U,V,f4,ze1];by_cases Z:Nat.mod k 2=1
    .simp only[Z,kZ,nG,pD,U];by_cases F:j=0
     .subst F;simp;omega
     .simp only[F,f4,ze1];by_cases W:Nat.mod j 2=1
      .simp only[W,kZ,nG];rw[ih _ _ _ (by rw[hd];omega)];rw[M]at Z W;rw[hd,hd];by_cases e:j=k
       .subst e;simp
       .rw[ah ac,ah e]
      .simp only[W,f4,ze1];rw[ah (by rintro rfl;exact W Z)]
    .simp only[Z,f4,ze1,pD,U];by_cases F:j=0
     .subst F;simp;omega
     .simp only[F,f4,ze1];by_cases W:Nat.mod j 2=1
      .simp only[W,kZ,nG];rw[ah (by rintro rfl;exact Z W)]
      .simp only[W,f4,ze1];rw[ih _ _ _ (by rw[hd,K];omega)];rw[M]at Z W;rw[hd,hd,K,K];by_cases e:j=k
       .subst e;simp
       .rw[ah ac,ah e]
theorem T.get_set{M:Type}(t:T M)(k j:Nat)(v:Option M):(t.set k v).get j=if j=k then v else t.get j:=KO v (k+1) t k j ac
def vF:=@T.get_set
theorem Hp.get_set(h:Hp)(r j:Nat)(b:HB):(h.set r b).get j=if j=r then some b else h.get j:=vF _ _ _ _
def aU:=@Hp.get_set
theorem zem(h:Hp)(r j:Nat):(h.kill r).get j=if j=r then none else h.get j:=vF _ _ _ _
theorem zcu(h:Hp)(j:Nat)(b:HB):(h.alloc b).get j=if j=h.next then some b else h.get j:=vF _ _ _ _
@[simp] theorem zcS (h:Hp) (r:Nat) (b:HB):(h.set r b).next=h.next:=rfl
@[simp] theorem ze7 (h:Hp) (r:Nat):(h.kill r).next=h.next:=rfl
@[simp] theorem zcB (h:Hp) (b:HB):(h.alloc b).next=h.next+1:=rfl
theorem rh(E:ao)(d t:Nat)(v:AV):ao.at (T.set E d (some v)) t=if t=d then v else E.at t:=by
 unfold ao.at;rw[vF];split<;>rfl
theorem TR.put{N:Nat}{G:Gh}{E F:ao}{a:Act}(h:TR N G E a){j:Option Tmp}{c:AV}{v:Value}(L:VR G c v)(V:dW N E j c=some F):TR N G F (a.put j v):=by
 cases j with
 |none=>simp[dW]at V;subst V;exact h
 |some d=>
  simp only[dW]at V;split at V
  .rename_i hd;simp only[az]at V;subst V;have U:d<N:=by simpa [gE]using hd
   refine⟨by simp[Act.put,h.size],fun t=>?_⟩;rw[rh];simp only[Act.put];by_cases e:t=d
   .subst e;rw[ax rfl];simpa [Array.getD,h.size,U]using L
   .rw[ah e];have:=h.slots t;simpa [gF,re,Ne.symm e]using this
  .simp at V
theorem k5{w:World}{b o:Nat}{v:Value}(h:w.cell? ⟨b,o,none⟩=some v):b<w.heap.size:=World.block_lt_of_cell? w ⟨b,o,none⟩ h
theorem R.congr{B:Bs}{H H':Hp}{w:World}{G:Gh}(h:R B H w G)(K:H'.next=H.next)(J:∀r,(G.β r).isSome->H'.get r=H.get r):R B H' w G:=by
 have k:∀r p,G.β r=some p->H'.get r=H.get r:=fun r p hr=>J r (by simp[hr]);exact{
  base:=h.base
  dom:=fun r p hr=>by rw[K];exact h.dom r p hr
  lt:=h.lt
  cells:=fun r b o x W imm O hr hc=>h.cells r b o x W imm O hr i6
  imm:=fun r b o x W imm O hr hc=>h.imm r b o x W imm O hr i6
  ext:=fun r b o x W imm O hr hc=>h.ext r b o x W imm O hr i6
  fits:=fun r b o x W imm O hr hc=>h.fits r b o x W imm O hr i6
  room:=fun r b o x W imm O hr hc=>h.room r b o x W imm O hr i6
  apart:=fun r b o x W imm O m i U Z V z A hr hc Y M=>h.apart r b o x W imm O m i U Z V z A hr i6 Y (by rw[<-k m _ Y];exact M)
  map:=fun r b o x L hr hc=>h.map r b o x L hr i6
  mapApart:=fun r b o x L m i U Z hr hc Y I=>h.mapApart r b o x L m i U Z hr i6 Y (by rw[<-k m _ Y];exact I)
  frz:=h.frz
  val:=h.val
  sym:=h.sym}
theorem R.kill{B:Bs}{H:Hp}{w:World}{G:Gh}(h:R B H w G)(zcN:Nat):R B (H.kill zcN) w G:=by
 have k:∀j b,(H.kill zcN).get j=some b->H.get j=some b:=fun j b Z=>by
  rw[zem]at Z;split at Z
  .simp at Z
  .exact Z
 exact{
  base:=h.base
  dom:=h.dom
  lt:=h.lt
  cells:=fun r b o x W imm O hr hc=>h.cells r b o x W imm O hr (k _ _ hc)
  imm:=fun r b o x W imm O hr hc=>h.imm r b o x W imm O hr (k _ _ hc)
  ext:=fun r b o x W imm O hr hc=>h.ext r b o x W imm O hr (k _ _ hc)
  fits:=fun r b o x W imm O hr hc=>h.fits r b o x W imm O hr (k _ _ hc)
  room:=fun r b o x W imm O hr hc=>h.room r b o x W imm O hr (k _ _ hc)
  apart:=fun r b o x W imm O m i U V M z A hr hc Y L=>h.apart r b o x W imm O m i U V M z A hr (k _ _ hc) Y (k _ _ L)
  map:=fun r b o x K hr hc=>h.map r b o x K hr (k _ _ hc)
  mapApart:=fun r b o x K m i U V hr hc Y I=>h.mapApart r b o x K m i U V hr (k _ _ hc) Y (by
   cases J:(H.kill zcN).get m with
   |none=>simp[J]at I
   |some b=>rw[k _ _ J];rfl)
  frz:=h.frz
  val:=h.val
  sym:=h.sym}
def Gh.add(G:Gh)(r:Nat)(p:Nat×Nat×Nat):Gh:={β:=fun k=>if k=r then some p else G.β k,F:=G.F,ρ:=G.ρ}
theorem jC(G:Gh)(r:Nat)(p:Nat×Nat×Nat):(G.add r p).β r=some p:=by simp[Gh.add]
theorem yD{G:Gh}{r:Nat}{p:Nat×Nat×Nat}(h:∀q,G.β r=some q->False):Ext G (G.add r p):=
 ⟨fun k q j=>by
  simp only[Gh.add];split
  .rename_i e;subst e;exact(h q j).elim
  .exact j,fun _ _ _ h=>h,rfl⟩
theorem ge.mono{G Z:Gh}{w:World}{b o:Nat}{cs:List AV}(e:Ext G Z)(h:ge G w b o cs):ge Z w b o cs:=
 fun j c O=>let ⟨v,i,g⟩:=h j c O;⟨v,i,g.mono e⟩
theorem nE.mono{G Z:Gh}{U:List (AV×AV)}{ms:List MapEntry}(e:Ext G Z)(h:nE G U ms):nE Z U ms:=
 ⟨h.1,fun i a b F z=>⟨(h.2 i a b F z).1.mono e,(h.2 i a b F z).2.mono e⟩⟩
theorem Cz{B:Bs}{nx zcN:Nat}{X:Hp}{w:World}{G:Gh}(h:R B X w G){cs:List AV}{vs:List Value}(hno:∀q,G.β zcN=some q->False)(hlt0:zcN<X.next)(W:X.get zcN=some (.cells cs 0 true))(hnx:nx<=zcN)
 (hv:bO G cs vs) (Z:List Value) (e:TypeId) :
 Step B nx G w X (w.alloc (.cells (vs++Z).toArray e)) (G.add zcN (w.heap.size,0,vs.length+Z.length)):=by
 have U:Ext G (G.add zcN (w.heap.size,0,vs.length+Z.length)):=yD hno;have K:∀k i F,k<w.heap.size->i=k->(w.alloc (.cells (vs++Z).toArray e)).cell? ⟨i,F,none⟩=w.cell? ⟨i,F,none⟩:=fun k i F hk hb=>World.cell?_alloc_lt _ _ _ (by simpa [hb]using hk);have A:∀j,(w.alloc (.cells (vs++Z).toArray e)).cell? ⟨w.heap.size,j,none⟩=(vs++Z)[j]?:=fun j=>by
  rw[World.cell?_alloc_new];simp
 have g:∀r p,(G.add zcN (w.heap.size,0,vs.length+Z.length)).β r=some p->(r=zcN/\p=(w.heap.size,0,vs.length+Z.length))\/(r≠zcN/\G.β r=some p):=fun r p hr=>by
  simp only[Gh.add]at hr;split at hr
  .rename_i e;exact .inl ⟨e,by simpa using hr.symm⟩
  .rename_i e;exact .inr ⟨e,hr⟩
 refine⟨?_,U,⟨rfl,rfl,rfl,aD,fun k hk _=>?_⟩,fun r b o x hr=>?_,fun r p hr=>(g r p hr).elim (fun e=>.inr (by rw[e.1];exact hnx)) (fun e=>.inl e.2),ac,fun _ _ _ h=>.inl h⟩
 .exact{
   base:=by have:=h.base;simp;omega
   dom:=fun r p hr=>by
    rcases g r p hr with⟨rfl,_⟩|⟨_,Y⟩
    .exact hlt0
    .exact h.dom r p Y
   lt:=fun r b o x hr=>by
    rcases g r _ hr with⟨rfl,hp⟩|⟨_,Y⟩
    .simp only[fh]at hp;obtain⟨rfl,rfl,rfl⟩:=hp;exact⟨h.base,aD⟩
    .have:=h.lt r b o x Y;exact⟨this.1,co⟩
   cells:=fun r b o x m imm O hr hc=>by
    rcases g r _ hr with⟨rfl,hp⟩|⟨I,Y⟩
    .simp only[fh]at hp;obtain⟨rfl,rfl,rfl⟩:=hp;rw[W]at hc;simp only[az,HB.cells.injEq]at hc;obtain⟨rfl,rfl,rfl⟩:=hc;intro j c J;have V:j<cs.length:=(dD.1 J).1;have hjv:j<vs.length:=by have:=hv.1;omega
     refine⟨vs[j],?_,(hv.2 j c _ J (aO hjv)).mono U⟩;rw[bw,A,i7 hjv,aO hjv]
    .intro j c J;obtain⟨v,C,h2⟩:=h.cells r b o x m imm O Y hc j c J;exact⟨v,by rw[K _ _ _ (k5 C) rfl];exact C,h2.mono U⟩
   imm:=fun r b o x m imm O hr hc j J V=>by
    rcases g r _ hr with⟨rfl,hp⟩|⟨I,Y⟩
    .rw[W]at hc;simp only[az,HB.cells.injEq]at hc;obtain⟨rfl,rfl,rfl⟩:=hc;omega
    .exact h.imm r b o x m imm O Y hc j J V
   ext:=fun r b o x m imm O hr hc=>by
    rcases g r _ hr with⟨rfl,hp⟩|⟨I,Y⟩
    .simp only[fh]at hp;obtain⟨rfl,rfl,rfl⟩:=hp;rw[W]at hc;simp only[az,HB.cells.injEq]at hc;obtain⟨rfl,rfl,rfl⟩:=hc;have:=hv.1;simp only[zdL];omega
    .exact h.ext r b o x m imm O Y hc
   fits:=fun r b o x m imm O hr hc=>by
    rcases g r _ hr with⟨rfl,hp⟩|⟨I,Y⟩
    .simp only[fh]at hp;obtain⟨rfl,rfl,rfl⟩:=hp;rw[W]at hc;simp only[az,HB.cells.injEq]at hc;obtain⟨rfl,rfl,rfl⟩:=hc;have:=hv.1;omega
    .exact h.fits r b o x m imm O Y hc
   room:=fun r b o x m imm O hr hc j J V=>by
    rcases g r _ hr with⟨rfl,hp⟩|⟨I,Y⟩
    .simp only[fh]at hp;obtain⟨rfl,rfl,rfl⟩:=hp;rw[W]at hc;simp only[az,HB.cells.injEq]at hc;obtain⟨rfl,rfl,rfl⟩:=hc;simp only[zdL]at V;refine⟨⟨(vs++Z)[j]' co,?_⟩,?_,?_⟩
     .rw[bw,A,aO]
     .simp
     .cases hf:G.F w.heap.size (0+j)with
      |none=>exact hf
      |some v=>have:=k5 (h.frz _ _ _ hf);omega
    .obtain⟨⟨v,C⟩,h2,h3⟩:=h.room r b o x m imm O Y hc j J V;exact⟨⟨v,by rw[K _ _ _ (k5 C) rfl];exact C⟩,by rw[World.frozen?_alloc_old _ _ _ (by have:=k5 C;simp;omega)];exact h2,h3⟩
   apart:=fun r b o x cs1 imm O z i F x' cs2 imm' tip' hr hc Y hc' I j j' J V hj' hjl' he=>by
    rcases g r _ hr with⟨rfl,hp⟩|⟨hn1,M⟩
    .simp only[fh]at hp;obtain⟨rfl,rfl,rfl⟩:=hp;rcases g z _ Y with⟨rfl,hp⟩|⟨hn2,L⟩
     .exact(I rfl).elim
     .have:=(h.lt z i F x' L).2;omega
    .rcases g z _ Y with⟨rfl,hp⟩|⟨hn2,L⟩
     .simp only[fh]at hp;obtain⟨rfl,rfl,rfl⟩:=hp;have:=(h.lt r b o x M).2;omega
     .exact h.apart r b o x cs1 imm O z i F x' cs2 imm' tip' M hc L hc' I j j' J V hj' hjl' he
   map:=fun r b o x es hr hc=>by
    rcases g r _ hr with⟨rfl,hp⟩|⟨I,Y⟩
    .rw[W]at hc;simp at hc
    .obtain⟨ms,clock,C,h2⟩:=h.map r b o x es Y hc;refine⟨ms,clock,?_,h2.mono U⟩;rw[vD _ _ _ (h.lt r b o x Y).2];exact C
   mapApart:=fun r b o x es z i F x' hr hc Y hs I=>by
    rcases g r _ hr with⟨rfl,hp⟩|⟨hn1,M⟩
    .rw[W]at hc;simp at hc
    .rcases g z _ Y with⟨rfl,hp⟩|⟨hn2,L⟩
     .simp only[fh]at hp;obtain⟨rfl,rfl,rfl⟩:=hp;have:=(h.lt r b o x M).2;omega
     .exact h.mapApart r b o x es z i F x' M hc L hs I
   frz:=fun b o v hf=>by
    have:=h.frz b o v hf;rw[K _ _ _ (k5 this) rfl];exact this
   val:=h.val
   sym:=h.sym}
 .exact vD _ _ _ hk
 .rcases g r _ hr with⟨rfl,hp⟩|⟨_,Y⟩
  .simp only[fh]at hp;obtain⟨rfl,rfl,rfl⟩:=hp;exact .inr (.inl (aM _))
  .exact .inl Y
theorem CA{B:Bs}{nx zcN:Nat}{X:Hp}{w:World}{G:Gh}(h:R B X w G)(hno:∀q,G.β zcN=some q->False)(hlt0:zcN<X.next)(W:X.get zcN=some (.map []))(hnx:nx<=zcN):
 Step B nx G w X (w.alloc (.map #[] 0)) (G.add zcN (w.heap.size,0,0)):=by
 have U:Ext G (G.add zcN (w.heap.size,0,0)):=yD hno;have M:∀k i K,k<w.heap.size->i=k->(w.alloc (.map #[] 0)).cell? ⟨i,K,none⟩=w.cell? ⟨i,K,none⟩:=fun k i K hk hb=>World.cell?_alloc_lt _ _ _ (by simpa [hb]using hk);have g:∀r p,(G.add zcN (w.heap.size,0,0)).β r=some p->(r=zcN/\p=(w.heap.size,0,0))\/(r≠zcN/\G.β r=some p):=fun r p hr=>by
  simp only[Gh.add]at hr;split at hr
  .rename_i e;exact .inl ⟨e,by simpa using hr.symm⟩
  .rename_i e;exact .inr ⟨e,hr⟩
 refine⟨?_,U,⟨rfl,rfl,rfl,aD,fun k hk _=>?_⟩,fun r b o x hr=>?_,fun r p hr=>(g r p hr).elim (fun e=>.inr (by rw[e.1];exact hnx)) (fun e=>.inl e.2),ac,fun _ _ _ h=>.inl h⟩
 .exact{
   base:=by have:=h.base;simp;omega
   dom:=fun r p hr=>by
    rcases g r p hr with⟨rfl,_⟩|⟨_,Y⟩
    .exact hlt0
    .exact h.dom r p Y
   lt:=fun r b o x hr=>by
    rcases g r _ hr with⟨rfl,hp⟩|⟨_,Y⟩
    .simp only[fh]at hp;obtain⟨rfl,rfl,rfl⟩:=hp;exact⟨h.base,aD⟩
    .have:=h.lt r b o x Y;exact⟨this.1,co⟩
   cells:=fun r b o x m imm O hr hc=>by
    rcases g r _ hr with⟨rfl,hp⟩|⟨I,Y⟩
    .rw[W]at hc;simp at hc
    .intro j c F;obtain⟨v,J,h2⟩:=h.cells r b o x m imm O Y hc j c F;exact⟨v,by rw[M _ _ _ (k5 J) rfl];exact J,h2.mono U⟩
   imm:=fun r b o x m imm O hr hc j F Z=>by
    rcases g r _ hr with⟨rfl,hp⟩|⟨I,Y⟩
    .rw[W]at hc;simp at hc
    .exact h.imm r b o x m imm O Y hc j F Z
   ext:=fun r b o x m imm O hr hc=>by
    rcases g r _ hr with⟨rfl,hp⟩|⟨I,Y⟩
    .rw[W]at hc;simp at hc
    .exact h.ext r b o x m imm O Y hc
   fits:=fun r b o x m imm O hr hc=>by
    rcases g r _ hr with⟨rfl,hp⟩|⟨I,Y⟩
    .rw[W]at hc;simp at hc
    .exact h.fits r b o x m imm O Y hc
   room:=fun r b o x m imm O hr hc j F Z=>by
    rcases g r _ hr with⟨rfl,hp⟩|⟨I,Y⟩
    .rw[W]at hc;simp at hc
    .obtain⟨⟨v,J⟩,h2,h3⟩:=h.room r b o x m imm O Y hc j F Z;exact⟨⟨v,by rw[M _ _ _ (k5 J) rfl];exact J⟩,by rw[World.frozen?_alloc_old _ _ _ (by have:=k5 J;simp;omega)];exact h2,h3⟩
   apart:=fun r b o x cs1 imm O C i K x' cs2 imm' tip' hr hc Y A I j j' F Z hj' hjl' he=>by
    rcases g r _ hr with⟨rfl,hp⟩|⟨hn1,L⟩
    .rw[W]at hc;simp at hc
    .rcases g C _ Y with⟨rfl,hp⟩|⟨hn2,V⟩
     .rw[W]at A;simp at A
     .exact h.apart r b o x cs1 imm O C i K x' cs2 imm' tip' L hc V A I j j' F Z hj' hjl' he
   map:=fun r b o x es hr hc=>by
    rcases g r _ hr with⟨rfl,hp⟩|⟨I,Y⟩
    .simp only[fh]at hp;obtain⟨rfl,rfl,rfl⟩:=hp;rw[W]at hc;simp only[az,HB.map.injEq]at hc;subst hc;exact⟨#[],0,by show(w.heap.push _)[w.heap.size]?=_;simp,rfl,aD⟩
    .obtain⟨ms,z,J,h2⟩:=h.map r b o x es Y hc;refine⟨ms,z,?_,h2.mono U⟩;rw[vD _ _ _ (h.lt r b o x Y).2];exact J
   mapApart:=fun r b o x es C i K x' hr hc Y hs I=>by
    rcases g r _ hr with⟨rfl,hp⟩|⟨hn1,L⟩
    .simp only[fh]at hp;obtain⟨rfl,rfl,rfl⟩:=hp;rcases g C _ Y with⟨rfl,hp⟩|⟨hn2,V⟩
     .exact(I rfl).elim
     .have:=(h.lt C i K x' V).2;omega
    .rcases g C _ Y with⟨rfl,hp⟩|⟨hn2,V⟩
     .simp only[fh]at hp;obtain⟨rfl,rfl,rfl⟩:=hp;have:=(h.lt r b o x L).2;omega
     .exact h.mapApart r b o x es C i K x' L hc V hs I
   frz:=fun b o v hf=>by
    have:=h.frz b o v hf;rw[M _ _ _ (k5 this) rfl];exact this
   val:=h.val
   sym:=h.sym}
 .exact vD _ _ _ hk
 .rcases g r _ hr with⟨rfl,hp⟩|⟨_,Y⟩
  .simp only[fh]at hp;obtain⟨rfl,rfl,rfl⟩:=hp;exact .inr (.inl (aM _))
  .exact .inl Y
theorem R.more{B:Bs}{H X:Hp}{w:World}{G:Gh}(h:R B H w G)(K:H.next<=X.next)(J:∀r,r<H.next->X.get r=H.get r):R B X w G:=by
 have k:∀r p,G.β r=some p->X.get r=H.get r:=fun r p hr=>J r (h.dom r p hr);exact{
  base:=h.base
  dom:=fun r p hr=>fZ (h.dom r p hr) K
  lt:=h.lt
  cells:=fun r b o x W imm O hr hc=>h.cells r b o x W imm O hr i6
  imm:=fun r b o x W imm O hr hc=>h.imm r b o x W imm O hr i6
  ext:=fun r b o x W imm O hr hc=>h.ext r b o x W imm O hr i6
  fits:=fun r b o x W imm O hr hc=>h.fits r b o x W imm O hr i6
  room:=fun r b o x W imm O hr hc=>h.room r b o x W imm O hr i6
  apart:=fun r b o x W imm O m i U Z V z A hr hc Y M=>h.apart r b o x W imm O m i U Z V z A hr i6 Y (by rw[<-k m _ Y];exact M)
  map:=fun r b o x L hr hc=>h.map r b o x L hr i6
  mapApart:=fun r b o x L m i U Z hr hc Y I=>h.mapApart r b o x L m i U Z hr i6 Y (by rw[<-k m _ Y];exact I)
  frz:=h.frz
  val:=h.val
  sym:=h.sym}
theorem R.alloc{B:Bs}{H:Hp}{w:World}{G:Gh}(h:R B H w G)(g:HB):R B (H.alloc g) w G:=
 h.more (f7 _) (fun r hr=>fF)
theorem vG{B:Bs}{H:Hp}{w:World}{G:Gh}(h:R B H w G){cs:List AV}{vs:List Value}(L:bO G cs vs)(Y:List Value)(e:TypeId):
 Step B H.next G w (H.alloc (.cells cs 0 true)) (w.alloc (.cells (vs++Y).toArray e)) (G.add H.next (w.heap.size,0,vs.length+Y.length)):=
 Cz (h.alloc _) (fun q K=>yy) aD ij (aM _) L Y e
theorem KP{B:Bs}{H:Hp}{w:World}{G:Gh}(h:R B H w G):
 Step B H.next G w (H.alloc (.map [])) (w.alloc (.map #[] 0)) (G.add H.next (w.heap.size,0,0)):=
 CA (h.alloc _) (fun q K=>yy) aD ij (aM _)
inductive Made (G:Gh):HB->Obj->Nat->Prop
 |cells (cs:List AV) (vs spare:List Value) (e:TypeId) (hv:bO G cs vs):Made G (.cells cs 0 true) (.cells (vs++spare).toArray e) (vs.length+spare.length)
 |map:Made G (.map []) (.map #[] 0) 0
theorem CB{B:Bs}{Z zcN:Nat}{X:Hp}{w:World}{G:Gh}{g:HB}{j:Obj}{ext:Nat}(h:R B X w G)(o:∀q,G.β zcN=some q->False)(V:zcN<X.next)(A:X.get zcN=some g)(i:Z<=zcN)(M:Made G g j ext):
 Step B Z G w X (w.alloc j) (G.add zcN (w.heap.size,0,ext)):=by
 cases M with
 |cells W vs Y e L=>exact Cz h o V A i L Y e
 |map=>exact CA h o V A i
def lM(P:Program)(G:Gh)(w:World){M:Type}(s:Sem M)(f:Value->M)(c:AV)(H H':Hp):Prop:=
 ∃g j ext v,H'=H.alloc g/\s.run P w=.ok (f v) (w.alloc j)/\Made G g j ext/\∀Z:Gh,Z.β H.next=some (w.heap.size,0,ext)->VR Z c v
theorem lM.sim{P:Program}{B:Bs}{H H':Hp}{w:World}{G:Gh}(h:R B H w G){s:Sem Value}{c:AV}(M:lM P G w s id c H H'):∃v W Z,s.run P w=.ok v W/\VR Z c v/\Step B H.next G w H' W Z:=by
 obtain⟨g,j,ext,v,rfl,i,Y,o⟩:=M;exact⟨v,_,_,i,o _ (jC _ _ _),CB (h.alloc _) (fun q K=>yy) aD ij (aM _) Y⟩
theorem lM.next{P:Program}{H H':Hp}{w:World}{G:Gh}{s:Sem Value}{c:AV}(M:lM P G w s id c H H'):lM P G w (do pure (.value (<-s)):Sem Next) Next.value c H H':=by
 obtain⟨g,j,ext,v,o,i,Z,Y⟩:=M;exact⟨g,j,ext,v,o,by simp[i],Z,Y⟩
theorem KQ{b o i U:Nat}(h:b=i->o≠U):(⟨b,o,none⟩:Addr)≠⟨i,U,none⟩:=fun e=>by
 simp only[Addr.mk.injEq]at e;exact h e.1 e.2.1
theorem KR{B:Bs}{H:Hp}{w:World}{G:Gh}(h:R B H w G){r b o x:Nat}{cs cs':List AV}{imm:Nat}{tip:Bool}(hr:G.β r=some (b,o,x))(hc:H.get r=some (.cells cs imm tip))
 {j:Nat} (hj:imm<=j) (hjl:j<zdL x cs tip) {v:Value}
 (hcs:∀(i:Nat) c,cs'[i]?=some c->(i=j/\VR G c v)\/(i≠j/\cs[i]?=some c)) (hl:cs'.length<=zdL x cs tip) (hl':tip=false->cs'.length=cs.length) :
 Step B H.next G w (H.set r (.cells cs' imm tip)) (w.setCell ⟨b,o+j,none⟩ v) G:=by
 obtain⟨⟨u,hu⟩,hfz,hF⟩:=h.room r b o x cs imm tip hr hc j hj hjl;have hsame:(w.setCell ⟨b,o+j,none⟩ v).cell? ⟨b,o+j,none⟩=some v:=World.cell?_setCell_same _ _ _ hu;have M:∀C A,(C=b->A≠o+j)->(w.setCell ⟨b,o+j,none⟩ v).cell? ⟨C,A,none⟩=w.cell? ⟨C,A,none⟩:=fun C A m=>
  World.cell?_setCell_other _ _ _ _ (KQ fun e e'=>m e.symm e'.symm)
 have I:zdL x cs' tip=zdL x cs tip:=by
  cases tip with
  |true=>rfl
  |false=>exact hl' rfl
 have g:∀k,k≠r->(H.set r (.cells cs' imm tip)).get k=H.get k:=fun k hk=>by rw[aU,ah hk]
 have U:(H.set r (.cells cs' imm tip)).get r=some (.cells cs' imm tip):=hB;have hkeep:∀C A v',G.F C A=some v'->(C=b->A≠o+j):=fun C A v' hf e e'=>by subst e;subst e';rw[hF]at hf;simp at hf
 have hcell:∀C A,(∃v',w.cell? ⟨C,A,none⟩=some v')->∃v',(w.setCell ⟨b,o+j,none⟩ v).cell? ⟨C,A,none⟩=some v':=fun C A ⟨v',hv'⟩=>by
  by_cases e:C=b/\A=o+j
  .obtain⟨rfl,rfl⟩:=e;exact⟨v,hsame⟩
  .exact⟨v',by rw[M C A (fun e1 e2=>e ⟨e1,e2⟩)];exact hv'⟩
 refine⟨?_,rg _,⟨rfl,rfl,rfl,aD,fun k hk hn=>?_⟩,pC _ _,fun _ _ h=>.inl h,aM _,fun _ _ _ h=>.inl h⟩
 .exact{
   base:=by have:=h.base;simpa using this
   dom:=h.dom
   lt:=fun r b o x hr=>by have:=h.lt r b o x hr;simpa using this
   cells:=fun zct z J L O W V Y Z=>by
    by_cases e:zct=r
    .subst e;rw[hr]at Y;simp only[ci]at Y;obtain⟨rfl,rfl,rfl⟩:=Y;rw[U]at Z;simp only[az,HB.cells.injEq]at Z;obtain⟨rfl,rfl,rfl⟩:=Z;intro i c hi;rcases hcs i c hi with⟨rfl,hv⟩|⟨m,hi'⟩
     .exact⟨v,hsame,hv⟩
     .obtain⟨v',h1,h2⟩:=h.cells zct b o x cs imm tip hr hc i c hi';exact⟨v',by rw[M _ _ (fun _=>ac)];exact h1,h2⟩
    .rw[g zct e]at Z;intro i c hi;obtain⟨v',h1,h2⟩:=h.cells zct z J L O W V Y Z i c hi;refine⟨v',?_,h2⟩;rw[M]
     .exact h1
     .have K:i<O.length:=(dD.1 hi).1;have hex:=h.ext zct z J L O W V Y Z;by_cases hi1:W<=i
      .exact h.apart zct z J L O W V r b o x cs imm tip Y Z hr hc e i j hi1 ac hj hjl
      .obtain⟨u',hu'⟩:=h.imm zct z J L O W V Y Z i ac K;exact hkeep _ _ _ hu'
   imm:=fun zct z J L O W V Y Z i hi K=>by
    by_cases e:zct=r
    .subst e;rw[hr]at Y;simp only[ci]at Y;obtain⟨rfl,rfl,rfl⟩:=Y;rw[U]at Z;simp only[az,HB.cells.injEq]at Z;obtain⟨rfl,rfl,rfl⟩:=Z;rcases hcs i _ (aO K)with⟨rfl,_⟩|⟨_,hi'⟩
     .omega
     .exact h.imm zct b o x cs imm tip hr hc i hi (dD.1 hi').1
    .rw[g zct e]at Z;exact h.imm zct z J L O W V Y Z i hi K
   ext:=fun zct z J L O W V Y Z=>by
    by_cases e:zct=r
    .subst e;rw[hr]at Y;simp only[ci]at Y;obtain⟨rfl,rfl,rfl⟩:=Y;rw[U]at Z;simp only[az,HB.cells.injEq]at Z;obtain⟨rfl,rfl,rfl⟩:=Z;rw[I];exact hl
    .rw[g zct e]at Z;exact h.ext zct z J L O W V Y Z
   fits:=fun zct z J L O W V Y Z=>by
    by_cases e:zct=r
    .subst e;rw[hr]at Y;simp only[ci]at Y;obtain⟨rfl,rfl,rfl⟩:=Y;rw[U]at Z;simp only[az,HB.cells.injEq]at Z;obtain⟨rfl,rfl,rfl⟩:=Z;rcases Bool.eq_false_or_eq_true tip with e1|e1
     .subst e1;exact hl
     .rw[hl' e1];exact h.fits _ _ _ _ _ _ _ hr hc
    .rw[g zct e]at Z;exact h.fits zct z J L O W V Y Z
   room:=fun zct z J L O W V Y Z i hi K=>by
    by_cases e:zct=r
    .subst e;rw[hr]at Y;simp only[ci]at Y;obtain⟨rfl,rfl,rfl⟩:=Y;rw[U]at Z;simp only[az,HB.cells.injEq]at Z;obtain⟨rfl,rfl,rfl⟩:=Z;rw[I]at K;obtain⟨h1,h2,h3⟩:=h.room zct b o x cs imm tip hr hc i hi K;exact⟨hcell _ _ h1,by rw[World.frozen?_setCell];exact h2,h3⟩
    .rw[g zct e]at Z;obtain⟨h1,h2,h3⟩:=h.room zct z J L O W V Y Z i hi K;exact⟨hcell _ _ h1,by rw[World.frozen?_setCell];exact h2,h3⟩
   apart:=fun zct z J L O W V r2 b2 o2 x2 cs2 imm2 tip2 Y Z hr2 hc2 m i i' hi K hi' hil'=>by
    have key:∀k bk ok xk csk immk F,G.β k=some (bk,ok,xk)->(H.set r (.cells cs' imm tip)).get k=some (.cells csk immk F) ->
     ∃cs0,H.get k=some (.cells cs0 immk F)/\zdL xk cs0 F=zdL xk csk F:=fun k bk ok xk csk immk F hk hck=>by
     by_cases e:k=r
     .subst e;rw[hr]at hk;simp only[ci]at hk;obtain⟨rfl,rfl,rfl⟩:=hk;rw[U]at hck;simp only[az,HB.cells.injEq]at hck;obtain⟨rfl,rfl,rfl⟩:=hck;exact⟨cs,hc,I.symm⟩
     .rw[g k e]at hck;exact⟨csk,hck,rfl⟩
    obtain⟨c1,g1,e1⟩:=key zct z J L O W V Y Z;obtain⟨c2,g2,e2⟩:=key r2 b2 o2 x2 cs2 imm2 tip2 hr2 hc2;exact h.apart zct z J L c1 W V r2 b2 o2 x2 c2 imm2 tip2 Y g1 hr2 g2 m i i' hi ac hi' ac
   map:=fun zct z J L es Y Z=>by
    by_cases e:zct=r
    .subst e;rw[U]at Z;simp at Z
    .rw[g zct e]at Z;obtain⟨ms,clock,h1,h2⟩:=h.map zct z J L es Y Z;refine⟨ms,clock,?_,h2⟩;have hb:z≠b:=fun eb=>by
      subst eb;unfold World.cell? at hu;rw[h1]at hu;simp at hu
     rw[Below.heap_setCell _ _ _ _ hb];exact h1
   mapApart:=fun zct z J L es r2 b2 o2 x2 Y Z hr2 hs m=>by
    by_cases e:zct=r
    .subst e;rw[U]at Z;simp at Z
    .rw[g zct e]at Z;refine h.mapApart zct z J L es r2 b2 o2 x2 Y Z hr2 ?_ m;by_cases e2:r2=r
     .subst e2;rw[hc];rfl
     .rw[g r2 e2]at hs;exact hs
   frz:=fun C A v' hf=>by rw[M _ _ (hkeep _ _ _ hf)];exact h.frz _ _ _ hf
   val:=h.val
   sym:=h.sym}
 .exact Below.heap_setCell _ _ _ _ (fun e=>hn r b o x hr e.symm)
theorem KS{B:Bs}{H:Hp}{w:World}{G:Gh}(P:Program)(h:R B H w G){r b o x:Nat}{cs:List AV}{imm:Nat}{tip:Bool}(hr:G.β r=some (b,o,x))(O:H.get r=some (.cells cs imm tip))
 {j:Nat} (Z:imm<=j) (I:j<zdL x cs tip) {v:Value} (V:v.oneCell'=true) :
 (store ⟨b,o+j,none⟩ v).run P w=.ok () (w.setCell ⟨b,o+j,none⟩ v):=by
 obtain⟨⟨u,Y⟩,m,_⟩:=h.room r b o x cs imm tip hr O j Z I;rw[run_store P w _ v _ V,Y];simp[m]
theorem KT(cs:List AV)(off:Nat)(c:AV)(K:List AV)(h:off<=cs.length):splice cs off (c::K)=splice (splice cs off [c]) (off+1) K:=by
 unfold splice;have i:(List.take off cs++[c]++List.drop (off+[c].length) cs).take (off+1)=List.take off cs++[c]:=by
  rw[yB co,ev co]
 have g:(List.take off cs++[c]++List.drop (off+[c].length) cs).drop (off+1+K.length)=List.drop (off+(K.length+1)) cs:=by
  rw[List.drop_append,yC co];simp only[fj,iN,dg,jo,vE,lK]
  congr 1
  omega
 rw[i,g];simp
theorem KU(cs:List AV)(off:Nat):splice cs off []=cs:=by simp[splice]
theorem KV(cs:List AV)(off:Nat)(K:List AV)(h:off+K.length<=cs.length):(splice cs off K).length=cs.length:=by simp[splice];omega
theorem KW(cs:List AV)(off:Nat)(K:List AV)(h:off<=cs.length):(splice cs off K).length=max cs.length (off+K.length):=by simp[splice];omega
theorem CC(cs K:List AV):splice cs cs.length K=cs++K:=by simp[splice]
theorem splice_one{cs:List AV}{j:Nat}(c:AV)(O:j<=cs.length){i:Nat}{d:AV}(h:(splice cs j [c])[i]?=some d):(i=j/\d=c)\/(i≠j/\cs[i]?=some d):=by
 unfold splice at h;by_cases C:i<j
 .rw[f8,i7 co,mq,ax C]at h;exact .inr ⟨ac,h⟩
 .by_cases e:i=j
  .subst e;rw[f8,jI co]at h;have z:i-(List.take i cs).length=0:=co;rw[z]at h;simp at h;exact .inl ⟨rfl,h.symm⟩
  .rw[jI co]at h;rw[nD]at h;refine .inr ⟨e,?_⟩;rw[<-h]
   congr 1
   simp;omega
theorem ze4(b o i:Nat):(⟨b,o,none⟩:Addr).add i=⟨b,o+i,none⟩:=by
 unfold Addr.add;split
 .rename_i e;subst e;rfl
 .rfl
theorem Step.congr{B:Bs}{o:Nat}{G Z:Gh}{w w':World}{H H':Hp}(h:Step B o G w H w' Z)(m:H'.next=H.next)(A:∀r,(Z.β r).isSome->H'.get r=H.get r):Step B o G w H' w' Z:=
 ⟨h.r.congr m A,h.ext,h.fr,h.new,h.low,by rw[m];exact h.mono,h.icy⟩
theorem yE{B:Bs}(P:Program){G:Gh}{r b o x:Nat}{imm:Nat}{tip:Bool}(hr:G.β r=some (b,o,x))(off:Nat):∀(K:List AV) (vs:List Value) (W:List AV) (i:Nat) (H:Hp) (w:World),R B H w G ->
 H.get r=some (.cells W imm tip)->bO G K vs->(∀v∈vs,v.oneCell'=true)->imm<=off+i->off+i<=W.length->off+i+K.length<=zdL x W tip->(tip=false->off+i+K.length<=W.length) ->
 ∃F,(storeCells ⟨b,o+off,none⟩ vs i).run P w=.ok () F/\Step B H.next G w (H.set r (.cells (splice W (off+i) K) imm tip)) F G:=by
 intro K;induction K with
 |nil=>
  intro vs W i H w L hc C V z m O _;have M:vs=[]:=by have:=C.1;simpa using this.symm
  subst M;refine⟨w,rfl,(i8 L).congr rfl fun k _=>?_⟩;rw[aU,KU];split
  .rename_i e;subst e;rw[hc]
  .rfl
 |cons c K ih=>
  intro vs W i H w L hc C V z m O Z;cases vs with
  |nil=>have:=C.1;simp at this
  |cons v vs=>
   obtain⟨g,M⟩:=C.of_cons;simp only[dg]at O Z;have Y:(splice W (off+i) [c]).length=max W.length (off+i+1):=KW _ _ _ m;have hext:=L.ext r b o x W imm tip hr hc;have J:=KR L hr hc (j:=off+i) (cs':=splice W (off+i) [c]) (v:=v) z ac
    (fun k d hk=>by
      rcases splice_one c m hk with⟨e1,e2⟩|h2
      .subst e2;exact .inl ⟨e1,g⟩
      .exact .inr h2)
    (by rw[Y];cases tip with
        |true=>simp only[zdL]at *;omega
        |false=>have:=Z rfl;simp only[zdL]at *;omega)
    (fun A=>by have:=Z A;rw[Y];omega)
   have I:=KS P L hr hc (j:=off+i) z ac (v:=v) (V v aD);have hg1:(H.set r (.cells (splice W (off+i) [c]) imm tip)).get r=some (.cells (splice W (off+i) [c]) imm tip):=hB;have U:zdL x (splice W (off+i) [c]) tip=zdL x W tip:=by
    cases tip with
    |true=>rfl
    |false=>have:=Z rfl;simp only[zdL];omega
   obtain⟨F,hw',hs'⟩:=ih vs (splice W (off+i) [c]) (i+1) _ _ J.r hg1 M (fun u hu=>V u (by simp[hu])) ac tn (by rw[U];omega) (fun A=>by have:=Z A;rw[Y];omega);refine⟨F,?_,(J.trans hs').congr rfl fun k _=>?_⟩
   .simp only[storeCells,dI];rw[ze4,gG,I];exact hw'
   .rw[aU,aU,aU,KT _ _ _ _ m];split
    .rfl
    .rfl
theorem CD{B:Bs}{H:Hp}{w:World}{G:Gh}(h:R B H w G){r b o x:Nat}{cs:List AV}{imm:Nat}(hr:G.β r=some (b,o,x))(hc:H.get r=some (.cells cs imm true)){off:Nat}(hoff:off<=cs.length):
 Step B H.next G w ((H.kill r).alloc (.cells (cs.drop off) (imm-off) true)) w (G.add H.next (b,o+off,x-off)):=by
 have hno:∀q,G.β H.next=some q->False:=fun q hq=>by have:=h.dom _ _ hq;omega
 have hext:Ext G (G.add H.next (b,o+off,x-off)):=yD hno;have hrn:r≠H.next:=fun e=>by subst e;exact hno _ hr
 have Y:∀k p,(G.add H.next (b,o+off,x-off)).β k=some p->(k=H.next/\p=(b,o+off,x-off))\/(k≠H.next/\G.β k=some p):=fun k p U=>by
  simp only[Gh.add]at U;split at U
  .rename_i e;exact .inl ⟨e,by simpa using U.symm⟩
  .rename_i e;exact .inr ⟨e,U⟩
 have g:∀k q,k≠H.next->((H.kill r).alloc (.cells (cs.drop off) (imm-off) true)).get k=some q->k≠r/\H.get k=some q:=fun k q U hq=>by
  rw[zcu,ze7,ah U,zem]at hq;split at hq
  .simp at hq
  .rename_i e;exact⟨e,hq⟩
 have W:((H.kill r).alloc (.cells (cs.drop off) (imm-off) true)).get H.next=some (.cells (cs.drop off) (imm-off) true):=by rw[zcu,ze7,ax rfl]
 have hlen:=h.ext r b o x cs imm true hr hc;simp only[zdL]at hlen;refine⟨?_,hext,tu _ _,fun k J F C U=>?_,fun k p U=>(Y k p U).elim (fun e=>.inr (by rw[e.1];exact aM _)) (fun e=>.inl e.2),aD,fun _ _ _ h=>.inl h⟩
 .exact{
   base:=h.base
   dom:=fun k p U=>by
    rcases Y k p U with⟨rfl,_⟩|⟨_,z⟩
    .simp
    .have:=h.dom k p z;simp;omega
   lt:=fun k J F C U=>by
    rcases Y k _ U with⟨rfl,hp⟩|⟨_,z⟩
    .simp only[fh]at hp;obtain⟨rfl,rfl,rfl⟩:=hp;exact h.lt r _ _ _ hr
    .exact h.lt k J F C z
   cells:=fun k J F C m V A U Z=>by
    rcases Y k _ U with⟨rfl,hp⟩|⟨I,z⟩
    .simp only[fh]at hp;obtain⟨rfl,rfl,rfl⟩:=hp;rw[W]at Z;simp only[az,HB.cells.injEq]at Z;obtain⟨rfl,rfl,rfl⟩:=Z;intro j c hj;rw[nD]at hj;obtain⟨v,h1,h2⟩:=h.cells r _ _ _ _ _ _ hr hc (off+j) c hj;exact⟨v,by rw[gG];exact h1,h2.mono hext⟩
    .obtain⟨_,i⟩:=g k _ I Z;exact(h.cells k J F C m V A z i).mono hext
   imm:=fun k J F C m V A U Z j hj hjl=>by
    rcases Y k _ U with⟨rfl,hp⟩|⟨I,z⟩
    .simp only[fh]at hp;obtain⟨rfl,rfl,rfl⟩:=hp;rw[W]at Z;simp only[az,HB.cells.injEq]at Z;obtain⟨rfl,rfl,rfl⟩:=Z;rw[ik]at hjl;rw[gG];exact h.imm r _ _ _ _ _ _ hr hc (off+j) ac ac
    .obtain⟨_,i⟩:=g k _ I Z;exact h.imm k J F C m V A z i j hj hjl
   ext:=fun k J F C m V A U Z=>by
    rcases Y k _ U with⟨rfl,hp⟩|⟨I,z⟩
    .simp only[fh]at hp;obtain⟨rfl,rfl,rfl⟩:=hp;rw[W]at Z;simp only[az,HB.cells.injEq]at Z;obtain⟨rfl,rfl,rfl⟩:=Z;simp only[zdL,ik];omega
    .obtain⟨_,i⟩:=g k _ I Z;exact h.ext k J F C m V A z i
   fits:=fun k J F C m V A U Z=>by
    rcases Y k _ U with⟨rfl,hp⟩|⟨I,z⟩
    .simp only[fh]at hp;obtain⟨rfl,rfl,rfl⟩:=hp;rw[W]at Z;simp only[az,HB.cells.injEq]at Z;obtain⟨rfl,rfl,rfl⟩:=Z;simp only[ik];omega
    .obtain⟨_,i⟩:=g k _ I Z;exact h.fits k J F C m V A z i
   room:=fun k J F C m V A U Z j hj hjl=>by
    rcases Y k _ U with⟨rfl,hp⟩|⟨I,z⟩
    .simp only[fh]at hp;obtain⟨rfl,rfl,rfl⟩:=hp;rw[W]at Z;simp only[az,HB.cells.injEq]at Z;obtain⟨rfl,rfl,rfl⟩:=Z;simp only[zdL]at hjl;rw[gG];exact h.room r _ _ _ _ _ _ hr hc (off+j) ac tp
    .obtain⟨_,i⟩:=g k _ I Z;exact h.room k J F C m V A z i j hj hjl
   apart:=fun zdc b1 o1 x1 cs1 imm1 tip1 zc8 b2 o2 x2 cs2 imm2 tip2 hk1 O hk2 hc2 I j1 j2 hj1 hl1 hj2 hl2 he=>by
    rcases Y zdc _ hk1 with⟨rfl,hp⟩|⟨hn1,L⟩
    .simp only[fh]at hp;obtain⟨rfl,rfl,rfl⟩:=hp;rw[W]at O;simp only[az,HB.cells.injEq]at O;obtain⟨rfl,rfl,rfl⟩:=O;simp only[zdL]at hl1;rcases Y zc8 _ hk2 with⟨rfl,hp⟩|⟨hn2,K⟩
     .exact(I rfl).elim
     .obtain⟨hr2,hc2'⟩:=g zc8 _ hn2 hc2;rw[gG];exact h.apart r _ _ _ _ _ _ zc8 b2 o2 x2 cs2 imm2 tip2 hr hc K hc2' (Ne.symm hr2) (off+j1) j2 ac tp hj2 hl2 he
    .obtain⟨hr1,M⟩:=g zdc _ hn1 O;rcases Y zc8 _ hk2 with⟨rfl,hp⟩|⟨hn2,K⟩
     .simp only[fh]at hp;obtain⟨rfl,rfl,rfl⟩:=hp;rw[W]at hc2;simp only[az,HB.cells.injEq]at hc2;obtain⟨rfl,rfl,rfl⟩:=hc2;simp only[zdL]at hl2;rw[gG];exact h.apart zdc b1 o1 x1 cs1 imm1 tip1 r _ _ _ _ _ _ L M hr hc hr1 j1 (off+j2) hj1 hl1 ac tp he
     .obtain⟨hr2,hc2'⟩:=g zc8 _ hn2 hc2;exact h.apart zdc b1 o1 x1 cs1 imm1 tip1 zc8 b2 o2 x2 cs2 imm2 tip2 L M K hc2' I j1 j2 hj1 hl1 hj2 hl2 he
   map:=fun k J F C es U Z=>by
    rcases Y k _ U with⟨rfl,hp⟩|⟨I,z⟩
    .rw[W]at Z;simp at Z
    .obtain⟨_,i⟩:=g k _ I Z;obtain⟨ms,clock,h1,h2⟩:=h.map k J F C es z i;exact⟨ms,clock,h1,h2.mono hext⟩
   mapApart:=fun zdc b1 o1 x1 es zc8 b2 o2 x2 hk1 O hk2 hs I=>by
    rcases Y zdc _ hk1 with⟨rfl,hp⟩|⟨hn1,L⟩
    .rw[W]at O;simp at O
    .obtain⟨hr1,M⟩:=g zdc _ hn1 O;rcases Y zc8 _ hk2 with⟨rfl,hp⟩|⟨hn2,K⟩
     .simp only[fh]at hp;obtain⟨rfl,rfl,rfl⟩:=hp;exact h.mapApart zdc b1 o1 x1 es r _ _ _ L M hr (by rw[hc];rfl) hr1
     .cases hh:((H.kill r).alloc (.cells (cs.drop off) (imm-off) true)).get zc8 with
      |none=>simp[hh]at hs
      |some q=>
       obtain⟨_,hq⟩:=g zc8 q hn2 hh;exact h.mapApart zdc b1 o1 x1 es zc8 b2 o2 x2 L M K (by rw[hq];rfl) I
   frz:=h.frz
   val:=h.val
   sym:=h.sym}
 .rcases Y k _ U with⟨rfl,hp⟩|⟨_,z⟩
  .simp only[fh]at hp;obtain⟨rfl,rfl,rfl⟩:=hp;exact .inr (.inr ⟨r,o,x,hr⟩)
  .exact .inl z
def Gh.ice(G:Gh)(w:World)(b o n:Nat):Gh:={β:=G.β,F:=fun i U=>match G.F i U with
 |some v=>some v
 |none=>if i=b/\o<=U/\U<o+n then w.cell? ⟨i,U,none⟩else none,ρ:=G.ρ}
theorem KX(G:Gh)(w:World)(b o n:Nat):Ext G (G.ice w b o n):=⟨fun _ _ h=>h,fun i U v h=>by simp[Gh.ice,h],rfl⟩
theorem tx{B:Bs}{H:Hp}{w:World}{G:Gh}(h:R B H w G){r b o x:Nat}{cs:List AV}{imm:Nat}{tip:Bool}(hr:G.β r=some (b,o,x))(hc:H.get r=some (.cells cs imm tip)){n:Nat}(himm:imm<=n)(hn:n<=cs.length)(A:Bool)(ht:A=true->tip=true):
 Step B H.next G w (H.set r (.cells cs n A)) w (G.ice w b o n):=by
 have L:Ext G (G.ice w b o n):=KX _ _ _ _ _;have g:∀k,k≠r->(H.set r (.cells cs n A)).get k=H.get k:=fun k O=>by rw[aU,ah O]
 have W:(H.set r (.cells cs n A)).get r=some (.cells cs n A):=hB;have hex:=h.ext r b o x cs imm tip hr hc;have F:∀j,n<=j->j<zdL x cs A->j<zdL x cs tip:=fun j hj I=>by
  cases A with
  |true=>rw[ht rfl];exact I
  |false=>simp only[zdL]at I;omega
 have hF:∀i U v,(G.ice w b o n).F i U=some v->w.cell? ⟨i,U,none⟩=some v:=fun i U v hf=>by
  simp only[Gh.ice]at hf;split at hf
  .rename_i u hu;simp only[az]at hf;subst hf;exact h.frz _ _ _ hu
  .split at hf
   .exact hf
   .simp at hf
 have hFin:∀j,j<n->∃v,(G.ice w b o n).F b (o+j)=some v:=fun j hj=>by
  obtain⟨v,h1,_⟩:=h.cells r b o x cs imm tip hr hc j _ (aO ac);simp only[Gh.ice];split
  .rename_i u _;exact⟨u,rfl⟩
  .rw[ax ⟨mp,ac,ac⟩];exact⟨v,h1⟩
 have hFout:∀i U,G.F i U=none->(i=b->U<o\/o+n<=U)->(G.ice w b o n).F i U=none:=fun i U hf hne=>by
  simp only[Gh.ice,hf];rw[ah];rintro⟨e1,e2,e3⟩;have:=hne e1;omega
 refine⟨?_,L,tu _ _,pC _ _,fun _ _ h=>.inl h,aM _,fun i U v' hv=>?_⟩;rotate_left
 .simp only[Gh.ice]at hv;split at hv
  .rename_i v'' hF';exact .inl (by rw[hF'];exact hv)
  .split at hv
   .rename_i hc';exact .inr (by rw[hc'.1];exact(h.lt r b o x hr).1)
   .simp at hv
 exact{
  base:=h.base
  dom:=h.dom
  lt:=h.lt
  cells:=fun k i U M m V Y O Z=>by
   by_cases e:k=r
   .subst e;have z:G.β k=some (i,U,M):=O;rw[hr]at z;simp only[ci]at z;obtain⟨rfl,rfl,rfl⟩:=z;rw[W]at Z;simp only[az,HB.cells.injEq]at Z;obtain⟨rfl,rfl,rfl⟩:=Z;exact(h.cells k _ _ _ _ _ _ hr hc).mono L
   .rw[g k e]at Z;exact(h.cells k i U M m V Y O Z).mono L
  imm:=fun k i U M m V Y O Z j hj I=>by
   by_cases e:k=r
   .subst e;have z:G.β k=some (i,U,M):=O;rw[hr]at z;simp only[ci]at z;obtain⟨rfl,rfl,rfl⟩:=z;rw[W]at Z;simp only[az,HB.cells.injEq]at Z;obtain⟨rfl,rfl,rfl⟩:=Z;exact hFin j hj
   .rw[g k e]at Z;obtain⟨v,hv⟩:=h.imm k i U M m V Y O Z j hj I;exact⟨v,L.F _ _ _ hv⟩
  ext:=fun k i U M m V Y O Z=>by
   by_cases e:k=r
   .subst e;have z:G.β k=some (i,U,M):=O;rw[hr]at z;simp only[ci]at z;obtain⟨rfl,rfl,rfl⟩:=z;rw[W]at Z;simp only[az,HB.cells.injEq]at Z;obtain⟨rfl,rfl,rfl⟩:=Z;cases A with
    |true=>rw[ht rfl]at hex;exact hex
    |false=>exact aM _
   .rw[g k e]at Z;exact h.ext k i U M m V Y O Z
  fits:=fun k i U M m V Y O Z=>by
   by_cases e:k=r
   .subst e;have z:G.β k=some (i,U,M):=O;rw[hr]at z;simp only[ci]at z;obtain⟨rfl,rfl,rfl⟩:=z;rw[W]at Z;simp only[az,HB.cells.injEq]at Z;obtain⟨rfl,rfl,rfl⟩:=Z;exact h.fits _ _ _ _ _ _ _ hr hc
   .rw[g k e]at Z;exact h.fits k i U M m V Y O Z
  room:=fun k i U M m V Y O Z j hj I=>by
   by_cases e:k=r
   .subst e;have z:G.β k=some (i,U,M):=O;rw[hr]at z;simp only[ci]at z;obtain⟨rfl,rfl,rfl⟩:=z;rw[W]at Z;simp only[az,HB.cells.injEq]at Z;obtain⟨rfl,rfl,rfl⟩:=Z;have h1:=F j hj I;obtain⟨g1,g2,g3⟩:=h.room k _ _ _ _ _ _ hr hc j ac h1;exact⟨g1,g2,hFout _ _ g3 (fun _=>ac)⟩
   .rw[g k e]at Z;obtain⟨g1,g2,g3⟩:=h.room k i U M m V Y O Z j hj I;refine⟨g1,g2,hFout _ _ g3 (fun eb=>?_)⟩;by_cases hin:o<=U+j/\U+j<o+n
    .exfalso;have hj0:U+j-o<cs.length:=ac;have hj1:U+j-o<zdL x cs tip:=ac;by_cases hi:imm<=U+j-o
     .exact h.apart k i U M m V Y r b o x cs imm tip O Z hr hc e j (U+j-o) hj I hi hj1 eb ac
     .obtain⟨v,hv⟩:=h.imm r b o x cs imm tip hr hc (U+j-o) ac hj0;rw[show o+(U+j-o)=U+j by omega,<-eb,g3]at hv;simp at hv
    .omega
  apart:=fun zdc b1 o1 x1 cs1 imm1 Y zc8 b2 o2 x2 cs2 imm2 tip2 hk1 C hk2 hc2 hne j1 j2 hj1 hl1 hj2 hl2 he=>by
   have key:∀k bk ok xk csk K J j,G.β k=some (bk,ok,xk)->(H.set r (.cells cs n A)).get k=some (.cells csk K J)->K<=j->j<zdL xk csk J ->
    ∃cs0 imm0 tip0,H.get k=some (.cells cs0 imm0 tip0)/\imm0<=j/\j<zdL xk cs0 tip0:=fun k bk ok xk csk K J j O Z hj I=>by
    by_cases e:k=r
    .subst e;have z:G.β k=some (bk,ok,xk):=O;rw[hr]at z;simp only[ci]at z;obtain⟨rfl,rfl,rfl⟩:=z;rw[W]at Z;simp only[az,HB.cells.injEq]at Z;obtain⟨rfl,rfl,rfl⟩:=Z;exact⟨cs,imm,tip,hc,ac,F j hj I⟩
    .rw[g k e]at Z;exact⟨csk,K,J,Z,hj,I⟩
   obtain⟨c1,i1,t1,g1,a1,l1⟩:=key zdc b1 o1 x1 cs1 imm1 Y j1 hk1 C hj1 hl1;obtain⟨c2,i2,t2,g2,a2,l2⟩:=key zc8 b2 o2 x2 cs2 imm2 tip2 j2 hk2 hc2 hj2 hl2;exact h.apart zdc b1 o1 x1 c1 i1 t1 zc8 b2 o2 x2 c2 i2 t2 hk1 g1 hk2 g2 hne j1 j2 a1 l1 a2 l2 he
  map:=fun k i U M es O Z=>by
   by_cases e:k=r
   .subst e;rw[W]at Z;simp at Z
   .rw[g k e]at Z;obtain⟨ms,clock,h1,h2⟩:=h.map k i U M es O Z;exact⟨ms,clock,h1,h2.mono L⟩
  mapApart:=fun zdc b1 o1 x1 es zc8 b2 o2 x2 hk1 C hk2 hs hne=>by
   by_cases e:zdc=r
   .subst e;rw[W]at C;simp at C
   .rw[g zdc e]at C;refine h.mapApart zdc b1 o1 x1 es zc8 b2 o2 x2 hk1 C hk2 ?_ hne;by_cases e2:zc8=r
    .subst e2;rw[hc];rfl
    .rw[g zc8 e2]at hs;exact hs
  frz:=hF
  val:=h.val
  sym:=h.sym}
theorem KY{B:Bs}{H:Hp}{w:World}{G:Gh}(h:R B H w G){r b o x:Nat}{cs:List AV}(hr:G.β r=some (b,o,x))(hx:cs.length<=x)(hc:ge G w b o cs)(hF:∀j,j<cs.length->∃v,G.F b (o+j)=some v)
 (hmap:∀zct F o1 x1 es,G.β zct=some (F,o1,x1)->H.get zct=some (.map es)->F≠b) :
 Step B H.next G w (H.set r (.cells cs cs.length false)) w G:=by
 have g:∀k,k≠r->(H.set r (.cells cs cs.length false)).get k=H.get k:=fun k Y=>by rw[aU,ah Y]
 have O:(H.set r (.cells cs cs.length false)).get r=some (.cells cs cs.length false):=hB;have J:∀k W U V,k=r->G.β k=some (W,U,V)->W=b/\U=o/\V=x:=fun k W U V e Y=>by
  subst e;rw[hr]at Y;simp only[ci]at Y;exact⟨Y.1.symm,Y.2.1.symm,Y.2.2.symm⟩
 have M:∀m z A,(H.set r (.cells cs cs.length false)).get r=some (.cells m z A)->m=cs/\z=cs.length/\A=false:=fun m z A Y=>by
  rw[O]at Y;simp only[az,HB.cells.injEq]at Y;exact⟨Y.1.symm,Y.2.1.symm,Y.2.2.symm⟩
 refine⟨?_,rg _,tu _ _,pC _ _,fun _ _ h=>.inl h,aM _,fun _ _ _ h=>.inl h⟩;exact{
  base:=h.base
  dom:=h.dom
  lt:=h.lt
  cells:=fun k W U V m z A Y Z=>by
   by_cases e:k=r
   .obtain⟨rfl,rfl,rfl⟩:=J k _ _ _ e Y;subst e;obtain⟨rfl,rfl,rfl⟩:=M _ _ _ Z;exact hc
   .rw[g k e]at Z;exact h.cells k W U V m z A Y Z
  imm:=fun k W U V m z A Y Z j hj I=>by
   by_cases e:k=r
   .obtain⟨rfl,rfl,rfl⟩:=J k _ _ _ e Y;subst e;obtain⟨rfl,rfl,rfl⟩:=M _ _ _ Z;exact hF j I
   .rw[g k e]at Z;exact h.imm k W U V m z A Y Z j hj I
  ext:=fun k W U V m z A Y Z=>by
   by_cases e:k=r
   .subst e;obtain⟨rfl,rfl,rfl⟩:=M _ _ _ Z;exact aM _
   .rw[g k e]at Z;exact h.ext k W U V m z A Y Z
  fits:=fun k W U V m z A Y Z=>by
   by_cases e:k=r
   .subst e;obtain⟨rfl,rfl,rfl⟩:=M _ _ _ Z;obtain⟨_,_,rfl⟩:=J _ _ _ _ rfl Y;exact hx
   .rw[g k e]at Z;exact h.fits k W U V m z A Y Z
  room:=fun k W U V m z A Y Z j hj I=>by
   by_cases e:k=r
   .subst e;obtain⟨rfl,rfl,rfl⟩:=M _ _ _ Z;simp only[zdL]at I;omega
   .rw[g k e]at Z;exact h.room k W U V m z A Y Z j hj I
  apart:=fun zdc F o1 x1 cs1 imm1 tip1 zc8 b2 o2 x2 cs2 imm2 tip2 L i K C hne j1 j2 hj1 hl1 hj2 hl2 he=>by
   by_cases e1:zdc=r
   .subst e1;obtain⟨rfl,rfl,rfl⟩:=M _ _ _ i;simp only[zdL]at hl1;omega
   .by_cases e2:zc8=r
    .subst e2;obtain⟨rfl,rfl,rfl⟩:=M _ _ _ C;simp only[zdL]at hl2;omega
    .rw[g zdc e1]at i;rw[g zc8 e2]at C;exact h.apart zdc F o1 x1 cs1 imm1 tip1 zc8 b2 o2 x2 cs2 imm2 tip2 L i K C hne j1 j2 hj1 hl1 hj2 hl2 he
  map:=fun k W U V es Y Z=>by
   by_cases e:k=r
   .subst e;rw[O]at Z;simp at Z
   .rw[g k e]at Z;exact h.map k W U V es Y Z
  mapApart:=fun zdc F o1 x1 es zc8 b2 o2 x2 L i K hs hne=>by
   by_cases e:zdc=r
   .subst e;rw[O]at i;simp at i
   .rw[g zdc e]at i;by_cases e2:zc8=r
    .obtain⟨rfl,rfl,rfl⟩:=J zc8 _ _ _ e2 K;exact hmap zdc F o1 x1 es L i
    .rw[g zc8 e2]at hs;exact h.mapApart zdc F o1 x1 es zc8 b2 o2 x2 L i K hs hne
  frz:=h.frz
  val:=h.val
  sym:=h.sym}
def pE(P:Program)(B:Bs)(H:Hp)(G:Gh)(w:World)(s:Sem Next)(c:AV)(H':Hp):Prop:=
 ∃n W Z v,s.run P w=.ok n W/\(n=.value v\/(n=.skip/\v=undef))/\VR Z c v/\Step B H.next G w H' W Z
theorem CE{G:Gh}{v:Value}{c:AV}(h:sZ v=some c):VR G c v:=by
 unfold sZ at h;split at h<;>simp only[az,reduceCtorEq]at h<;>subst h<;>constructor;rfl
theorem CF{G:Gh}:∀{vs:List Value}{W:List AV},vs.mapM sZ=some W->bO G W vs
 |[],W,h=>by simp at h;subst h;exact lL G
 |v::vs,W,h=>by
  rw[List.mapM_cons]at h;simp only[Option.bind_eq_bind,ch,Option.pure_def,az]at h;obtain⟨c,hc,m,Z,rfl⟩:=h;exact jJ (CE hc) (CF Z)
theorem rj{G:Gh}{v:Value}{c:AV}(h:qU v=some c):VR G c v:=by
 unfold qU at h;split at h
 .rename_i W;simp only[mr]at h;obtain⟨l,I,rfl⟩:=h;have:=CF (G:=G) I;exact .agg (vs:=W.toList) this.1 this.2
 .exact CE h
theorem ge.list{G:Gh}{w:World}{b:Nat}:∀{cs:List AV}{o:Nat},ge G w b o cs->∃vs,bO G cs vs/\∀(j:Nat) v,vs[j]?=some v->w.cell? ⟨b,o+j,none⟩=some v
 |[],o,_=>⟨[],lL G,aD⟩
 |c::cs,o,h=>by
  obtain⟨v,i,g⟩:=h 0 c rfl;obtain⟨vs,zdc,zc8⟩:=ge.list (cs:=cs) (o:=o+1) (fun j d O=>by
   obtain⟨u,W,Y⟩:=h (j+1) d tq;exact⟨u,by rw[show o+1+j=o+(j+1) by omega];exact W,Y⟩)
  refine⟨v::vs,jJ g zdc,fun j u O=>?_⟩;cases j with
  |zero=>simp at O;subst O;exact i
  |succ j=>rw[show o+(j+1)=o+1+j by omega];exact zc8 j u tq
theorem ge.drop{G:Gh}{w:World}{b o:Nat}{cs:List AV}(h:ge G w b o cs)(n:Nat):ge G w b (o+n) (cs.drop n):=fun j c O=>by
 rw[nD]at O;rw[gG];exact h (n+j) c O
theorem ge.take{G:Gh}{w:World}{b o:Nat}{cs:List AV}(h:ge G w b o cs)(n:Nat):ge G w b o (cs.take n):=fun j c O=>by
 rw[mq]at O;split at O
 .exact h j c O
 .simp at O
section
variable {P:Program} {w:World} {t:TypeId}
theorem zdB{d:TypeDesc}(h:P.underlying t=some d):(underlying t).run P w=.ok d w:=by simp[underlying,h]
theorem ro{i:TypeInfo}(h:P.info? t=some i):(typeInfo t).run P w=.ok i w:=by simp[typeInfo,h]
theorem CG{s:Nat}(h:zcC P t=some s):∃i,P.info? t=some i/\i.size=s:=by simpa [zcC,mr]using h
theorem zeU{s:Nat}(h:zcC P t=some s):(sizeOf t).run P w=.ok s w:=by
 obtain⟨i,Z,g⟩:=CG h;simp[sizeOf,ro Z,g]
theorem CH{c:AV}(h:ny P t=some c):∃i v,P.info? t=some i/\i.zero=some v/\qU v=some c:=by
 unfold ny at h;split at h
 .rename_i x d s Y M hp al fa L O ms Z;exact⟨_,L,Z,rfl,h⟩
 .simp at h
theorem KZ{c:AV}(h:ny P t=some c):∃v,(∀w,(zeroValue t).run P w=.ok v w)/\∀G,VR G c v:=by
 obtain⟨i,v,Z,g,o⟩:=CH h;exact⟨v,fun w=>by simp[zeroValue,ro Z,g],fun G=>rj o⟩
theorem yF{z:List AV}(h:zcX P t=some z):∃i v c,P.info? t=some i/\i.zero=some v/\qU v=some c/\c.cells=z:=by
 unfold zcX at h;split at h
 .rename_i c hc;simp only[az]at h;obtain⟨i,v,Z,g,o⟩:=CH hc;exact⟨i,v,c,Z,g,o,h⟩
 .simp at h
theorem tz{z:List AV}(h:zcX P t=some z):∃v,(∀w,(zeroValue t).run P w=.ok v w)/\∀G,bO G z v.cells.toList:=by
 obtain⟨i,v,c,Z,g,o,rfl⟩:=yF h;exact⟨v,fun w=>by simp[zeroValue,ro Z,g],fun G=>(rj o).cells⟩
def yG:TypeDesc->Bool
 | .struct _|.array _ _=>true
 |_=>false
theorem vH{d:TypeDesc}(h:P.underlying t=some d):(isAgg t).run P w=.ok (yG d) w:=by
 simp only[isAgg,dI,zdB h,dN];cases d<;>rfl
theorem CI{cs:List AV}{off:Nat}{c:AV}(h:zcw P t cs off=some c):
 (∃d s,P.underlying t=some d/\yG d=true/\zcC P t=some s/\((cs.drop off).take s).length=s/\c=.agg ((cs.drop off).take s)) \/
 (∃d,P.underlying t=some d/\yG d=false/\cs[off]?=some c):=by
 unfold zcw at h;split at h
 .rename_i f hd;split at h
  .rename_i s K;simp only[]at h;split at h
   .rename_i I;simp only[az]at h;exact .inl ⟨_,s,hd,rfl,K,I,h.symm⟩
   .simp at h
  .simp at h
 .rename_i n e hd;split at h
  .rename_i s K;simp only[]at h;split at h
   .rename_i I;simp only[az]at h;exact .inl ⟨_,s,hd,rfl,K,I,h.symm⟩
   .simp at h
  .simp at h
 .rename_i d i g hd;refine .inr ⟨d,hd,?_,h⟩;cases d<;>first|rfl|exact(i _ rfl).elim|exact(g _ _ rfl).elim
 .simp at h
theorem CJ{G:Gh}{b o off:Nat}{cs:List AV}{c:AV}(Y:ge G w b o cs)(h:zcw P t cs off=some c):
 ∃v,(loadVar t ⟨b,o+off,none⟩).run P w=.ok v w/\VR G c v:=by
 rcases CI h with⟨d,s,hd,F,K,I,rfl⟩|⟨d,hd,F,hc⟩
 .obtain⟨vs,i,g⟩:=((Y.drop off).take s).list;refine⟨.agg vs.toArray,?_,.agg i.1 i.2⟩;simp only[loadVar,dI,vH hd,F,dN,bT,zeU K];have Z:vs.length=s:=by rw[<-i.1];exact I
  rw[<-Z,run_loadCells_list _ _ vs (fun j v O=>by rw[ze4];exact g j v O)];rfl
 .obtain⟨v,i,g⟩:=Y off c hc;refine⟨v,?_,g⟩;simp[loadVar,vH hd,F,i]
theorem vI{G:Gh}{off:Nat}{cs:List AV}{vs:List Value}{c:AV}(L:bO G cs vs)(h:zcw P t cs off=some c):
 ∃v,(part t vs.toArray off).run P w=.ok v w/\VR G c v:=by
 rcases CI h with⟨d,s,hd,F,K,I,rfl⟩|⟨d,hd,F,hc⟩
 .have i:=(L.drop off).take s;refine⟨.agg ((vs.drop off).take s).toArray,?_,.agg i.1 i.2⟩;simp only[part,dI,vH hd,F,dN,bT,zeU K,il]
  congr 2
  apply k0;simp
 .have z:off<cs.length:=(dD.1 hc).1;have m:off<vs.length:=by have:=L.1;omega
  refine⟨vs[off],?_,L.2 off c _ hc (aO m)⟩;simp[part,vH hd,F,m]
end
theorem rq{P:Program}{B:Bs}{G:Gh}{H:Hp}{w:World}(h:R B H w G){s:Sem Next}{c:AV}{v:Value}(hr:s.run P w=.ok (.value v) w)(L:VR G c v):pE P B H G w s c H:=
 ⟨.value v,w,G,v,hr,.inl rfl,L,i8 h⟩
theorem zeR{H H':Hp}{x:Option AV}{c:AV}(h:ret H x=some (c,H')):x=some c/\H'=H:=by
 cases x with
 |none=>simp[ret]at h
 |some v=>simp[ret]at h;exact⟨by rw[h.1],h.2.symm⟩
section
variable {P:Program} {B:Bs} {G:Gh} {H H':Hp} {w:World} (h:R B H w G) {c:AV}
include h
theorem CK{t:TypeId}{a:AV}{Z:Value}(F:VR G a Z)(I:zdZ P H t a=some c):∃v,(Instr.loadAt t Z).run P w=.ok v w/\VR G c v:=by
 unfold zdZ at I;split at I
 .rename_i r M;cases F with
  |ptr hr=>
   split at I
   .rename_i W Y V hc;obtain⟨v,i,g⟩:=CJ (h.cells _ _ _ _ _ _ _ hr hc) I;exact⟨v,Cy,g⟩
   .simp at I
 .rename_i W;cases F with
  |iptr vs L K=>
   rename_i b o;have U:ge G w b o W:=fun j d O=>⟨vs j,h.frz _ _ _ (L j (dD.1 O).1),K j d O⟩;obtain⟨v,i,g⟩:=CJ U I;exact⟨v,Cy,g⟩
 .simp at I
theorem K0{t:TypeId}{a x:AV}{C Y:Value}(m:VR G a C)(hx:VR G x Y)(K:zet P H t a x=some H'):
 ∃W,(Instr.storeAt t C Y).run P w=.ok () W/\Step B H.next G w H' W G:=by
 unfold zet at K;split at K
 .rename_i r M;cases m with
  |ptr hr=>
   rename_i b o ex;split at K
   .rename_i A g O s hc F;split at K
    .rename_i I;obtain⟨h1,h2,h3,h4⟩:=I;simp only[az]at K;subst K;have J:=hx.cells;have j:Y.cells.toList.length=s:=by rw[<-J.1];exact h1
     have V:∀v∈Y.cells.toList,v.oneCell'=true:=fun v hv=>by
      obtain⟨i,z,rfl⟩:=oA hv;have Z:i<x.cells.length:=by rw[J.1];exact z
      rw[(J.2 i _ _ (aO Z) (aO z)).oneCell];exact f9.1 h4 _ (dj Z)
     have hex:=h.ext r b o ex A g O hr hc;obtain⟨W,hw,L⟩:=yE P hr M x.cells Y.cells.toList A 0 H w h hc J V ac ac ac (fun _=>ac);refine⟨W,?_,ki⟩;have U:Y.cells.size=s:=by simpa using j
     simp only[Instr.storeAt,Instr.sureAddr,dI,il,dN,storeVar,zeU F,U];simpa using hw
    .simp at K
   .simp at K
 .simp at K
end
section
variable {P:Program} {B:Bs} {G:Gh} {H H':Hp} {w:World}
theorem K1{t:TypeId}{a c:AV}{W:Value}{i:Nat}(F:VR G a W)(Z:zcs P t a i=some c):∃v,(Instr.fieldAt t W i).run P w=.ok v w/\VR G c v:=by
 unfold zcs at Z;split at Z
 .rename_i U hd;split at Z
  .rename_i f m;split at Z
   .rename_i s K;have Y:∀b o,W=.pointer (some ⟨b,o,none⟩)->(Instr.fieldAt t W i).run P w=.ok (.pointer (some ⟨b,o+f.offset,none⟩)) w:=fun b o e=>by
     subst e;simp only[Instr.fieldAt,dI,zdB hd,dN];simp[m,Instr.sureAddr,fieldPlace,zeU K,ze4]
    split at Z
    .rename_i r M;simp only[az]at Z;subst Z;cases F with
     |ptr hr=>exact⟨_,Y _ _ rfl,yz⟩
    .rename_i V;simp only[az]at Z;subst Z;cases F with
     |iptr vs g L=>
      refine⟨_,Y _ _ rfl,.iptr (fun j=>vs (f.offset+j)) (fun j O=>?_) (fun j d O=>?_)⟩
      .rw[ik]at O;rw[gG];exact g _ ac
      .rw[nD]at O;exact L _ _ O
    .simp at Z
   .simp at Z
  .simp at Z
 .simp at Z
theorem K2{t:TypeId}{a c:AV}{Y:Value}{i:Nat}(F:VR G a Y)(Z:zcM P t a i=some c):∃v,(Instr.field t Y i).run P w=.ok v w/\VR G c v:=by
 unfold zcM at Z;split at Z
 .rename_i U V hd;cases F with
  |agg I L=>
   rename_i vs;split at Z
   .rename_i f m;obtain⟨v,W,g⟩:=vI (P:=P) (w:=w) ⟨I,L⟩ Z;refine⟨v,?_,g⟩;simp only[Instr.field,dI,zdB hd,dN];simp only[m,dI,asAgg,il,dN];exact W
   .simp at Z
 .simp at Z
theorem K3{t:TypeId}{a i c:AV}{I C:Value}(F:VR G a I)(m:VR G i C)(Z:zcU P t a i=some c):∃v,(Instr.indexAt t I C).run P w=.ok v w/\VR G c v:=by
 unfold zcU at Z;split at Z
 .rename_i kk k;cases m;split at Z
  .rename_i e hd;split at Z
   .rename_i s K;split at Z
    .rename_i r M O z;split at Z
     .rename_i W;simp only[az]at Z;subst Z;cases F with
      |sl hr hl hc=>
       rename_i b o x U;refine⟨.pointer (some ⟨b,o+M+k*s,none⟩),?_,yz⟩;simp only[Instr.indexAt,asIntOf,dI,il,dN,zdB hd];have h1:(0:Int)<=Int.ofNat k:=Int.natCast_nonneg k;have h2:(Int.ofNat k)<(O:Int):=pB;simp[zeU K,W,ze4]
     .simp at Z
    .rename_i g;split at Z
     .rename_i V Y;split at Z
      .rename_i L;simp only[az]at Z;subst Z;have W:k<g.length:=(dD.1 Y).1;cases F with
       |lst vs hz hF hv hc=>
        rename_i b o U z;have J:s=z:=by rw[<-L];exact hz k V Y
        subst J;refine⟨.pointer (some ⟨b,o+k*s,none⟩),?_,.iptr (vs k) (fun j A=>hF k j W ac) (fun j d A=>hv k j V d Y A)⟩;simp only[Instr.indexAt,asIntOf,dI,il,dN,zdB hd];simp[zeU K,W,ze4]
       |lst0 a U=>simp at W
      .simp at Z
     .simp at Z
    .simp at Z
   .simp at Z
  .rename_i n e hd;split at Z
   .rename_i s K;split at Z
    .rename_i r M;split at Z
     .rename_i W;simp only[az]at Z;subst Z;cases F with
      |ptr hr=>
       rename_i b o x;refine⟨.pointer (some ⟨b,o+M+k*s,none⟩),?_,yz⟩;simp only[Instr.indexAt,asIntOf,dI,il,dN,zdB hd];simp[zeU K,W,ze4,Instr.sureAddr]
     .simp at Z
    .simp at Z
   .simp at Z
  .simp at Z
 .simp at Z
theorem K4{t:TypeId}{a i c:AV}{Y z:Value}(F:VR G a Y)(C:VR G i z)(Z:lJ P t a i=some c):∃v,(Instr.index t Y z).run P w=.ok v w/\VR G c v:=by
 unfold lJ at Z;split at Z
 .rename_i O k;cases C;split at Z
  .rename_i s hd;split at Z
   .rename_i b W;simp only[az]at Z;subst Z;cases F with
    |str V l I=>
     subst I;refine⟨_,?_,.int .u8 b.toNat⟩;have j:k<V.size:=by
      have:=(dD.1 W).1;simpa using this
     have A:V[k]?=some b:=by
      rw[ByteArray.getElem?_lt' _ _ j];have:=(dD.1 W).2;simp at this;rw[<-this];rfl
     simp only[Instr.index,asIntOf,dI,il,dN,zdB hd];simp[A]
   .simp at Z
  .rename_i n e M hd;split at Z
   .rename_i j;split at Z
    .rename_i s K;cases F with
     |agg I L=>
      rename_i vs;obtain⟨v,U,g⟩:=vI (P:=P) (w:=w) ⟨I,L⟩ Z;refine⟨v,?_,g⟩;simp only[Instr.index,asIntOf,dI,il,dN,zdB hd];simp[zeU K,j,U]
    .simp at Z
   .simp at Z
  .simp at Z
 .simp at Z
theorem K5{a c:AV}{W:Value}{i:Nat}(F:VR G a W)(Z:extract a i=some c):∃v,(Instr.extract W i).run P w=.ok v w/\VR G c v:=by
 unfold extract at Z;split at Z
 .rename_i V;cases F with
  |tup I L=>
   rename_i vs;have C:i<V.length:=(dD.1 Z).1;have Y:i<vs.length:=ac;exact⟨vs[i],by simp[Instr.extract,Y],L i c _ Z (aO Y)⟩
 .simp at Z
theorem yH{op:BinOp}{k:IntKind}{a b:Int}{c:AV}(Y:op≠.shl/\op≠.shr)(h:zeE op k a b=some c)(g:TypeId):∃v,(binOp op g (.int k a) (.int k b)).run P w=.ok v w/\VR G c v:=by
 cases op<;>simp only[zeE,az,reduceCtorEq]at h<;>first
  |(subst h;exact⟨_,by simp[binOp,Op.intArith,Op.intBits,Op.intCmp];rfl,nC⟩)
  |(subst h;exact⟨.int k (k.wrap (BitVec.ofInt k.bits a &&& ~~~ BitVec.ofInt k.bits b).toNat),by simp[binOp,Op.intBits],nC⟩)
  |(split at h
    ·simp at h
    .rename_i z;simp only[az]at h;subst h;exact⟨_,by simp[binOp,Op.intDiv,z];rfl,nC⟩)
  |simp at Y
theorem K6{op:BinOp}{a b:ByteArray}{c:AV}(h:s7 op a.data.toList b.data.toList=some c)(g:TypeId):∃v,(binOp op g (.string a) (.string b)).run P w=.ok v w/\VR G c v:=by
 have z:∀x y,oo x y=Op.bytesLess x y:=fun x=>by
  induction x with
  |nil=>intro y;cases y<;>rfl
  |cons p x ih=>intro y;cases y with
   |nil=>rfl
   |cons q y=>simp[oo,Op.bytesLess,ih]
 cases op<;>simp only[s7,az,reduceCtorEq,z]at h<;>first
  |(subst h;exact⟨.bool (a.data.toList == b.data.toList),qZ,nC⟩)
  |(subst h;exact⟨.bool !(a.data.toList == b.data.toList),qZ,nC⟩)
  |(subst h;exact⟨.bool (Op.bytesLess a.data.toList b.data.toList),qZ,nC⟩)
  |(subst h;exact⟨.bool !(Op.bytesLess a.data.toList b.data.toList),qZ,nC⟩)
  |(subst h;exact⟨.bool (Op.bytesLess a.data.toList b.data.toList||a.data.toList == b.data.toList),qZ,nC⟩)
  |(subst h;exact⟨.bool !(Op.bytesLess a.data.toList b.data.toList||a.data.toList == b.data.toList),qZ,nC⟩)
  |(split at h
    ·rename_i Z;simp only[az]at h;subst h;refine⟨.string (a++b),?_,.str _ _ ?_⟩
     .have V:¬((a.size+b.size:Nat):Int) > IntKind.i64.max:=by
       have i:a.size+b.size<=70368744177664:=by simpa [zdO]using Z
       have Y:IntKind.i64.max=9223372036854775807:=rfl;rw[Y];omega
      simp only[binOp,Op.stringOp,ah V];rfl
     .simp
    .simp at h)
theorem CL(M:Nat){x y:AV}{Y A:Value}{r:Bool}{g:TypeId}(F:VR G x Y)(K:VR G y A)(h:vi P g x y=some r):(Op.equalIn (M+1) g Y A).run P w=.ok r w:=by
 unfold vi at h;split at h;all_goals first
  |(rename_i hd
    split at h<;>simp only[az,reduceCtorEq]at h<;>subst h<;>cases F<;>cases K<;>simp[Op.equalIn,zdB hd]
    done)
  |(rename_i e hd
    split at h<;>simp only[az,reduceCtorEq]at h<;>subst h<;>cases F<;>cases K<;>simp[Op.equalIn,zdB hd]
    done)
  |(rename_i Z W hd
    split at h<;>simp only[az,reduceCtorEq]at h<;>subst h<;>cases F<;>cases K<;>simp[Op.equalIn,zdB hd]
    done)
  |(rename_i Z W J hd
    split at h<;>simp only[az,reduceCtorEq]at h<;>subst h<;>cases F<;>cases K<;>simp[Op.equalIn,zdB hd]
    done)
  |simp at h
theorem vJ{op:BinOp}{t:TypeId}{x y:Operand}{c d:AV}{cv o:Value}(O:VR G c cv)(hd:VR G d o)(h:∀l m,c=.agg l->d=.agg m->False):(eqGuard op t x y cv o).run P w=.ok () w:=by
 cases op<;>first|rfl|(cases O<;>cases hd<;>first|rfl|exact(h _ _ rfl rfl).elim)
theorem K7(a b:ByteArray):(a == b)=(a.data.toList == b.data.toList):=by
 cases a with
 |mk x=>cases b with
  |mk y=>
   show(x == y)=_;rw[tt,k1,k1];exact⟨fun h=>by rw[h],fun h=>k0 h⟩
theorem CM(M:Nat){x y:AV}{Y A:Value}{r:Bool}{g:TypeId}(F:VR G x Y)(K:VR G y A)(h:yr P g x y=some r):(Op.equalIn (M+1) g Y A).run P w=.ok r w:=by
 unfold yr at h;split at h
 .split at h
  .rename_i hd;split at h
   .rename_i j;simp only[az]at h;subst h j;cases F;cases K;simp[Op.equalIn,zdB hd]
   .simp at h
  .simp at h
 .split at h
  .rename_i hd;simp only[az]at h;subst h;cases F with
   |str a O Z=>cases K with
    |str b W z=>
     subst Z z;simp only[Op.equalIn,dI,zdB hd,dN,il,K7]
  .simp at h
 .exact CL M F K h
theorem yI{xs O:List AV}{Y Z:List Value}(F:bO G xs Y)(K:bO G O Z)(M:Nat):∀(A:List Field) (r:Bool),qV P xs O A=some r ->
 Sem.run P (forIn A (none,()) fun(f:Field) (_:Option Bool×Unit)=>
         if f.name="_" then pure (ForInStep.yield (none,()))
         else do
          let a <-part f.type Y.toArray f.offset
          let b <-part f.type Z.toArray f.offset
          let c <-Op.equalIn (M+1) f.type a b
          if c=false then pure (ForInStep.done (some false,()))else pure (ForInStep.yield (none,())))
  w=.ok (match r with|true=>(none,())|false=>(some false,())) w
 |[],r,h=>by
  simp only[qV,az]at h;subst h;rfl
 |f::A,r,h=>by
  unfold qV at h;rw[List.forIn_cons];split at h
  .rename_i m;rw[ax (by simpa using m)];simp only[dI,il,dN];exact yI F K M A r h
  .rename_i m;rw[ah (by simpa using m)];split at h
   .rename_i a b J z;obtain⟨I,U,V⟩:=vI (P:=P) (w:=w) F J;obtain⟨o,W,C⟩:=vI (P:=P) (w:=w) K z;split at h
    .rename_i L;have:=CM (P:=P) (w:=w) M V C L;simp only[dI,U,W,this,dN,k2,ck,il];exact yI F K M A r h
    .rename_i L;have:=CM (P:=P) (w:=w) M V C L;simp only[az]at h;subst h;simp only[dI,U,W,this,dN,bT,il]
    .simp at h
   .simp at h
theorem K8(d:Nat){t:TypeId}{U:Array Field}{xs O:Array Value}(hd:P.underlying t=some (.struct U))(K:P.stoodInHeld t=false):
 (Op.equalIn (d+1) t (.agg xs) (.agg O)).run P w=(Sem.run P (forIn U.toList (none,()) fun(f:Field) (_:Option Bool×Unit)=>
   if f.name="_" then pure (ForInStep.yield (none,()))
   else do
    let a <-part f.type xs f.offset
    let b <-part f.type O f.offset
    let c <-Op.equalIn d f.type a b
    if c=false then pure (ForInStep.done (some false,()))else pure (ForInStep.yield (none,())))
   w).andThen fun a W=>Sem.run P (match a.1 with|some r=>pure r|none=>pure true) W:=by
 simp[Op.equalIn,zdB hd,K]
 congr 1
 funext a W
 rcases a with⟨_ |_,_⟩<;>rfl
theorem K9(M:Nat){x y:AV}{Y A:Value}{r:Bool}{W:TypeId}(F:VR G x Y)(K:VR G y A)(h:pr P W x y=some r):(Op.equalIn (M+2) W Y A).run P w=.ok r w:=by
 unfold pr at h;split at h
 .unfold vj at h;split at h
  .rename_i U hd;split at h
   .simp at h
   .rename_i V;simp only[k3]at V;cases F with
    |agg Z z=>cases K with
     |agg g i=>
      have:=yI (P:=P) (w:=w) ⟨Z,z⟩ ⟨g,i⟩ M U.toList r h;rw[K8 (M+1) hd V.1,this];cases r<;>rfl
  .simp at h
 .exact CL (M+1) F K h
theorem La{x y:AV}{Y A:Value}{r:Bool}{g:TypeId}(F:VR G x Y)(K:VR G y A)(h:pr P g x y=some r):(Op.equal g Y A).run P w=.ok r w:=K9 9998 F K h
theorem Lb{op:BinOp}{t:TypeId}{x y:Operand}{xs O:List AV}{Y A:Value}(F:VR G (.agg xs) Y)(K:VR G (.agg O) A){r:Bool}(h:vj P t xs O=some r):(eqGuard op t x y Y A).run P w=.ok () w:=by
 unfold vj at h;split at h
 .split at h
  .simp at h
  .rename_i Z;simp only[k3]at Z;cases F;cases K;cases op<;>first|rfl|simp[eqGuard,Z.2]
 .simp at h
theorem Lc{op:BinOp}{g:TypeId}{C J:Operand}{x y c:AV}{Y A:Value}(F:VR G x Y)(K:VR G y A)(V:∀k a k' b,x=.int k a->y=.int k' b->False)
 (U:∀a b,x=.str a->y=.str b->False) (O:∀k a,x=.sx k a->False) (M:∀k a k' b,x=.int k a->y=.sx k' b->False) (h:yu P op g x y=some c) :
 ∃v,(do eqGuard op g C J Y A;binOp op g Y A:Sem Value).run P w=.ok v w/\VR G c v:=by
 unfold yu at h;have Z:∃r,pr P g x y=some r/\((op=.eql/\c=.bool r)\/(op=.neq/\c=.bool !r)):=by
  split at h
  .split at h
   .rename_i r hr;simp only[az]at h;exact⟨r,hr,.inl ⟨rfl,h.symm⟩⟩
   .simp at h
  .split at h
   .rename_i r hr;simp only[az]at h;exact⟨r,hr,.inr ⟨rfl,h.symm⟩⟩
   .simp at h
  .simp at h
 obtain⟨r,hr,L⟩:=Z;have z:(eqGuard op g C J Y A).run P w=.ok () w:=by
  have W:=hr;unfold pr at W;split at W
  .exact Lb F K W
  .rename_i o;exact vJ F K o
 have I:=La (P:=P) (w:=w) F K hr;simp only[dI,z,dN];rcases L with⟨rfl,rfl⟩|⟨rfl,rfl⟩
 .refine⟨.bool r,?_,.bool r⟩;have:binOp .eql g Y A=(do pure (.bool (<-Op.equal g Y A)):Sem Value):=by
   cases F<;>cases K<;>first|rfl|exact(V _ _ _ _ rfl rfl).elim|exact(U _ _ rfl rfl).elim|exact(O _ _ rfl).elim|exact(M _ _ _ _ rfl rfl).elim
  rw[this];simp[I]
 .refine⟨.bool !r,?_,.bool _⟩;have:binOp .neq g Y A=(do pure (.bool (!(<-Op.equal g Y A))):Sem Value):=by
   cases F<;>cases K<;>first|rfl|exact(V _ _ _ _ rfl rfl).elim|exact(U _ _ rfl rfl).elim|exact(O _ _ rfl).elim|exact(M _ _ _ _ rfl rfl).elim
  rw[this];simp[I]
theorem CN{x:AV}{k:IntKind}{e:Sx}{Y:Value}(F:VR G x Y)(h:vg x=some (k,e)):Y=.int k (e.eval G.ρ):=by
 unfold vg at h;split at h
 .simp only[ci]at h;obtain⟨rfl,rfl⟩:=h;cases F;rfl
 .simp only[ci]at h;obtain⟨rfl,rfl⟩:=h;cases F;rfl
 .simp at h
theorem Ld{op:BinOp}{k:IntKind}{a b n:Int}(h:zeE op k a b=some (.int k n)):yp op k a b=n:=by simp[yp,h]
theorem Le{D:BinOp->Sx->Sx->Option Bool}(L:kj D G.ρ){op:BinOp}{k:IntKind}{a b:Sx}{c:AV}(h:yq D op k a b=some c)(g:TypeId):
 ∃v,(binOp op g (.int k (a.eval G.ρ)) (.int k (b.eval G.ρ))).run P w=.ok v w/\VR G c v:=by
 have o:∀(op:BinOp) (n:Int),(op≠.shl/\op≠.shr)->zeE op k (a.eval G.ρ) (b.eval G.ρ)=some (.int k n)->c=.sx k (.bin op k a b) ->
  ∃v,(binOp op g (.int k (a.eval G.ρ)) (.int k (b.eval G.ρ))).run P w=.ok v w/\VR G c v:=fun op n Y C hc=>by
  obtain⟨v,i,Z⟩:=yH (P:=P) (w:=w) (G:=G) Y C g;cases Z;refine⟨_,i,?_⟩;subst hc;have:VR G (.sx k (.bin op k a b)) (.int k ((Sx.bin op k a b).eval G.ρ)):=.sx _ _;simp only[Sx.eval,Ld C]at this;exact this
 have m:D .eql b (.lit 0)=some false->b.eval G.ρ≠0:=fun hd=>by
  have:=L _ k _ _ _ hd;simp[zeE,Sx.eval]at this;exact this
 cases op<;>simp only[yq,az,reduceCtorEq]at h<;>first
  |exact o _ _ aD rfl h.symm
  |(split at h
    ·rename_i hd;simp only[az]at h;first
      |exact o .quo (k.wrap ((a.eval G.ρ).tdiv (b.eval G.ρ))) aD (by simp only[zeE,ah (m hd)]) h.symm
      |exact o .rem ((a.eval G.ρ).tmod (b.eval G.ρ)) aD (by simp only[zeE,ah (m hd)]) h.symm
    .simp at h)
  |(split at h
    ·rename_i r hd;simp only[az]at h;subst h;exact yH (P:=P) (w:=w) (G:=G) aD (L _ k _ _ _ hd) g
    .simp at h)
theorem CO{D:BinOp->Sx->Sx->Option Bool}(L:kj D G.ρ){op:BinOp}{g:TypeId}{C F:Operand}{x y c:AV}{Y A:Value}(W:VR G x Y)(K:VR G y A)(Z:∀l m,x=.agg l->y=.agg m->False)(h:vh D op x y=some c):
 ∃v,(do eqGuard op g C F Y A;binOp op g Y A:Sem Value).run P w=.ok v w/\VR G c v:=by
 have U:=vJ (P:=P) (w:=w) (op:=op) (t:=g) (x:=C) (y:=F) W K Z;simp only[dI,U,dN];unfold vh at h;split at h
 .rename_i k a k' b I j;have O:=CN W I;have M:=CN K j;subst O M;split at h
  .rename_i V;subst V;exact Le L h g
  .simp at h
 .simp at h
theorem Lf{D:BinOp->Sx->Sx->Option Bool}(L:kj D G.ρ){op:BinOp}{g:TypeId}{C Z:Operand}{x y c:AV}{Y A:Value}(F:VR G x Y)(K:VR G y A)(h:zdr P D op g x y=some c):
 ∃v,(do eqGuard op g C Z Y A;binOp op g Y A:Sem Value).run P w=.ok v w/\VR G c v:=by
 unfold zdr at h;split at h
 .rename_i k a k' b;have W:=vJ (P:=P) (w:=w) (op:=op) (t:=g) (x:=C) (y:=Z) F K aD;simp only[dI,W,dN];cases F;cases K;unfold nz at h;split at h
  .unfold oq at h;split at h
   .simp only[az]at h;subst h;refine⟨_,?_,.int _ _⟩;simp only[binOp,Op.shift];rw[ah aD];rfl
   .simp at h
  .unfold oq at h;split at h
   .simp only[az]at h;subst h;refine⟨_,?_,.int _ _⟩;simp only[binOp,Op.shift];rw[ah aD];rfl
   .simp at h
  .rename_i i V;split at h
   .rename_i j;subst j;exact yH ⟨i,V⟩ h g
   .simp at h
 .rename_i a b;have W:=vJ (P:=P) (w:=w) (op:=op) (t:=g) (x:=C) (y:=Z) F K aD;simp only[dI,W,dN];cases F with
  |str m _ U=>
   cases K with
   |str O _ z=>
    subst U z;exact K6 h g
 .exact CO L F K aD h
 .exact CO L F K aD h
 .exact Lc F K hC hC hC hC h
theorem Lg{op:UnOp}{x c:AV}{Y:Value}(F:VR G x Y)(h:nA op x=some c):∃v,(Op.unary op Y).run P w=.ok v w/\VR G c v:=by
 unfold nA at h;split at h
 .cases F;simp only[az]at h;subst h;refine⟨_,rfl,?_⟩;exact .sx _ _
 .cases F;simp only[az]at h;subst h;refine⟨_,rfl,?_⟩;exact .sx _ _
 .cases F;simp only[zeE,az]at h;subst h;exact⟨_,rfl,.int _ _⟩
 .cases F;simp only[zeE,az]at h;subst h;exact⟨_,rfl,.int _ _⟩
 .cases F;simp only[az]at h;subst h;exact⟨_,rfl,.bool _⟩
 .simp at h
end
end Go.Ab
