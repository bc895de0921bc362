/- Parts: AbRel, AbMem, AbOps, AbOps2. -/
import Derived.Test.YtpbcimfiofmoeaaGreatRCA
import Derived.WalkKit
set_option linter.unusedSimpArgs false
set_option linter.unusedVariables false
set_option linter.unusedSectionVars false
set_option linter.defProp false
set_option maxHeartbeats 32000000
namespace Go.Ab
set_option maxRecDepth 20000
open Go
theorem aK{P:Prop}(h:P:=by simp):P:=h
theorem y4{P:Prop}(h:P:=by simpa using hc):P:=h
theorem ac{P:Prop}(h:P:=by omega):P:=h
theorem kF{P:Prop}(h:P:=by rw[<- k r _ hr];exact hc):P:=h
theorem cT{P:Prop}(h:P:=by simp;omega):P:=h
theorem y5{P:Prop}(h:P:=by rw[hold _ _ _ (rT h1) rfl];exact h1):P:=h
theorem Gv{P:Prop}(h:P:=by rw[World.frozen?_alloc_old _ _ _ (by have:=rT h1;simp;omega)];exact h2):P:=h
theorem y9{P:Prop}(h:P:=by have:=h.dom _ _ hq;omega):P:=h
theorem eR{P:Prop}(h:P:=by rw[zd1,if_pos rfl]):P:=h
theorem jg{P:Prop}(h:P:=by rw[Hp.get_set,if_neg hk]):P:=h
theorem ft{P:Prop}(h:P:=by rw[Hp.get_set,if_pos rfl]):P:=h
theorem wT{P:Prop}(h:P:=by simp only[zfu];omega):P:=h
theorem za{P:Prop}(h:P:=by simpa using hj):P:=h
theorem Gw{P:Prop}(h:P:=by simpa [Instr.loadAt,Instr.sureAddr]using h1):P:=h
theorem Cg{P:Prop}(h:P:=by rw[Nat.add_assoc];exact .ptr hr):P:=h
theorem qD{P:Prop}(h:P:=by constructor):P:=h
theorem uP{P:Prop}(h:P:=by simp[binOp,Op.stringOp,ByteArray.toList_eq]):P:=h
theorem gC{P:Prop}(h:P:=by assumption):P:=h
theorem ez{P:Prop}(h:P:=by rw[zd1,if_neg ac]):P:=h
def kG:=@List.getElem?_append_left
def mB:=@List.getElem?_append_right
def pM:=@List.getElem?_take
def aE:=@if_pos
def aM:=@Nat.le_refl
def dr:=@Nat.le_trans
def qE:=@Nat.lt_of_lt_of_le
def iV:=@Nat.eq_of_beq_eq_true
def Ch:=@Nat.ne_of_beq_eq_false
def pN:=@decide_true
def li:=@decide_false
def ah:=@if_neg
def aQ:=@Option.some.injEq
def iW:=@Nat.blt_eq
def jh:=@Array.getD_eq_getD_getElem?
def tn:=@Array.getElem?_setIfInBounds
def gZ:=@Prod.mk.injEq
def eS:=@List.getElem?_eq_some_iff
def br:=@List.getElem?_eq_getElem
def bT:=@Nat.zero_add
def zb:=@Go.RowKit.Below.heap_alloc
def cZ:=@Nat.le_succ
def zd:=@List.take_append_of_le_length
def iq:=@List.take_of_length_le
def ze:=@List.drop_of_length_le
def eO:=@List.length_append
def oK:=@List.length_take
def fj:=@List.length_cons
def fV:=@List.length_nil
def Ci:=@List.drop_drop
def nH:=@List.nil_append
def kH:=@List.append_assoc
def rS:=@List.getElem?_drop
def fk:=@Go.Sem.run_bind
def jJ:=@Nat.add_assoc
def mC:=@List.length_drop
def ir:=@Option.bind_eq_some_iff
def mD:=@Option.map_eq_some_iff
def fu:=@Go.Result.andThen_ok
def bN:=@if_true
def jK:=@Go.Sem.run_pure
def nI:=@Array.ext'
def Ck:=@List.getElem_of_mem
def jL:=@List.all_eq_true
def dX:=@List.getElem_mem
def mE:=@beq_iff_eq
def oL:=@Bool.true_eq_false
def bU:=@if_false
def pO:=@Bool.or_eq_false_iff
def di:=And.intro @aQ.{0} @gZ.{0,0}
def mF:=And.intro @fj.{0} @fV.{0}
end Go.Ab
namespace Go.Ab
set_option maxRecDepth 20000
open Go Go.RowKit
structure Gh where
 β:Nat->Option (Nat×Nat×Nat)
 F:Nat->Nat->Option Value
 ρ:Nat->Int
structure Bs where
 at':Nat
 ρ:Nat->Int
 cfg:Cfg
def mG(D:BinOp->Sx->Sx->Option Bool)(ρ:Nat->Int):Prop:=∀op k a b r,D op a b=some r->zf7 op k (a.eval ρ) (b.eval ρ)=some (.bool r)
inductive VR (G:Gh):AV->Value->Prop
 |int (k:IntKind) (n:Int):VR G (.int k n) (.int k n)
 |sx (k:IntKind) (e:Sx):VR G (.sx k e) (.int k (e.eval G.ρ))
 |bool (b:Bool):VR G (.bool b) (.bool b)
 |str (s:ByteArray) (l:List UInt8) (h:s.data.toList=l):VR G (.str l) (.string s)
 |nilP:VR G .nilP (.pointer none)
 |nilM:VR G .nilM (.map none)
 |nilF:VR G .nilF .nilFunc
 |nilS:VR G .nilS (.slice none 0 0)
 |ptr {r off b o x:Nat} (h:G.β r=some (b,o,x)):VR G (.ptr r off) (.pointer (some ⟨b,o+off,none⟩))
 |iptr {cs:List AV}{b o:Nat} (vs:Nat->Value) (hF:∀j,j<cs.length->G.F b (o+j)=some (vs j))
  (hv:∀(j:Nat) (c:AV),cs[j]?=some c->VR G c (vs j)):VR G (.iptr cs) (.pointer (some ⟨b,o,none⟩))
 |sl {r off len z b o x cap:Nat} (h:G.β r=some (b,o,x)) (hl:len<=cap) (hc:off+cap*z<=x) :
  VR G (.sl r off len z) (.slice (some ⟨b,o+off,none⟩) len cap)
 |lst {xs:List (List AV)}{b o cap z:Nat} (vs:Nat->Nat->Value) (hz:∀(i:Nat) (row:List AV),xs[i]?=some row->row.length=z)
  (hF:∀i j,i<xs.length->j<z->G.F b (o+i*z+j)=some (vs i j))
  (hv:∀(i j:Nat) (row:List AV) (c:AV),xs[i]?=some row->row[j]?=some c->VR G c (vs i j)) (hc:xs.length<=cap) :
  VR G (.lst xs) (.slice (some ⟨b,o,none⟩) xs.length cap)
 |lst0 (a:Option Addr) (cap:Nat):VR G (.lst []) (.slice a 0 cap)
 |map {r b o x:Nat} (h:G.β r=some (b,o,x)):VR G (.map r) (.map (some b))
 |clo {f:Nat}{cs:List AV}{vs:List Value} (hl:cs.length=vs.length) (hv:∀(i:Nat) c v,cs[i]?=some c->vs[i]?=some v->VR G c v) :
  VR G (.clo f cs) (.func (.func f) #[] vs.toArray)
 |agg {cs:List AV}{vs:List Value} (hl:cs.length=vs.length) (hv:∀(i:Nat) c v,cs[i]?=some c->vs[i]?=some v->VR G c v) :
  VR G (.agg cs) (.agg vs.toArray)
 |tup {cs:List AV}{vs:List Value} (hl:cs.length=vs.length) (hv:∀(i:Nat) c v,cs[i]?=some c->vs[i]?=some v->VR G c v) :
  VR G (.tup cs) (.tuple vs.toArray)
def cr(G:Gh)(cs:List AV)(vs:List Value):Prop:=cs.length=vs.length/\∀(i:Nat) c v,cs[i]?=some c->vs[i]?=some v->VR G c v
theorem cr.nil(G:Gh):cr G [] []:=⟨rfl,aK⟩
def j8:=@cr.nil
theorem cr.cons{G:Gh}{c:AV}{v:Value}{cs:List AV}{vs:List Value}(h:VR G c v)(hs:cr G cs vs):cr G (c::cs) (v::vs):=by
 refine⟨by simp[hs.1],fun i c' v' hc hv=>?_⟩;cases i with
 |zero=>simp at hc hv;subst hc hv;exact h
 |succ i=>exact hs.2 i c' v' y4 (by simpa using hv)
def iE:=@cr.cons
theorem cr.of_cons{G:Gh}{c:AV}{v:Value}{cs:List AV}{vs:List Value}(h:cr G (c::cs) (v::vs)):VR G c v/\cr G cs vs:=
 ⟨h.2 0 c v rfl rfl,by simpa using h.1,fun i c' v' hc hv=>h.2 (i+1) c' v' y4 (by simpa using hv)⟩
theorem cr.append{G:Gh}{cs ds:List AV}{vs us:List Value}(h:cr G cs vs)(h':cr G ds us):cr G (cs++ds) (vs++us):=by
 refine⟨by simp[h.1,h'.1],fun i c v hc hv=>?_⟩;have hl:=h.1;by_cases hi:i<cs.length
 .rw[kG hi]at hc;rw[kG ac]at hv;exact h.2 i c v hc hv
 .rw[mB ac]at hc;rw[mB ac]at hv;rw[<-hl]at hv;exact h'.2 _ c v hc hv
theorem cr.drop{G:Gh}{cs:List AV}{vs:List Value}(h:cr G cs vs)(n:Nat):cr G (cs.drop n) (vs.drop n):=
 ⟨by simp[h.1],fun i c v hc hv=>h.2 (n+i) c v y4 (by simpa using hv)⟩
theorem cr.take{G:Gh}{cs:List AV}{vs:List Value}(h:cr G cs vs)(n:Nat):cr G (cs.take n) (vs.take n):=by
 refine⟨by simp[h.1],fun i c v hc hv=>?_⟩;rw[pM]at hc hv;split at hc
 .rename_i hi;rw[aE hi]at hv;exact h.2 i c v hc hv
 .simp at hc
structure Ext (G G':Gh):Prop where
 β:∀r p,G.β r=some p->G'.β r=some p
 F:∀b o v,G.F b o=some v->G'.F b o=some v
 ρ:G'.ρ=G.ρ
theorem Ext.refl(G:Gh):Ext G G:=⟨fun _ _ h=>h,fun _ _ _ h=>h,rfl⟩
def uQ:=@Ext.refl
theorem Ext.trans{a b c:Gh}(h:Ext a b)(k:Ext b c):Ext a c:=⟨fun r p hp=>k.β r p (h.β r p hp),fun x y v hv=>k.F x y v (h.F x y v hv),k.ρ.trans h.ρ⟩
theorem VR.mono{G G':Gh}(e:Ext G G'){c:AV}{v:Value}(h:VR G c v):VR G' c v:=by
 induction h with
 |int k n=>exact .int k n
 |sx k x=>rw[<-e.ρ];exact .sx k x
 |bool b=>exact .bool b
 |str s l h=>exact .str s l h
 |nilP=>exact .nilP
 |nilM=>exact .nilM
 |nilF=>exact .nilF
 |nilS=>exact .nilS
 |ptr h=>exact .ptr (e.β _ _ h)
 |iptr vs hF _ ih=>exact .iptr vs (fun j hj=>e.F _ _ _ (hF j hj)) ih
 |sl h hl hc=>exact .sl (e.β _ _ h) hl hc
 |lst vs hz hF _ hc ih=>exact .lst vs hz (fun i j hi hj=>e.F _ _ _ (hF i j hi hj)) ih hc
 |lst0 a cap=>exact .lst0 a cap
 |map h=>exact .map (e.β _ _ h)
 |clo hl _ ih=>exact .clo hl ih
 |agg hl _ ih=>exact .agg hl ih
 |tup hl _ ih=>exact .tup hl ih
theorem cr.mono{G G':Gh}(e:Ext G G'){c:List AV}{v:List Value}(h:cr G c v):cr G' c v:=⟨h.1,fun i a b ha hb=>(h.2 i a b ha hb).mono e⟩
theorem VR.oneCell{G:Gh}{c:AV}{v:Value}(h:VR G c v):v.oneCell'=c.one:=by cases h<;>rfl
theorem VR.cells{G:Gh}{c:AV}{v:Value}(h:VR G c v):cr G c.cells v.cells.toList:=by
 cases h with
 |agg hl hv=>exact⟨by simpa [AV.cells,Value.cells]using hl,by simpa [AV.cells,Value.cells]using hv⟩
 |_=>exact iE (by constructor<;>assumption) (j8 _)
def iX(G:Gh)(w:World)(b o:Nat)(cs:List AV):Prop:=∀(j:Nat) (c:AV),cs[j]?=some c->∃v,w.cell? ⟨b,o+j,none⟩=some v/\VR G c v
def zfu(x:Nat)(cs:List AV):Bool->Nat
 |true=>x
 |false=>cs.length
def qF(G:Gh)(es:List (AV×AV))(ms:List MapEntry):Prop:=
 es.length=ms.length/\∀(i:Nat) e m,es[i]?=some e->ms[i]?=some m->VR G e.1 m.key/\VR G e.2 m.val
structure R (B:Bs) (H:Hp) (w:World) (G:Gh):Prop where
 base:B.at'<=w.heap.size
 dom:∀r p,G.β r=some p->r<H.next
 lt:∀r b o x,G.β r=some (b,o,x)->B.at'<=b/\b<w.heap.size
 cells:∀r b o x cs imm tip,G.β r=some (b,o,x)->H.get r=some (.cells cs imm tip)->iX G w b o cs
 imm:∀r b o x cs imm tip,G.β r=some (b,o,x)->H.get r=some (.cells cs imm tip)->∀j,j<imm->j<cs.length->∃v,G.F b (o+j)=some v
 ext:∀r b o x cs imm tip,G.β r=some (b,o,x)->H.get r=some (.cells cs imm tip)->cs.length<=zfu x cs tip
 room:∀r b o x cs imm tip,G.β r=some (b,o,x)->H.get r=some (.cells cs imm tip)->∀j,imm<=j->j<zfu x cs tip ->
  (∃v,w.cell? ⟨b,o+j,none⟩=some v)/\w.frozen? ⟨b,o+j,none⟩=false/\G.F b (o+j)=none
 apart:∀r b o x cs imm tip r' b' o' x' cs' imm' tip',G.β r=some (b,o,x)->H.get r=some (.cells cs imm tip) ->
  G.β r'=some (b',o',x')->H.get r'=some (.cells cs' imm' tip')->r≠r' ->
  ∀j j',imm<=j->j<zfu x cs tip->imm'<=j'->j'<zfu x' cs' tip'->b=b'->o+j≠o'+j'
 map:∀r b o x es,G.β r=some (b,o,x)->H.get r=some (.map es)->∃ms clock,w.heap[b]?=some (.map ms clock)/\qF G es ms.toList
 mapApart:∀r b o x es r' b' o' x',G.β r=some (b,o,x)->H.get r=some (.map es)->G.β r'=some (b',o',x')->(H.get r').isSome->r≠r'->b≠b'
 frz:∀b o v,G.F b o=some v->w.cell? ⟨b,o,none⟩=some v
 val:G.ρ=B.ρ
 sym:mG B.cfg.dec B.ρ
 fits:∀r b o x cs imm tip,G.β r=some (b,o,x)->H.get r=some (.cells cs imm tip)->cs.length<=x
structure Fr (G:Gh) (w w':World):Prop where
 os:w'.os=w.os
 tape:w'.tape=w.tape
 output:w'.output=w.output
 size:w.heap.size<=w'.heap.size
 block:∀k,k<w.heap.size->(∀r b o x,G.β r=some (b,o,x)->b≠k)->w'.heap[k]?=w.heap[k]?
theorem Fr.refl(G:Gh)(w:World):Fr G w w:=⟨rfl,rfl,rfl,aM _,fun _ _ _=>rfl⟩
def wU:=@Fr.refl
def qG(G G':Gh)(w:World):Prop:=∀r b o x,G'.β r=some (b,o,x)->G.β r=some (b,o,x)\/w.heap.size<=b\/∃r' o' x',G.β r'=some (b,o',x')
theorem Fr.trans{G G':Gh}{a b c:World}(h:Fr G a b)(k:Fr G' b c)(n:qG G G' a):Fr G a c:=
 ⟨k.os.trans h.os,k.tape.trans h.tape,k.output.trans h.output,dr h.size k.size,fun i hi hn=>
  (k.block i (qE hi h.size) (fun r b o x hr he=>by
    rcases n r b o x hr with h1|h1|⟨r',o',x',h1⟩
    .exact hn r b o x h1 he
    .omega
    .exact hn r' b o' x' h1 he)).trans (h.block i hi hn)⟩
theorem qG.refl(G:Gh)(w:World):qG G G w:=fun _ _ _ _ h=>.inl h
def tp:=@qG.refl
theorem qG.trans{G G' G'':Gh}{w w':World}(h:qG G G' w)(k:qG G' G'' w')(hs:w.heap.size<=w'.heap.size):qG G G'' w:=fun r b o x hr=>by
 rcases k r b o x hr with h1|h1|⟨r',o',x',h1⟩
 .exact h r b o x h1
 .exact .inr (.inl ac)
 .rcases h r' b o' x' h1 with h2|h2|h2
  .exact .inr (.inr ⟨r',o',x',h2⟩)
  .exact .inr (.inl h2)
  .exact .inr (.inr h2)
structure Step (B:Bs) (nx:Nat) (G:Gh) (w:World) (H':Hp) (w':World) (G':Gh):Prop where
 r:R B H' w' G'
 ext:Ext G G'
 fr:Fr G w w'
 new:qG G G' w
 low:∀r p,G'.β r=some p->G.β r=some p\/nx<=r
 mono:nx<=H'.next
 icy:∀b o v,G'.F b o=some v->G.F b o=some v\/B.at'<=b
theorem Step.refl{B:Bs}{H:Hp}{G:Gh}{w:World}(h:R B H w G):Step B H.next G w H w G:=⟨h,uQ _,wU _ _,tp _ _,fun _ _ h=>.inl h,aM _,fun _ _ _ h=>.inl h⟩
def kI:=@Step.refl
theorem Step.trans{B:Bs}{nx:Nat}{H' H'':Hp}{G G' G'':Gh}{w w' w'':World}(h:Step B nx G w H' w' G')(k:Step B H'.next G' w' H'' w'' G''):Step B nx G w H'' w'' G'':=
 ⟨k.r,h.ext.trans k.ext,h.fr.trans k.fr h.new,h.new.trans k.new h.fr.size,fun r p hr=>by
  rcases k.low r p hr with h1|h1
  .exact h.low r p h1
  .exact .inr (dr h.mono h1),dr h.mono k.mono,fun b o v hv=>by
  rcases k.icy b o v hv with h1|h1
  .exact h.icy b o v h1
  .exact .inr h1⟩
structure TR (N:Nat) (G:Gh) (E:aG) (a:Act):Prop where
 size:a.tmps.size=N
 slots:∀t,VR G (E.at t) (a.tmps.getD t undef)
theorem TR.mono{N:Nat}{G G':Gh}{E:aG}{a:Act}(e:Ext G G')(h:TR N G E a):TR N G' E a:=⟨h.size,fun t=>(h.slots t).mono e⟩
theorem VR.undef(G:Gh):VR G zff Go.undef:=.tup (cs:=[]) (vs:=[]) rfl aK
def wV:=@VR.undef
@[simp] theorem qH {α:Type} (x y:α):jG true x y=x:=rfl
@[simp] theorem zgn {α:Type} (x y:α):jG false x y=y:=rfl
theorem wW{α:Type}(k:Nat):(T.e:T α).get k=none:=rfl
theorem tq{α:Type}(v:Option α)(l r:T α)(k:Nat):
 (T.n v l r).get k=jG (Nat.beq k 0) v (jG (Nat.beq (Nat.mod k 2) 1) (l.get (Nat.div k 2)) (r.get (Nat.sub (Nat.div k 2) 1))):=rfl
theorem ON{α:Type}(v:Option α)(f:Nat)(t:T α)(k:Nat):ta v (f+1) t k=T.casesOn t
 (jG (Nat.beq k 0) (.n v .e .e) (jG (Nat.beq (Nat.mod k 2) 1) (.n none (ta v f .e (Nat.div k 2)) .e) (.n none .e (ta v f .e (Nat.sub (Nat.div k 2) 1)))))
 (fun u l r=>jG (Nat.beq k 0) (.n v l r) (jG (Nat.beq (Nat.mod k 2) 1) (.n u (ta v f l (Nat.div k 2)) r) (.n u l (ta v f r (Nat.sub (Nat.div k 2) 1))))):=rfl
theorem OO{α:Type}(v:Option α):∀(f:Nat) (t:T α) (k j:Nat),k<f->(ta v f t k).get j=if j=k then v else t.get j:=by
 intro f;induction f with
 |zero=>intro t k j h;omega
 |succ f ih=>
  intro t k j h;have hd:∀n:Nat,Nat.div n 2=n/2:=fun _=>rfl;have hm:∀n:Nat,Nat.mod n 2=n%2:=fun _=>rfl;have hs:∀n:Nat,Nat.sub n 1=n-1:=fun _=>rfl;have hb0:∀n m:Nat,Nat.beq n m=decide (n=m):=fun n m=>by
   cases h:Nat.beq n m with
   |true=>have e:=iV h;simp[e]
   |false=>have e:=Ch h;simp[e]
  rw[ON];cases t with
  |e=>
   simp only[];by_cases hk0:k=0
   .subst hk0;simp only[hb0,pN,qH,tq,wW];by_cases hj:j=0<;>simp[hj] ;cases decide (j.mod 2=1)<;>rfl
   .simp only[hb0,hk0,li,zgn];by_cases hk1:Nat.mod k 2=1
    .simp only[hk1,pN,qH,tq,hb0];by_cases hj0:j=0
     .subst hj0;simp[wW];omega
     .simp only[hj0,li,zgn];by_cases hj1:Nat.mod j 2=1
      .simp only[hj1,pN,qH];rw[ih _ _ _ (by rw[hd];omega)];rw[hd,hd,hm]at *;by_cases e:j=k
       .subst e;simp
       .rw[ah ac,ah e];rfl
      .simp only[hj1,li,zgn,wW];rw[ah (by rintro rfl;exact hj1 hk1)]
    .simp only[hk1,li,zgn,tq,hb0];by_cases hj0:j=0
     .subst hj0;simp[wW];omega
     .simp only[hj0,li,zgn];by_cases hj1:Nat.mod j 2=1
      .simp only[hj1,pN,qH,wW];rw[ah (by rintro rfl;exact hk1 hj1)]
      .simp only[hj1,li,zgn];rw[ih _ _ _ (by rw[hd,hs];omega)];rw[hd,hd,hs,hs];rw[hm]at hk1 hj1;by_cases e:j=k
       .subst e;simp
       .rw[ah ac,ah e];rfl
  |n u l r=>
   simp only[];by_cases hk0:k=0
   .subst hk0;simp only[hb0,pN,qH,tq];by_cases hj:j=0<;>simp[hj]
   .simp only[hb0,hk0,li,zgn];by_cases hk1:Nat.mod k 2=1
    .simp only[hk1,pN,qH,tq,hb0];by_cases hj0:j=0
     .subst hj0;simp;omega
     .simp only[hj0,li,zgn];by_cases hj1:Nat.mod j 2=1
      .simp only[hj1,pN,qH];rw[ih _ _ _ (by rw[hd];omega)];rw[hm]at hk1 hj1;rw[hd,hd];by_cases e:j=k
       .subst e;simp
       .rw[ah ac,ah e]
      .simp only[hj1,li,zgn];rw[ah (by rintro rfl;exact hj1 hk1)]
    .simp only[hk1,li,zgn,tq,hb0];by_cases hj0:j=0
     .subst hj0;simp;omega
     .simp only[hj0,li,zgn];by_cases hj1:Nat.mod j 2=1
      .simp only[hj1,pN,qH];rw[ah (by rintro rfl;exact hk1 hj1)]
      .simp only[hj1,li,zgn];rw[ih _ _ _ (by rw[hd,hs];omega)];rw[hm]at hk1 hj1;rw[hd,hd,hs,hs];by_cases e:j=k
       .subst e;simp
       .rw[ah ac,ah e]
theorem T.get_set{α:Type}(t:T α)(k j:Nat)(v:Option α):(t.set k v).get j=if j=k then v else t.get j:=OO v (k+1) t k j ac
def zf:=@T.get_set
theorem Hp.get_set(h:Hp)(r j:Nat)(b:HB):(h.set r b).get j=if j=r then some b else h.get j:=zf _ _ _ _
def bz:=@Hp.get_set
theorem zfU(h:Hp)(r j:Nat):(h.kill r).get j=if j=r then none else h.get j:=zf _ _ _ _
theorem zd1(h:Hp)(j:Nat)(b:HB):(h.alloc b).get j=if j=h.next then some b else h.get j:=zf _ _ _ _
@[simp] theorem zef (h:Hp) (r:Nat) (b:HB):(h.set r b).next=h.next:=rfl
@[simp] theorem zgy (h:Hp) (r:Nat):(h.kill r).next=h.next:=rfl
@[simp] theorem zea (h:Hp) (b:HB):(h.alloc b).next=h.next+1:=rfl
theorem uR(E:aG)(d t:Nat)(v:AV):aG.at (T.set E d (some v)) t=if t=d then v else E.at t:=by
 unfold aG.at;rw[zf];split<;>rfl
theorem TR.put{N:Nat}{G:Gh}{E E':aG}{a:Act}(h:TR N G E a){dst:Option Tmp}{c:AV}{v:Value}(hv:VR G c v)(hp:fD N E dst c=some E'):TR N G E' (a.put dst v):=by
 cases dst with
 |none=>simp[fD]at hp;subst hp;exact h
 |some d=>
  simp only[fD]at hp;split at hp
  .rename_i hd;simp only[aQ]at hp;subst hp;have hd':d<N:=by simpa [iW]using hd
   refine⟨by simp[Act.put,h.size],fun t=>?_⟩;rw[uR];simp only[Act.put];by_cases e:t=d
   .subst e;rw[aE rfl];simpa [Array.getD,h.size,hd']using hv
   .rw[ah e];have:=h.slots t;simpa [jh,tn,Ne.symm e]using this
  .simp at hp
theorem rT{w:World}{b o:Nat}{v:Value}(h:w.cell? ⟨b,o,none⟩=some v):b<w.heap.size:=World.block_lt_of_cell? w ⟨b,o,none⟩ h
theorem R.congr{B:Bs}{H H':Hp}{w:World}{G:Gh}(h:R B H w G)(hn:H'.next=H.next)(hg:∀r,(G.β r).isSome->H'.get r=H.get r):R B H' w G:=by
 have k:∀r p,G.β r=some p->H'.get r=H.get r:=fun r p hr=>hg r (by simp[hr]);exact{
  base:=h.base
  dom:=fun r p hr=>by rw[hn];exact h.dom r p hr
  lt:=h.lt
  cells:=fun r b o x cs imm tip hr hc=>h.cells r b o x cs imm tip hr kF
  imm:=fun r b o x cs imm tip hr hc=>h.imm r b o x cs imm tip hr kF
  ext:=fun r b o x cs imm tip hr hc=>h.ext r b o x cs imm tip hr kF
  fits:=fun r b o x cs imm tip hr hc=>h.fits r b o x cs imm tip hr kF
  room:=fun r b o x cs imm tip hr hc=>h.room r b o x cs imm tip hr kF
  apart:=fun r b o x cs imm tip r' b' o' x' cs' imm' tip' hr hc hr' hc'=>h.apart r b o x cs imm tip r' b' o' x' cs' imm' tip' hr kF hr' (by rw[<-k r' _ hr'];exact hc')
  map:=fun r b o x es hr hc=>h.map r b o x es hr kF
  mapApart:=fun r b o x es r' b' o' x' hr hc hr' hs=>h.mapApart r b o x es r' b' o' x' hr kF hr' (by rw[<-k r' _ hr'];exact hs)
  frz:=h.frz
  val:=h.val
  sym:=h.sym}
theorem R.kill{B:Bs}{H:Hp}{w:World}{G:Gh}(h:R B H w G)(zee:Nat):R B (H.kill zee) w G:=by
 have k:∀j b,(H.kill zee).get j=some b->H.get j=some b:=fun j b hj=>by
  rw[zfU]at hj;split at hj
  .simp at hj
  .exact hj
 exact{
  base:=h.base
  dom:=h.dom
  lt:=h.lt
  cells:=fun r b o x cs imm tip hr hc=>h.cells r b o x cs imm tip hr (k _ _ hc)
  imm:=fun r b o x cs imm tip hr hc=>h.imm r b o x cs imm tip hr (k _ _ hc)
  ext:=fun r b o x cs imm tip hr hc=>h.ext r b o x cs imm tip hr (k _ _ hc)
  fits:=fun r b o x cs imm tip hr hc=>h.fits r b o x cs imm tip hr (k _ _ hc)
  room:=fun r b o x cs imm tip hr hc=>h.room r b o x cs imm tip hr (k _ _ hc)
  apart:=fun r b o x cs imm tip r' b' o' x' cs' imm' tip' hr hc hr' hc'=>h.apart r b o x cs imm tip r' b' o' x' cs' imm' tip' hr (k _ _ hc) hr' (k _ _ hc')
  map:=fun r b o x es hr hc=>h.map r b o x es hr (k _ _ hc)
  mapApart:=fun r b o x es r' b' o' x' hr hc hr' hs=>h.mapApart r b o x es r' b' o' x' hr (k _ _ hc) hr' (by
   cases hh:(H.kill zee).get r' with
   |none=>simp[hh]at hs
   |some b=>rw[k _ _ hh];rfl)
  frz:=h.frz
  val:=h.val
  sym:=h.sym}
def Gh.add(G:Gh)(r:Nat)(p:Nat×Nat×Nat):Gh:={β:=fun k=>if k=r then some p else G.β k,F:=G.F,ρ:=G.ρ}
theorem zgD(G:Gh)(r:Nat)(p:Nat×Nat×Nat):(G.add r p).β r=some p:=by simp[Gh.add]
theorem Cl{G:Gh}{r:Nat}{p:Nat×Nat×Nat}(h:∀q,G.β r=some q->False):Ext G (G.add r p):=
 ⟨fun k q hk=>by
  simp only[Gh.add];split
  .rename_i e;subst e;exact(h q hk).elim
  .exact hk,fun _ _ _ h=>h,rfl⟩
theorem iX.mono{G G':Gh}{w:World}{b o:Nat}{cs:List AV}(e:Ext G G')(h:iX G w b o cs):iX G' w b o cs:=
 fun j c hj=>let ⟨v,h1,h2⟩:=h j c hj;⟨v,h1,h2.mono e⟩
theorem qF.mono{G G':Gh}{es:List (AV×AV)}{ms:List MapEntry}(e:Ext G G')(h:qF G es ms):qF G' es ms:=
 ⟨h.1,fun i a b ha hb=>⟨(h.2 i a b ha hb).1.mono e,(h.2 i a b ha hb).2.mono e⟩⟩
theorem Gx{B:Bs}{nx zee:Nat}{X:Hp}{w:World}{G:Gh}(h:R B X w G){cs:List AV}{vs:List Value}(hno:∀q,G.β zee=some q->False)(hlt0:zee<X.next)(hgetn:X.get zee=some (.cells cs 0 true))(hnx:nx<=zee)
 (hv:cr G cs vs) (spare:List Value) (e:TypeId) :
 Step B nx G w X (w.alloc (.cells (vs++spare).toArray e)) (G.add zee (w.heap.size,0,vs.length+spare.length)):=by
 have hext:Ext G (G.add zee (w.heap.size,0,vs.length+spare.length)):=Cl hno;have hold:∀k b' o',k<w.heap.size->b'=k->(w.alloc (.cells (vs++spare).toArray e)).cell? ⟨b',o',none⟩=w.cell? ⟨b',o',none⟩:=fun k b' o' hk hb=>World.cell?_alloc_lt _ _ _ (by simpa [hb]using hk);have hnew:∀j,(w.alloc (.cells (vs++spare).toArray e)).cell? ⟨w.heap.size,j,none⟩=(vs++spare)[j]?:=fun j=>by
  rw[World.cell?_alloc_new];simp
 have hβ:∀r p,(G.add zee (w.heap.size,0,vs.length+spare.length)).β r=some p->(r=zee/\p=(w.heap.size,0,vs.length+spare.length))\/(r≠zee/\G.β r=some p):=fun r p hr=>by
  simp only[Gh.add]at hr;split at hr
  .rename_i e;exact .inl ⟨e,by simpa using hr.symm⟩
  .rename_i e;exact .inr ⟨e,hr⟩
 refine⟨?_,hext,⟨rfl,rfl,rfl,aK,fun k hk _=>?_⟩,fun r b o x hr=>?_,fun r p hr=>(hβ r p hr).elim (fun e=>.inr (by rw[e.1];exact hnx)) (fun e=>.inl e.2),ac,fun _ _ _ h=>.inl h⟩
 .exact{
   base:=by have:=h.base;simp;omega
   dom:=fun r p hr=>by
    rcases hβ r p hr with⟨rfl,_⟩|⟨_,hr'⟩
    .exact hlt0
    .exact h.dom r p hr'
   lt:=fun r b o x hr=>by
    rcases hβ r _ hr with⟨rfl,hp⟩|⟨_,hr'⟩
    .simp only[gZ]at hp;obtain⟨rfl,rfl,rfl⟩:=hp;exact⟨h.base,aK⟩
    .have:=h.lt r b o x hr';exact⟨this.1,cT⟩
   cells:=fun r b o x cs' imm tip hr hc=>by
    rcases hβ r _ hr with⟨rfl,hp⟩|⟨hne,hr'⟩
    .simp only[gZ]at hp;obtain⟨rfl,rfl,rfl⟩:=hp;rw[hgetn]at hc;simp only[aQ,HB.cells.injEq]at hc;obtain⟨rfl,rfl,rfl⟩:=hc;intro j c hj;have hjl:j<cs.length:=(eS.1 hj).1;have hjv:j<vs.length:=by have:=hv.1;omega
     refine⟨vs[j],?_,(hv.2 j c _ hj (br hjv)).mono hext⟩;rw[bT,hnew,kG hjv,br hjv]
    .intro j c hj;obtain⟨v,h1,h2⟩:=h.cells r b o x cs' imm tip hr' hc j c hj;exact⟨v,y5,h2.mono hext⟩
   imm:=fun r b o x cs' imm tip hr hc j hj hjl=>by
    rcases hβ r _ hr with⟨rfl,hp⟩|⟨hne,hr'⟩
    .rw[hgetn]at hc;simp only[aQ,HB.cells.injEq]at hc;obtain⟨rfl,rfl,rfl⟩:=hc;omega
    .exact h.imm r b o x cs' imm tip hr' hc j hj hjl
   ext:=fun r b o x cs' imm tip hr hc=>by
    rcases hβ r _ hr with⟨rfl,hp⟩|⟨hne,hr'⟩
    .simp only[gZ]at hp;obtain⟨rfl,rfl,rfl⟩:=hp;rw[hgetn]at hc;simp only[aQ,HB.cells.injEq]at hc;obtain⟨rfl,rfl,rfl⟩:=hc;have:=hv.1;simp only[zfu];omega
    .exact h.ext r b o x cs' imm tip hr' hc
   fits:=fun r b o x cs' imm tip hr hc=>by
    rcases hβ r _ hr with⟨rfl,hp⟩|⟨hne,hr'⟩
    .simp only[gZ]at hp;obtain⟨rfl,rfl,rfl⟩:=hp;rw[hgetn]at hc;simp only[aQ,HB.cells.injEq]at hc;obtain⟨rfl,rfl,rfl⟩:=hc;have:=hv.1;omega
    .exact h.fits r b o x cs' imm tip hr' hc
   room:=fun r b o x cs' imm tip hr hc j hj hjl=>by
    rcases hβ r _ hr with⟨rfl,hp⟩|⟨hne,hr'⟩
    .simp only[gZ]at hp;obtain⟨rfl,rfl,rfl⟩:=hp;rw[hgetn]at hc;simp only[aQ,HB.cells.injEq]at hc;obtain⟨rfl,rfl,rfl⟩:=hc;simp only[zfu]at hjl;refine⟨⟨(vs++spare)[j]' cT,?_⟩,?_,?_⟩
     .rw[bT,hnew,br]
     .simp
     .cases hf:G.F w.heap.size (0+j)with
      |none=>exact hf
      |some v=>have:=rT (h.frz _ _ _ hf);omega
    .obtain⟨⟨v,h1⟩,h2,h3⟩:=h.room r b o x cs' imm tip hr' hc j hj hjl;exact⟨⟨v,y5⟩,Gv,h3⟩
   apart:=fun r b o x cs1 imm tip r' b' o' x' cs2 imm' tip' hr hc hr' hc' hne j j' hj hjl hj' hjl' he=>by
    rcases hβ r _ hr with⟨rfl,hp⟩|⟨hn1,hr1⟩
    .simp only[gZ]at hp;obtain⟨rfl,rfl,rfl⟩:=hp;rcases hβ r' _ hr' with⟨rfl,hp⟩|⟨hn2,hr2⟩
     .exact(hne rfl).elim
     .have:=(h.lt r' b' o' x' hr2).2;omega
    .rcases hβ r' _ hr' with⟨rfl,hp⟩|⟨hn2,hr2⟩
     .simp only[gZ]at hp;obtain⟨rfl,rfl,rfl⟩:=hp;have:=(h.lt r b o x hr1).2;omega
     .exact h.apart r b o x cs1 imm tip r' b' o' x' cs2 imm' tip' hr1 hc hr2 hc' hne j j' hj hjl hj' hjl' he
   map:=fun r b o x es hr hc=>by
    rcases hβ r _ hr with⟨rfl,hp⟩|⟨hne,hr'⟩
    .rw[hgetn]at hc;simp at hc
    .obtain⟨ms,clock,h1,h2⟩:=h.map r b o x es hr' hc;refine⟨ms,clock,?_,h2.mono hext⟩;rw[zb _ _ _ (h.lt r b o x hr').2];exact h1
   mapApart:=fun r b o x es r' b' o' x' hr hc hr' hs hne=>by
    rcases hβ r _ hr with⟨rfl,hp⟩|⟨hn1,hr1⟩
    .rw[hgetn]at hc;simp at hc
    .rcases hβ r' _ hr' with⟨rfl,hp⟩|⟨hn2,hr2⟩
     .simp only[gZ]at hp;obtain⟨rfl,rfl,rfl⟩:=hp;have:=(h.lt r b o x hr1).2;omega
     .exact h.mapApart r b o x es r' b' o' x' hr1 hc hr2 hs hne
   frz:=fun b o v hf=>by
    have:=h.frz b o v hf;rw[hold _ _ _ (rT this) rfl];exact this
   val:=h.val
   sym:=h.sym}
 .exact zb _ _ _ hk
 .rcases hβ r _ hr with⟨rfl,hp⟩|⟨_,hr'⟩
  .simp only[gZ]at hp;obtain⟨rfl,rfl,rfl⟩:=hp;exact .inr (.inl (aM _))
  .exact .inl hr'
theorem Gy{B:Bs}{nx zee:Nat}{X:Hp}{w:World}{G:Gh}(h:R B X w G)(hno:∀q,G.β zee=some q->False)(hlt0:zee<X.next)(hgetn:X.get zee=some (.map []))(hnx:nx<=zee):
 Step B nx G w X (w.alloc (.map #[] 0)) (G.add zee (w.heap.size,0,0)):=by
 have hext:Ext G (G.add zee (w.heap.size,0,0)):=Cl hno;have hold:∀k b' o',k<w.heap.size->b'=k->(w.alloc (.map #[] 0)).cell? ⟨b',o',none⟩=w.cell? ⟨b',o',none⟩:=fun k b' o' hk hb=>World.cell?_alloc_lt _ _ _ (by simpa [hb]using hk);have hβ:∀r p,(G.add zee (w.heap.size,0,0)).β r=some p->(r=zee/\p=(w.heap.size,0,0))\/(r≠zee/\G.β r=some p):=fun r p hr=>by
  simp only[Gh.add]at hr;split at hr
  .rename_i e;exact .inl ⟨e,by simpa using hr.symm⟩
  .rename_i e;exact .inr ⟨e,hr⟩
 refine⟨?_,hext,⟨rfl,rfl,rfl,aK,fun k hk _=>?_⟩,fun r b o x hr=>?_,fun r p hr=>(hβ r p hr).elim (fun e=>.inr (by rw[e.1];exact hnx)) (fun e=>.inl e.2),ac,fun _ _ _ h=>.inl h⟩
 .exact{
   base:=by have:=h.base;simp;omega
   dom:=fun r p hr=>by
    rcases hβ r p hr with⟨rfl,_⟩|⟨_,hr'⟩
    .exact hlt0
    .exact h.dom r p hr'
   lt:=fun r b o x hr=>by
    rcases hβ r _ hr with⟨rfl,hp⟩|⟨_,hr'⟩
    .simp only[gZ]at hp;obtain⟨rfl,rfl,rfl⟩:=hp;exact⟨h.base,aK⟩
    .have:=h.lt r b o x hr';exact⟨this.1,cT⟩
   cells:=fun r b o x cs' imm tip hr hc=>by
    rcases hβ r _ hr with⟨rfl,hp⟩|⟨hne,hr'⟩
    .rw[hgetn]at hc;simp at hc
    .intro j c hj;obtain⟨v,h1,h2⟩:=h.cells r b o x cs' imm tip hr' hc j c hj;exact⟨v,y5,h2.mono hext⟩
   imm:=fun r b o x cs' imm tip hr hc j hj hjl=>by
    rcases hβ r _ hr with⟨rfl,hp⟩|⟨hne,hr'⟩
    .rw[hgetn]at hc;simp at hc
    .exact h.imm r b o x cs' imm tip hr' hc j hj hjl
   ext:=fun r b o x cs' imm tip hr hc=>by
    rcases hβ r _ hr with⟨rfl,hp⟩|⟨hne,hr'⟩
    .rw[hgetn]at hc;simp at hc
    .exact h.ext r b o x cs' imm tip hr' hc
   fits:=fun r b o x cs' imm tip hr hc=>by
    rcases hβ r _ hr with⟨rfl,hp⟩|⟨hne,hr'⟩
    .rw[hgetn]at hc;simp at hc
    .exact h.fits r b o x cs' imm tip hr' hc
   room:=fun r b o x cs' imm tip hr hc j hj hjl=>by
    rcases hβ r _ hr with⟨rfl,hp⟩|⟨hne,hr'⟩
    .rw[hgetn]at hc;simp at hc
    .obtain⟨⟨v,h1⟩,h2,h3⟩:=h.room r b o x cs' imm tip hr' hc j hj hjl;exact⟨⟨v,y5⟩,Gv,h3⟩
   apart:=fun r b o x cs1 imm tip r' b' o' x' cs2 imm' tip' hr hc hr' hc' hne j j' hj hjl hj' hjl' he=>by
    rcases hβ r _ hr with⟨rfl,hp⟩|⟨hn1,hr1⟩
    .rw[hgetn]at hc;simp at hc
    .rcases hβ r' _ hr' with⟨rfl,hp⟩|⟨hn2,hr2⟩
     .rw[hgetn]at hc';simp at hc'
     .exact h.apart r b o x cs1 imm tip r' b' o' x' cs2 imm' tip' hr1 hc hr2 hc' hne j j' hj hjl hj' hjl' he
   map:=fun r b o x es hr hc=>by
    rcases hβ r _ hr with⟨rfl,hp⟩|⟨hne,hr'⟩
    .simp only[gZ]at hp;obtain⟨rfl,rfl,rfl⟩:=hp;rw[hgetn]at hc;simp only[aQ,HB.map.injEq]at hc;subst hc;exact⟨#[],0,by show(w.heap.push _)[w.heap.size]?=_;simp,rfl,aK⟩
    .obtain⟨ms,clock,h1,h2⟩:=h.map r b o x es hr' hc;refine⟨ms,clock,?_,h2.mono hext⟩;rw[zb _ _ _ (h.lt r b o x hr').2];exact h1
   mapApart:=fun r b o x es r' b' o' x' hr hc hr' hs hne=>by
    rcases hβ r _ hr with⟨rfl,hp⟩|⟨hn1,hr1⟩
    .simp only[gZ]at hp;obtain⟨rfl,rfl,rfl⟩:=hp;rcases hβ r' _ hr' with⟨rfl,hp⟩|⟨hn2,hr2⟩
     .exact(hne rfl).elim
     .have:=(h.lt r' b' o' x' hr2).2;omega
    .rcases hβ r' _ hr' with⟨rfl,hp⟩|⟨hn2,hr2⟩
     .simp only[gZ]at hp;obtain⟨rfl,rfl,rfl⟩:=hp;have:=(h.lt r b o x hr1).2;omega
     .exact h.mapApart r b o x es r' b' o' x' hr1 hc hr2 hs hne
   frz:=fun b o v hf=>by
    have:=h.frz b o v hf;rw[hold _ _ _ (rT this) rfl];exact this
   val:=h.val
   sym:=h.sym}
 .exact zb _ _ _ hk
 .rcases hβ r _ hr with⟨rfl,hp⟩|⟨_,hr'⟩
  .simp only[gZ]at hp;obtain⟨rfl,rfl,rfl⟩:=hp;exact .inr (.inl (aM _))
  .exact .inl hr'
theorem R.more{B:Bs}{H X:Hp}{w:World}{G:Gh}(h:R B H w G)(hn:H.next<=X.next)(hg:∀r,r<H.next->X.get r=H.get r):R B X w G:=by
 have k:∀r p,G.β r=some p->X.get r=H.get r:=fun r p hr=>hg r (h.dom r p hr);exact{
  base:=h.base
  dom:=fun r p hr=>qE (h.dom r p hr) hn
  lt:=h.lt
  cells:=fun r b o x cs imm tip hr hc=>h.cells r b o x cs imm tip hr kF
  imm:=fun r b o x cs imm tip hr hc=>h.imm r b o x cs imm tip hr kF
  ext:=fun r b o x cs imm tip hr hc=>h.ext r b o x cs imm tip hr kF
  fits:=fun r b o x cs imm tip hr hc=>h.fits r b o x cs imm tip hr kF
  room:=fun r b o x cs imm tip hr hc=>h.room r b o x cs imm tip hr kF
  apart:=fun r b o x cs imm tip r' b' o' x' cs' imm' tip' hr hc hr' hc'=>h.apart r b o x cs imm tip r' b' o' x' cs' imm' tip' hr kF hr' (by rw[<-k r' _ hr'];exact hc')
  map:=fun r b o x es hr hc=>h.map r b o x es hr kF
  mapApart:=fun r b o x es r' b' o' x' hr hc hr' hs=>h.mapApart r b o x es r' b' o' x' hr kF hr' (by rw[<-k r' _ hr'];exact hs)
  frz:=h.frz
  val:=h.val
  sym:=h.sym}
theorem R.alloc{B:Bs}{H:Hp}{w:World}{G:Gh}(h:R B H w G)(blk:HB):R B (H.alloc blk) w G:=
 h.more (cZ _) (fun r hr=>ez)
theorem zg{B:Bs}{H:Hp}{w:World}{G:Gh}(h:R B H w G){cs:List AV}{vs:List Value}(hv:cr G cs vs)(spare:List Value)(e:TypeId):
 Step B H.next G w (H.alloc (.cells cs 0 true)) (w.alloc (.cells (vs++spare).toArray e)) (G.add H.next (w.heap.size,0,vs.length+spare.length)):=
 Gx (h.alloc _) (fun q hq=>y9) aK eR (aM _) hv spare e
theorem OP{B:Bs}{H:Hp}{w:World}{G:Gh}(h:R B H w G):
 Step B H.next G w (H.alloc (.map [])) (w.alloc (.map #[] 0)) (G.add H.next (w.heap.size,0,0)):=
 Gy (h.alloc _) (fun q hq=>y9) aK eR (aM _)
inductive Made (G:Gh):HB->Obj->Nat->Prop
 |cells (cs:List AV) (vs spare:List Value) (e:TypeId) (hv:cr G cs vs):Made G (.cells cs 0 true) (.cells (vs++spare).toArray e) (vs.length+spare.length)
 |map:Made G (.map []) (.map #[] 0) 0
theorem Gz{B:Bs}{nx zee:Nat}{X:Hp}{w:World}{G:Gh}{blk:HB}{obj:Obj}{ext:Nat}(h:R B X w G)(hno:∀q,G.β zee=some q->False)(hlt0:zee<X.next)(hg:X.get zee=some blk)(hnx:nx<=zee)(hm:Made G blk obj ext):
 Step B nx G w X (w.alloc obj) (G.add zee (w.heap.size,0,ext)):=by
 cases hm with
 |cells cs vs spare e hv=>exact Gx h hno hlt0 hg hnx hv spare e
 |map=>exact Gy h hno hlt0 hg hnx
def oM(P:Program)(G:Gh)(w:World){α:Type}(s:Sem α)(f:Value->α)(c:AV)(H H':Hp):Prop:=
 ∃blk obj ext v,H'=H.alloc blk/\s.run P w=.ok (f v) (w.alloc obj)/\Made G blk obj ext/\∀G':Gh,G'.β H.next=some (w.heap.size,0,ext)->VR G' c v
theorem oM.sim{P:Program}{B:Bs}{H H':Hp}{w:World}{G:Gh}(h:R B H w G){s:Sem Value}{c:AV}(hm:oM P G w s id c H H'):∃v w' G',s.run P w=.ok v w'/\VR G' c v/\Step B H.next G w H' w' G':=by
 obtain⟨blk,obj,ext,v,rfl,h1,h2,h3⟩:=hm;exact⟨v,_,_,h1,h3 _ (zgD _ _ _),Gz (h.alloc _) (fun q hq=>y9) aK eR (aM _) h2⟩
theorem oM.next{P:Program}{H H':Hp}{w:World}{G:Gh}{s:Sem Value}{c:AV}(hm:oM P G w s id c H H'):oM P G w (do pure (.value (<-s)):Sem Next) Next.value c H H':=by
 obtain⟨blk,obj,ext,v,h0,h1,h2,h3⟩:=hm;exact⟨blk,obj,ext,v,h0,by simp[h1],h2,h3⟩
theorem OQ{b o b' o':Nat}(h:b=b'->o≠o'):(⟨b,o,none⟩:Addr)≠⟨b',o',none⟩:=fun e=>by
 simp only[Addr.mk.injEq]at e;exact h e.1 e.2.1
theorem OR{B:Bs}{H:Hp}{w:World}{G:Gh}(h:R B H w G){r b o x:Nat}{cs cs':List AV}{imm:Nat}{tip:Bool}(hr:G.β r=some (b,o,x))(hc:H.get r=some (.cells cs imm tip))
 {j:Nat} (hj:imm<=j) (hjl:j<zfu x cs tip) {v:Value}
 (hcs:∀(i:Nat) c,cs'[i]?=some c->(i=j/\VR G c v)\/(i≠j/\cs[i]?=some c)) (hl:cs'.length<=zfu x cs tip) (hl':tip=false->cs'.length=cs.length) :
 Step B H.next G w (H.set r (.cells cs' imm tip)) (w.setCell ⟨b,o+j,none⟩ v) G:=by
 obtain⟨⟨u,hu⟩,hfz,hF⟩:=h.room r b o x cs imm tip hr hc j hj hjl;have hsame:(w.setCell ⟨b,o+j,none⟩ v).cell? ⟨b,o+j,none⟩=some v:=World.cell?_setCell_same _ _ _ hu;have hother:∀b' o',(b'=b->o'≠o+j)->(w.setCell ⟨b,o+j,none⟩ v).cell? ⟨b',o',none⟩=w.cell? ⟨b',o',none⟩:=fun b' o' hne=>
  World.cell?_setCell_other _ _ _ _ (OQ fun e e'=>hne e.symm e'.symm)
 have hreach:zfu x cs' tip=zfu x cs tip:=by
  cases tip with
  |true=>rfl
  |false=>exact hl' rfl
 have hget:∀k,k≠r->(H.set r (.cells cs' imm tip)).get k=H.get k:=fun k hk=>jg;have hgetr:(H.set r (.cells cs' imm tip)).get r=some (.cells cs' imm tip):=ft;have hkeep:∀b' o' v',G.F b' o'=some v'->(b'=b->o'≠o+j):=fun b' o' v' hf e e'=>by subst e;subst e';rw[hF]at hf;simp at hf
 have hcell:∀b' o',(∃v',w.cell? ⟨b',o',none⟩=some v')->∃v',(w.setCell ⟨b,o+j,none⟩ v).cell? ⟨b',o',none⟩=some v':=fun b' o' ⟨v',hv'⟩=>by
  by_cases e:b'=b/\o'=o+j
  .obtain⟨rfl,rfl⟩:=e;exact⟨v,hsame⟩
  .exact⟨v',by rw[hother b' o' (fun e1 e2=>e ⟨e1,e2⟩)];exact hv'⟩
 refine⟨?_,uQ _,⟨rfl,rfl,rfl,aK,fun k hk hn=>?_⟩,tp _ _,fun _ _ h=>.inl h,aM _,fun _ _ _ h=>.inl h⟩
 .exact{
   base:=by have:=h.base;simpa using this
   dom:=h.dom
   lt:=fun r b o x hr=>by have:=h.lt r b o x hr;simpa using this
   cells:=fun r1 b1 o1 x1 cs1 imm1 tip1 hr1 hc1=>by
    by_cases e:r1=r
    .subst e;rw[hr]at hr1;simp only[di]at hr1;obtain⟨rfl,rfl,rfl⟩:=hr1;rw[hgetr]at hc1;simp only[aQ,HB.cells.injEq]at hc1;obtain⟨rfl,rfl,rfl⟩:=hc1;intro i c hi;rcases hcs i c hi with⟨rfl,hv⟩|⟨hne,hi'⟩
     .exact⟨v,hsame,hv⟩
     .obtain⟨v',h1,h2⟩:=h.cells r1 b o x cs imm tip hr hc i c hi';exact⟨v',by rw[hother _ _ (fun _=>ac)];exact h1,h2⟩
    .rw[hget r1 e]at hc1;intro i c hi;obtain⟨v',h1,h2⟩:=h.cells r1 b1 o1 x1 cs1 imm1 tip1 hr1 hc1 i c hi;refine⟨v',?_,h2⟩;rw[hother]
     .exact h1
     .have hil:i<cs1.length:=(eS.1 hi).1;have hex:=h.ext r1 b1 o1 x1 cs1 imm1 tip1 hr1 hc1;by_cases hi1:imm1<=i
      .exact h.apart r1 b1 o1 x1 cs1 imm1 tip1 r b o x cs imm tip hr1 hc1 hr hc e i j hi1 ac hj hjl
      .obtain⟨u',hu'⟩:=h.imm r1 b1 o1 x1 cs1 imm1 tip1 hr1 hc1 i ac hil;exact hkeep _ _ _ hu'
   imm:=fun r1 b1 o1 x1 cs1 imm1 tip1 hr1 hc1 i hi hil=>by
    by_cases e:r1=r
    .subst e;rw[hr]at hr1;simp only[di]at hr1;obtain⟨rfl,rfl,rfl⟩:=hr1;rw[hgetr]at hc1;simp only[aQ,HB.cells.injEq]at hc1;obtain⟨rfl,rfl,rfl⟩:=hc1;rcases hcs i _ (br hil)with⟨rfl,_⟩|⟨_,hi'⟩
     .omega
     .exact h.imm r1 b o x cs imm tip hr hc i hi (eS.1 hi').1
    .rw[hget r1 e]at hc1;exact h.imm r1 b1 o1 x1 cs1 imm1 tip1 hr1 hc1 i hi hil
   ext:=fun r1 b1 o1 x1 cs1 imm1 tip1 hr1 hc1=>by
    by_cases e:r1=r
    .subst e;rw[hr]at hr1;simp only[di]at hr1;obtain⟨rfl,rfl,rfl⟩:=hr1;rw[hgetr]at hc1;simp only[aQ,HB.cells.injEq]at hc1;obtain⟨rfl,rfl,rfl⟩:=hc1;rw[hreach];exact hl
    .rw[hget r1 e]at hc1;exact h.ext r1 b1 o1 x1 cs1 imm1 tip1 hr1 hc1
   fits:=fun r1 b1 o1 x1 cs1 imm1 tip1 hr1 hc1=>by
    by_cases e:r1=r
    .subst e;rw[hr]at hr1;simp only[di]at hr1;obtain⟨rfl,rfl,rfl⟩:=hr1;rw[hgetr]at hc1;simp only[aQ,HB.cells.injEq]at hc1;obtain⟨rfl,rfl,rfl⟩:=hc1;rcases Bool.eq_false_or_eq_true tip with e1|e1
     .subst e1;exact hl
     .rw[hl' e1];exact h.fits _ _ _ _ _ _ _ hr hc
    .rw[hget r1 e]at hc1;exact h.fits r1 b1 o1 x1 cs1 imm1 tip1 hr1 hc1
   room:=fun r1 b1 o1 x1 cs1 imm1 tip1 hr1 hc1 i hi hil=>by
    by_cases e:r1=r
    .subst e;rw[hr]at hr1;simp only[di]at hr1;obtain⟨rfl,rfl,rfl⟩:=hr1;rw[hgetr]at hc1;simp only[aQ,HB.cells.injEq]at hc1;obtain⟨rfl,rfl,rfl⟩:=hc1;rw[hreach]at hil;obtain⟨h1,h2,h3⟩:=h.room r1 b o x cs imm tip hr hc i hi hil;exact⟨hcell _ _ h1,by rw[World.frozen?_setCell];exact h2,h3⟩
    .rw[hget r1 e]at hc1;obtain⟨h1,h2,h3⟩:=h.room r1 b1 o1 x1 cs1 imm1 tip1 hr1 hc1 i hi hil;exact⟨hcell _ _ h1,by rw[World.frozen?_setCell];exact h2,h3⟩
   apart:=fun r1 b1 o1 x1 cs1 imm1 tip1 r2 b2 o2 x2 cs2 imm2 tip2 hr1 hc1 hr2 hc2 hne i i' hi hil hi' hil'=>by
    have key:∀k bk ok xk csk immk tipk,G.β k=some (bk,ok,xk)->(H.set r (.cells cs' imm tip)).get k=some (.cells csk immk tipk) ->
     ∃cs0,H.get k=some (.cells cs0 immk tipk)/\zfu xk cs0 tipk=zfu xk csk tipk:=fun k bk ok xk csk immk tipk hk hck=>by
     by_cases e:k=r
     .subst e;rw[hr]at hk;simp only[di]at hk;obtain⟨rfl,rfl,rfl⟩:=hk;rw[hgetr]at hck;simp only[aQ,HB.cells.injEq]at hck;obtain⟨rfl,rfl,rfl⟩:=hck;exact⟨cs,hc,hreach.symm⟩
     .rw[hget k e]at hck;exact⟨csk,hck,rfl⟩
    obtain⟨c1,g1,e1⟩:=key r1 b1 o1 x1 cs1 imm1 tip1 hr1 hc1;obtain⟨c2,g2,e2⟩:=key r2 b2 o2 x2 cs2 imm2 tip2 hr2 hc2;exact h.apart r1 b1 o1 x1 c1 imm1 tip1 r2 b2 o2 x2 c2 imm2 tip2 hr1 g1 hr2 g2 hne i i' hi ac hi' ac
   map:=fun r1 b1 o1 x1 es hr1 hc1=>by
    by_cases e:r1=r
    .subst e;rw[hgetr]at hc1;simp at hc1
    .rw[hget r1 e]at hc1;obtain⟨ms,clock,h1,h2⟩:=h.map r1 b1 o1 x1 es hr1 hc1;refine⟨ms,clock,?_,h2⟩;have hb:b1≠b:=fun eb=>by
      subst eb;unfold World.cell? at hu;rw[h1]at hu;simp at hu
     rw[Below.heap_setCell _ _ _ _ hb];exact h1
   mapApart:=fun r1 b1 o1 x1 es r2 b2 o2 x2 hr1 hc1 hr2 hs hne=>by
    by_cases e:r1=r
    .subst e;rw[hgetr]at hc1;simp at hc1
    .rw[hget r1 e]at hc1;refine h.mapApart r1 b1 o1 x1 es r2 b2 o2 x2 hr1 hc1 hr2 ?_ hne;by_cases e2:r2=r
     .subst e2;rw[hc];rfl
     .rw[hget r2 e2]at hs;exact hs
   frz:=fun b' o' v' hf=>by rw[hother _ _ (hkeep _ _ _ hf)];exact h.frz _ _ _ hf
   val:=h.val
   sym:=h.sym}
 .exact Below.heap_setCell _ _ _ _ (fun e=>hn r b o x hr e.symm)
theorem OS{B:Bs}{H:Hp}{w:World}{G:Gh}(P:Program)(h:R B H w G){r b o x:Nat}{cs:List AV}{imm:Nat}{tip:Bool}(hr:G.β r=some (b,o,x))(hc:H.get r=some (.cells cs imm tip))
 {j:Nat} (hj:imm<=j) (hjl:j<zfu x cs tip) {v:Value} (hone:v.oneCell'=true) :
 (store ⟨b,o+j,none⟩ v).run P w=.ok () (w.setCell ⟨b,o+j,none⟩ v):=by
 obtain⟨⟨u,hu⟩,hfz,_⟩:=h.room r b o x cs imm tip hr hc j hj hjl;rw[run_store P w _ v _ hone,hu];simp[hfz]
theorem OT(cs:List AV)(off:Nat)(c:AV)(new:List AV)(h:off<=cs.length):splice cs off (c::new)=splice (splice cs off [c]) (off+1) new:=by
 unfold splice;have h1:(List.take off cs++[c]++List.drop (off+[c].length) cs).take (off+1)=List.take off cs++[c]:=by
  rw[zd cT,iq cT]
 have h2:(List.take off cs++[c]++List.drop (off+[c].length) cs).drop (off+1+new.length)=List.drop (off+(new.length+1)) cs:=by
  rw[List.drop_append,ze cT];simp only[eO,oK,mF,Ci,nH]
  congr 1
  omega
 rw[h1,h2];simp
theorem OU(cs:List AV)(off:Nat):splice cs off []=cs:=by simp[splice]
theorem OV(cs:List AV)(off:Nat)(new:List AV)(h:off+new.length<=cs.length):(splice cs off new).length=cs.length:=by simp[splice];omega
theorem OW(cs:List AV)(off:Nat)(new:List AV)(h:off<=cs.length):(splice cs off new).length=max cs.length (off+new.length):=by simp[splice];omega
theorem GA(cs new:List AV):splice cs cs.length new=cs++new:=by simp[splice]
theorem splice_one{cs:List AV}{j:Nat}(c:AV)(hj:j<=cs.length){i:Nat}{d:AV}(h:(splice cs j [c])[i]?=some d):(i=j/\d=c)\/(i≠j/\cs[i]?=some d):=by
 unfold splice at h;by_cases hi:i<j
 .rw[kH,kG cT,pM,aE hi]at h;exact .inr ⟨ac,h⟩
 .by_cases e:i=j
  .subst e;rw[kH,mB cT]at h;have e0:i-(List.take i cs).length=0:=cT;rw[e0]at h;simp at h;exact .inl ⟨rfl,h.symm⟩
  .rw[mB cT]at h;rw[rS]at h;refine .inr ⟨e,?_⟩;rw[<-h]
   congr 1
   simp;omega
theorem j9(b o i:Nat):(⟨b,o,none⟩:Addr).add i=⟨b,o+i,none⟩:=by
 unfold Addr.add;split
 .rename_i e;subst e;rfl
 .rfl
theorem Step.congr{B:Bs}{nx:Nat}{G G':Gh}{w w':World}{H H':Hp}(h:Step B nx G w H w' G')(hn:H'.next=H.next)(hg:∀r,(G'.β r).isSome->H'.get r=H.get r):Step B nx G w H' w' G':=
 ⟨h.r.congr hn hg,h.ext,h.fr,h.new,h.low,by rw[hn];exact h.mono,h.icy⟩
theorem Cm{B:Bs}(P:Program){G:Gh}{r b o x:Nat}{imm:Nat}{tip:Bool}(hr:G.β r=some (b,o,x))(off:Nat):∀(new:List AV) (vs:List Value) (cs:List AV) (i:Nat) (H:Hp) (w:World),R B H w G ->
 H.get r=some (.cells cs imm tip)->cr G new vs->(∀v∈vs,v.oneCell'=true)->imm<=off+i->off+i<=cs.length->off+i+new.length<=zfu x cs tip->(tip=false->off+i+new.length<=cs.length) ->
 ∃w',(storeCells ⟨b,o+off,none⟩ vs i).run P w=.ok () w'/\Step B H.next G w (H.set r (.cells (splice cs (off+i) new) imm tip)) w' G:=by
 intro new;induction new with
 |nil=>
  intro vs cs i H w hR hc hv hone hi hoff hlen _;have hvs:vs=[]:=by have:=hv.1;simpa using this.symm
  subst hvs;refine⟨w,rfl,(kI hR).congr rfl fun k _=>?_⟩;rw[bz,OU];split
  .rename_i e;subst e;rw[hc]
  .rfl
 |cons c new ih=>
  intro vs cs i H w hR hc hv hone hi hoff hlen hlen';cases vs with
  |nil=>have:=hv.1;simp at this
  |cons v vs=>
   obtain⟨hv1,hvs⟩:=hv.of_cons;simp only[fj]at hlen hlen';have hl1:(splice cs (off+i) [c]).length=max cs.length (off+i+1):=OW _ _ _ hoff;have hext:=hR.ext r b o x cs imm tip hr hc;have hst:=OR hR hr hc (j:=off+i) (cs':=splice cs (off+i) [c]) (v:=v) hi ac
    (fun k d hk=>by
      rcases splice_one c hoff hk with⟨e1,e2⟩|h2
      .subst e2;exact .inl ⟨e1,hv1⟩
      .exact .inr h2)
    (by rw[hl1];cases tip with
        |true=>simp only[zfu]at *;omega
        |false=>have:=hlen' rfl;simp only[zfu]at *;omega)
    (fun ht=>by have:=hlen' ht;rw[hl1];omega)
   have hrun:=OS P hR hr hc (j:=off+i) hi ac (v:=v) (hone v aK);have hg1:(H.set r (.cells (splice cs (off+i) [c]) imm tip)).get r=some (.cells (splice cs (off+i) [c]) imm tip):=ft;have hreach:zfu x (splice cs (off+i) [c]) tip=zfu x cs tip:=by
    cases tip with
    |true=>rfl
    |false=>have:=hlen' rfl;simp only[zfu];omega
   obtain⟨w',hw',hs'⟩:=ih vs (splice cs (off+i) [c]) (i+1) _ _ hst.r hg1 hvs (fun u hu=>hone u (by simp[hu])) ac (by rw[hl1];omega) (by rw[hreach];omega) (fun ht=>by have:=hlen' ht;rw[hl1];omega);refine⟨w',?_,(hst.trans hs').congr rfl fun k _=>?_⟩
   .simp only[storeCells,fk];rw[j9,jJ,hrun];exact hw'
   .rw[bz,bz,bz,OT _ _ _ _ hoff];split
    .rfl
    .rfl
theorem GB{B:Bs}{H:Hp}{w:World}{G:Gh}(h:R B H w G){r b o x:Nat}{cs:List AV}{imm:Nat}(hr:G.β r=some (b,o,x))(hc:H.get r=some (.cells cs imm true)){off:Nat}(hoff:off<=cs.length):
 Step B H.next G w ((H.kill r).alloc (.cells (cs.drop off) (imm-off) true)) w (G.add H.next (b,o+off,x-off)):=by
 have hno:∀q,G.β H.next=some q->False:=fun q hq=>y9
 have hext:Ext G (G.add H.next (b,o+off,x-off)):=Cl hno;have hrn:r≠H.next:=fun e=>by subst e;exact hno _ hr
 have hβ:∀k p,(G.add H.next (b,o+off,x-off)).β k=some p->(k=H.next/\p=(b,o+off,x-off))\/(k≠H.next/\G.β k=some p):=fun k p hk=>by
  simp only[Gh.add]at hk;split at hk
  .rename_i e;exact .inl ⟨e,by simpa using hk.symm⟩
  .rename_i e;exact .inr ⟨e,hk⟩
 have hget:∀k q,k≠H.next->((H.kill r).alloc (.cells (cs.drop off) (imm-off) true)).get k=some q->k≠r/\H.get k=some q:=fun k q hk hq=>by
  rw[zd1,zgy,ah hk,zfU]at hq;split at hq
  .simp at hq
  .rename_i e;exact⟨e,hq⟩
 have hgetn:((H.kill r).alloc (.cells (cs.drop off) (imm-off) true)).get H.next=some (.cells (cs.drop off) (imm-off) true):=by rw[zd1,zgy,aE rfl]
 have hlen:=h.ext r b o x cs imm true hr hc;simp only[zfu]at hlen;refine⟨?_,hext,wU _ _,fun k b' o' x' hk=>?_,fun k p hk=>(hβ k p hk).elim (fun e=>.inr (by rw[e.1];exact aM _)) (fun e=>.inl e.2),aK,fun _ _ _ h=>.inl h⟩
 .exact{
   base:=h.base
   dom:=fun k p hk=>by
    rcases hβ k p hk with⟨rfl,_⟩|⟨_,hk'⟩
    .simp
    .have:=h.dom k p hk';simp;omega
   lt:=fun k b' o' x' hk=>by
    rcases hβ k _ hk with⟨rfl,hp⟩|⟨_,hk'⟩
    .simp only[gZ]at hp;obtain⟨rfl,rfl,rfl⟩:=hp;exact h.lt r _ _ _ hr
    .exact h.lt k b' o' x' hk'
   cells:=fun k b' o' x' cs' imm' tip' hk hck=>by
    rcases hβ k _ hk with⟨rfl,hp⟩|⟨hne,hk'⟩
    .simp only[gZ]at hp;obtain⟨rfl,rfl,rfl⟩:=hp;rw[hgetn]at hck;simp only[aQ,HB.cells.injEq]at hck;obtain⟨rfl,rfl,rfl⟩:=hck;intro j c hj;rw[rS]at hj;obtain⟨v,h1,h2⟩:=h.cells r _ _ _ _ _ _ hr hc (off+j) c hj;exact⟨v,by rw[jJ];exact h1,h2.mono hext⟩
    .obtain⟨_,hck'⟩:=hget k _ hne hck;exact(h.cells k b' o' x' cs' imm' tip' hk' hck').mono hext
   imm:=fun k b' o' x' cs' imm' tip' hk hck j hj hjl=>by
    rcases hβ k _ hk with⟨rfl,hp⟩|⟨hne,hk'⟩
    .simp only[gZ]at hp;obtain⟨rfl,rfl,rfl⟩:=hp;rw[hgetn]at hck;simp only[aQ,HB.cells.injEq]at hck;obtain⟨rfl,rfl,rfl⟩:=hck;rw[mC]at hjl;rw[jJ];exact h.imm r _ _ _ _ _ _ hr hc (off+j) ac ac
    .obtain⟨_,hck'⟩:=hget k _ hne hck;exact h.imm k b' o' x' cs' imm' tip' hk' hck' j hj hjl
   ext:=fun k b' o' x' cs' imm' tip' hk hck=>by
    rcases hβ k _ hk with⟨rfl,hp⟩|⟨hne,hk'⟩
    .simp only[gZ]at hp;obtain⟨rfl,rfl,rfl⟩:=hp;rw[hgetn]at hck;simp only[aQ,HB.cells.injEq]at hck;obtain⟨rfl,rfl,rfl⟩:=hck;simp only[zfu,mC];omega
    .obtain⟨_,hck'⟩:=hget k _ hne hck;exact h.ext k b' o' x' cs' imm' tip' hk' hck'
   fits:=fun k b' o' x' cs' imm' tip' hk hck=>by
    rcases hβ k _ hk with⟨rfl,hp⟩|⟨hne,hk'⟩
    .simp only[gZ]at hp;obtain⟨rfl,rfl,rfl⟩:=hp;rw[hgetn]at hck;simp only[aQ,HB.cells.injEq]at hck;obtain⟨rfl,rfl,rfl⟩:=hck;simp only[mC];omega
    .obtain⟨_,hck'⟩:=hget k _ hne hck;exact h.fits k b' o' x' cs' imm' tip' hk' hck'
   room:=fun k b' o' x' cs' imm' tip' hk hck j hj hjl=>by
    rcases hβ k _ hk with⟨rfl,hp⟩|⟨hne,hk'⟩
    .simp only[gZ]at hp;obtain⟨rfl,rfl,rfl⟩:=hp;rw[hgetn]at hck;simp only[aQ,HB.cells.injEq]at hck;obtain⟨rfl,rfl,rfl⟩:=hck;simp only[zfu]at hjl;rw[jJ];exact h.room r _ _ _ _ _ _ hr hc (off+j) ac wT
    .obtain⟨_,hck'⟩:=hget k _ hne hck;exact h.room k b' o' x' cs' imm' tip' hk' hck' j hj hjl
   apart:=fun k1 b1 o1 x1 cs1 imm1 tip1 k2 b2 o2 x2 cs2 imm2 tip2 hk1 hc1 hk2 hc2 hne j1 j2 hj1 hl1 hj2 hl2 he=>by
    rcases hβ k1 _ hk1 with⟨rfl,hp⟩|⟨hn1,hk1'⟩
    .simp only[gZ]at hp;obtain⟨rfl,rfl,rfl⟩:=hp;rw[hgetn]at hc1;simp only[aQ,HB.cells.injEq]at hc1;obtain⟨rfl,rfl,rfl⟩:=hc1;simp only[zfu]at hl1;rcases hβ k2 _ hk2 with⟨rfl,hp⟩|⟨hn2,hk2'⟩
     .exact(hne rfl).elim
     .obtain⟨hr2,hc2'⟩:=hget k2 _ hn2 hc2;rw[jJ];exact h.apart r _ _ _ _ _ _ k2 b2 o2 x2 cs2 imm2 tip2 hr hc hk2' hc2' (Ne.symm hr2) (off+j1) j2 ac wT hj2 hl2 he
    .obtain⟨hr1,hc1'⟩:=hget k1 _ hn1 hc1;rcases hβ k2 _ hk2 with⟨rfl,hp⟩|⟨hn2,hk2'⟩
     .simp only[gZ]at hp;obtain⟨rfl,rfl,rfl⟩:=hp;rw[hgetn]at hc2;simp only[aQ,HB.cells.injEq]at hc2;obtain⟨rfl,rfl,rfl⟩:=hc2;simp only[zfu]at hl2;rw[jJ];exact h.apart k1 b1 o1 x1 cs1 imm1 tip1 r _ _ _ _ _ _ hk1' hc1' hr hc hr1 j1 (off+j2) hj1 hl1 ac wT he
     .obtain⟨hr2,hc2'⟩:=hget k2 _ hn2 hc2;exact h.apart k1 b1 o1 x1 cs1 imm1 tip1 k2 b2 o2 x2 cs2 imm2 tip2 hk1' hc1' hk2' hc2' hne j1 j2 hj1 hl1 hj2 hl2 he
   map:=fun k b' o' x' es hk hck=>by
    rcases hβ k _ hk with⟨rfl,hp⟩|⟨hne,hk'⟩
    .rw[hgetn]at hck;simp at hck
    .obtain⟨_,hck'⟩:=hget k _ hne hck;obtain⟨ms,clock,h1,h2⟩:=h.map k b' o' x' es hk' hck';exact⟨ms,clock,h1,h2.mono hext⟩
   mapApart:=fun k1 b1 o1 x1 es k2 b2 o2 x2 hk1 hc1 hk2 hs hne=>by
    rcases hβ k1 _ hk1 with⟨rfl,hp⟩|⟨hn1,hk1'⟩
    .rw[hgetn]at hc1;simp at hc1
    .obtain⟨hr1,hc1'⟩:=hget k1 _ hn1 hc1;rcases hβ k2 _ hk2 with⟨rfl,hp⟩|⟨hn2,hk2'⟩
     .simp only[gZ]at hp;obtain⟨rfl,rfl,rfl⟩:=hp;exact h.mapApart k1 b1 o1 x1 es r _ _ _ hk1' hc1' hr (by rw[hc];rfl) hr1
     .cases hh:((H.kill r).alloc (.cells (cs.drop off) (imm-off) true)).get k2 with
      |none=>simp[hh]at hs
      |some q=>
       obtain⟨_,hq⟩:=hget k2 q hn2 hh;exact h.mapApart k1 b1 o1 x1 es k2 b2 o2 x2 hk1' hc1' hk2' (by rw[hq];rfl) hne
   frz:=h.frz
   val:=h.val
   sym:=h.sym}
 .rcases hβ k _ hk with⟨rfl,hp⟩|⟨_,hk'⟩
  .simp only[gZ]at hp;obtain⟨rfl,rfl,rfl⟩:=hp;exact .inr (.inr ⟨r,o,x,hr⟩)
  .exact .inl hk'
def Gh.ice(G:Gh)(w:World)(b o n:Nat):Gh:={β:=G.β,F:=fun b' o'=>match G.F b' o' with
 |some v=>some v
 |none=>if b'=b/\o<=o'/\o'<o+n then w.cell? ⟨b',o',none⟩else none,ρ:=G.ρ}
theorem OX(G:Gh)(w:World)(b o n:Nat):Ext G (G.ice w b o n):=⟨fun _ _ h=>h,fun b' o' v h=>by simp[Gh.ice,h],rfl⟩
theorem wX{B:Bs}{H:Hp}{w:World}{G:Gh}(h:R B H w G){r b o x:Nat}{cs:List AV}{imm:Nat}{tip:Bool}(hr:G.β r=some (b,o,x))(hc:H.get r=some (.cells cs imm tip)){n:Nat}(himm:imm<=n)(hn:n<=cs.length)(tip':Bool)(ht:tip'=true->tip=true):
 Step B H.next G w (H.set r (.cells cs n tip')) w (G.ice w b o n):=by
 have hext:Ext G (G.ice w b o n):=OX _ _ _ _ _;have hget:∀k,k≠r->(H.set r (.cells cs n tip')).get k=H.get k:=fun k hk=>jg;have hgetr:(H.set r (.cells cs n tip')).get r=some (.cells cs n tip'):=ft;have hex:=h.ext r b o x cs imm tip hr hc;have hreach:∀j,n<=j->j<zfu x cs tip'->j<zfu x cs tip:=fun j hj hjl=>by
  cases tip' with
  |true=>rw[ht rfl];exact hjl
  |false=>simp only[zfu]at hjl;omega
 have hF:∀b' o' v,(G.ice w b o n).F b' o'=some v->w.cell? ⟨b',o',none⟩=some v:=fun b' o' v hf=>by
  simp only[Gh.ice]at hf;split at hf
  .rename_i u hu;simp only[aQ]at hf;subst hf;exact h.frz _ _ _ hu
  .split at hf
   .exact hf
   .simp at hf
 have hFin:∀j,j<n->∃v,(G.ice w b o n).F b (o+j)=some v:=fun j hj=>by
  obtain⟨v,h1,_⟩:=h.cells r b o x cs imm tip hr hc j _ (br ac);simp only[Gh.ice];split
  .rename_i u _;exact⟨u,rfl⟩
  .rw[aE ⟨by trivial,ac,ac⟩];exact⟨v,h1⟩
 have hFout:∀b' o',G.F b' o'=none->(b'=b->o'<o\/o+n<=o')->(G.ice w b o n).F b' o'=none:=fun b' o' hf hne=>by
  simp only[Gh.ice,hf];rw[ah];rintro⟨e1,e2,e3⟩;have:=hne e1;omega
 refine⟨?_,hext,wU _ _,tp _ _,fun _ _ h=>.inl h,aM _,fun b' o' v' hv=>?_⟩;rotate_left
 .simp only[Gh.ice]at hv;split at hv
  .rename_i v'' hF';exact .inl (by rw[hF'];exact hv)
  .split at hv
   .rename_i hc';exact .inr (by rw[hc'.1];exact(h.lt r b o x hr).1)
   .simp at hv
 exact{
  base:=h.base
  dom:=h.dom
  lt:=h.lt
  cells:=fun k b' o' x' cs' imm' tip1 hk hck=>by
   by_cases e:k=r
   .subst e;have hk':G.β k=some (b',o',x'):=hk;rw[hr]at hk';simp only[di]at hk';obtain⟨rfl,rfl,rfl⟩:=hk';rw[hgetr]at hck;simp only[aQ,HB.cells.injEq]at hck;obtain⟨rfl,rfl,rfl⟩:=hck;exact(h.cells k _ _ _ _ _ _ hr hc).mono hext
   .rw[hget k e]at hck;exact(h.cells k b' o' x' cs' imm' tip1 hk hck).mono hext
  imm:=fun k b' o' x' cs' imm' tip1 hk hck j hj hjl=>by
   by_cases e:k=r
   .subst e;have hk':G.β k=some (b',o',x'):=hk;rw[hr]at hk';simp only[di]at hk';obtain⟨rfl,rfl,rfl⟩:=hk';rw[hgetr]at hck;simp only[aQ,HB.cells.injEq]at hck;obtain⟨rfl,rfl,rfl⟩:=hck;exact hFin j hj
   .rw[hget k e]at hck;obtain⟨v,hv⟩:=h.imm k b' o' x' cs' imm' tip1 hk hck j hj hjl;exact⟨v,hext.F _ _ _ hv⟩
  ext:=fun k b' o' x' cs' imm' tip1 hk hck=>by
   by_cases e:k=r
   .subst e;have hk':G.β k=some (b',o',x'):=hk;rw[hr]at hk';simp only[di]at hk';obtain⟨rfl,rfl,rfl⟩:=hk';rw[hgetr]at hck;simp only[aQ,HB.cells.injEq]at hck;obtain⟨rfl,rfl,rfl⟩:=hck;cases tip' with
    |true=>rw[ht rfl]at hex;exact hex
    |false=>exact aM _
   .rw[hget k e]at hck;exact h.ext k b' o' x' cs' imm' tip1 hk hck
  fits:=fun k b' o' x' cs' imm' tip1 hk hck=>by
   by_cases e:k=r
   .subst e;have hk':G.β k=some (b',o',x'):=hk;rw[hr]at hk';simp only[di]at hk';obtain⟨rfl,rfl,rfl⟩:=hk';rw[hgetr]at hck;simp only[aQ,HB.cells.injEq]at hck;obtain⟨rfl,rfl,rfl⟩:=hck;exact h.fits _ _ _ _ _ _ _ hr hc
   .rw[hget k e]at hck;exact h.fits k b' o' x' cs' imm' tip1 hk hck
  room:=fun k b' o' x' cs' imm' tip1 hk hck j hj hjl=>by
   by_cases e:k=r
   .subst e;have hk':G.β k=some (b',o',x'):=hk;rw[hr]at hk';simp only[di]at hk';obtain⟨rfl,rfl,rfl⟩:=hk';rw[hgetr]at hck;simp only[aQ,HB.cells.injEq]at hck;obtain⟨rfl,rfl,rfl⟩:=hck;have h1:=hreach j hj hjl;obtain⟨g1,g2,g3⟩:=h.room k _ _ _ _ _ _ hr hc j ac h1;exact⟨g1,g2,hFout _ _ g3 (fun _=>ac)⟩
   .rw[hget k e]at hck;obtain⟨g1,g2,g3⟩:=h.room k b' o' x' cs' imm' tip1 hk hck j hj hjl;refine⟨g1,g2,hFout _ _ g3 (fun eb=>?_)⟩;by_cases hin:o<=o'+j/\o'+j<o+n
    .exfalso;have hj0:o'+j-o<cs.length:=ac;have hj1:o'+j-o<zfu x cs tip:=ac;by_cases hi:imm<=o'+j-o
     .exact h.apart k b' o' x' cs' imm' tip1 r b o x cs imm tip hk hck hr hc e j (o'+j-o) hj hjl hi hj1 eb ac
     .obtain⟨v,hv⟩:=h.imm r b o x cs imm tip hr hc (o'+j-o) ac hj0;rw[show o+(o'+j-o)=o'+j by omega,<-eb,g3]at hv;simp at hv
    .omega
  apart:=fun k1 b1 o1 x1 cs1 imm1 tip1 k2 b2 o2 x2 cs2 imm2 tip2 hk1 hc1 hk2 hc2 hne j1 j2 hj1 hl1 hj2 hl2 he=>by
   have key:∀k bk ok xk csk immk tipk j,G.β k=some (bk,ok,xk)->(H.set r (.cells cs n tip')).get k=some (.cells csk immk tipk)->immk<=j->j<zfu xk csk tipk ->
    ∃cs0 imm0 tip0,H.get k=some (.cells cs0 imm0 tip0)/\imm0<=j/\j<zfu xk cs0 tip0:=fun k bk ok xk csk immk tipk j hk hck hj hjl=>by
    by_cases e:k=r
    .subst e;have hk':G.β k=some (bk,ok,xk):=hk;rw[hr]at hk';simp only[di]at hk';obtain⟨rfl,rfl,rfl⟩:=hk';rw[hgetr]at hck;simp only[aQ,HB.cells.injEq]at hck;obtain⟨rfl,rfl,rfl⟩:=hck;exact⟨cs,imm,tip,hc,ac,hreach j hj hjl⟩
    .rw[hget k e]at hck;exact⟨csk,immk,tipk,hck,hj,hjl⟩
   obtain⟨c1,i1,t1,g1,a1,l1⟩:=key k1 b1 o1 x1 cs1 imm1 tip1 j1 hk1 hc1 hj1 hl1;obtain⟨c2,i2,t2,g2,a2,l2⟩:=key k2 b2 o2 x2 cs2 imm2 tip2 j2 hk2 hc2 hj2 hl2;exact h.apart k1 b1 o1 x1 c1 i1 t1 k2 b2 o2 x2 c2 i2 t2 hk1 g1 hk2 g2 hne j1 j2 a1 l1 a2 l2 he
  map:=fun k b' o' x' es hk hck=>by
   by_cases e:k=r
   .subst e;rw[hgetr]at hck;simp at hck
   .rw[hget k e]at hck;obtain⟨ms,clock,h1,h2⟩:=h.map k b' o' x' es hk hck;exact⟨ms,clock,h1,h2.mono hext⟩
  mapApart:=fun k1 b1 o1 x1 es k2 b2 o2 x2 hk1 hc1 hk2 hs hne=>by
   by_cases e:k1=r
   .subst e;rw[hgetr]at hc1;simp at hc1
   .rw[hget k1 e]at hc1;refine h.mapApart k1 b1 o1 x1 es k2 b2 o2 x2 hk1 hc1 hk2 ?_ hne;by_cases e2:k2=r
    .subst e2;rw[hc];rfl
    .rw[hget k2 e2]at hs;exact hs
  frz:=hF
  val:=h.val
  sym:=h.sym}
theorem OY{B:Bs}{H:Hp}{w:World}{G:Gh}(h:R B H w G){r b o x:Nat}{cs:List AV}(hr:G.β r=some (b,o,x))(hx:cs.length<=x)(hc:iX G w b o cs)(hF:∀j,j<cs.length->∃v,G.F b (o+j)=some v)
 (hmap:∀r1 b1 o1 x1 es,G.β r1=some (b1,o1,x1)->H.get r1=some (.map es)->b1≠b) :
 Step B H.next G w (H.set r (.cells cs cs.length false)) w G:=by
 have hget:∀k,k≠r->(H.set r (.cells cs cs.length false)).get k=H.get k:=fun k hk=>jg;have hgetr:(H.set r (.cells cs cs.length false)).get r=some (.cells cs cs.length false):=ft;have hβ:∀k b' o' x',k=r->G.β k=some (b',o',x')->b'=b/\o'=o/\x'=x:=fun k b' o' x' e hk=>by
  subst e;rw[hr]at hk;simp only[di]at hk;exact⟨hk.1.symm,hk.2.1.symm,hk.2.2.symm⟩
 have hcs:∀cs' imm' tip',(H.set r (.cells cs cs.length false)).get r=some (.cells cs' imm' tip')->cs'=cs/\imm'=cs.length/\tip'=false:=fun cs' imm' tip' hk=>by
  rw[hgetr]at hk;simp only[aQ,HB.cells.injEq]at hk;exact⟨hk.1.symm,hk.2.1.symm,hk.2.2.symm⟩
 refine⟨?_,uQ _,wU _ _,tp _ _,fun _ _ h=>.inl h,aM _,fun _ _ _ h=>.inl h⟩;exact{
  base:=h.base
  dom:=h.dom
  lt:=h.lt
  cells:=fun k b' o' x' cs' imm' tip' hk hck=>by
   by_cases e:k=r
   .obtain⟨rfl,rfl,rfl⟩:=hβ k _ _ _ e hk;subst e;obtain⟨rfl,rfl,rfl⟩:=hcs _ _ _ hck;exact hc
   .rw[hget k e]at hck;exact h.cells k b' o' x' cs' imm' tip' hk hck
  imm:=fun k b' o' x' cs' imm' tip' hk hck j hj hjl=>by
   by_cases e:k=r
   .obtain⟨rfl,rfl,rfl⟩:=hβ k _ _ _ e hk;subst e;obtain⟨rfl,rfl,rfl⟩:=hcs _ _ _ hck;exact hF j hjl
   .rw[hget k e]at hck;exact h.imm k b' o' x' cs' imm' tip' hk hck j hj hjl
  ext:=fun k b' o' x' cs' imm' tip' hk hck=>by
   by_cases e:k=r
   .subst e;obtain⟨rfl,rfl,rfl⟩:=hcs _ _ _ hck;exact aM _
   .rw[hget k e]at hck;exact h.ext k b' o' x' cs' imm' tip' hk hck
  fits:=fun k b' o' x' cs' imm' tip' hk hck=>by
   by_cases e:k=r
   .subst e;obtain⟨rfl,rfl,rfl⟩:=hcs _ _ _ hck;obtain⟨_,_,rfl⟩:=hβ _ _ _ _ rfl hk;exact hx
   .rw[hget k e]at hck;exact h.fits k b' o' x' cs' imm' tip' hk hck
  room:=fun k b' o' x' cs' imm' tip' hk hck j hj hjl=>by
   by_cases e:k=r
   .subst e;obtain⟨rfl,rfl,rfl⟩:=hcs _ _ _ hck;simp only[zfu]at hjl;omega
   .rw[hget k e]at hck;exact h.room k b' o' x' cs' imm' tip' hk hck j hj hjl
  apart:=fun k1 b1 o1 x1 cs1 imm1 tip1 k2 b2 o2 x2 cs2 imm2 tip2 hk1 hc1 hk2 hc2 hne j1 j2 hj1 hl1 hj2 hl2 he=>by
   by_cases e1:k1=r
   .subst e1;obtain⟨rfl,rfl,rfl⟩:=hcs _ _ _ hc1;simp only[zfu]at hl1;omega
   .by_cases e2:k2=r
    .subst e2;obtain⟨rfl,rfl,rfl⟩:=hcs _ _ _ hc2;simp only[zfu]at hl2;omega
    .rw[hget k1 e1]at hc1;rw[hget k2 e2]at hc2;exact h.apart k1 b1 o1 x1 cs1 imm1 tip1 k2 b2 o2 x2 cs2 imm2 tip2 hk1 hc1 hk2 hc2 hne j1 j2 hj1 hl1 hj2 hl2 he
  map:=fun k b' o' x' es hk hck=>by
   by_cases e:k=r
   .subst e;rw[hgetr]at hck;simp at hck
   .rw[hget k e]at hck;exact h.map k b' o' x' es hk hck
  mapApart:=fun k1 b1 o1 x1 es k2 b2 o2 x2 hk1 hc1 hk2 hs hne=>by
   by_cases e:k1=r
   .subst e;rw[hgetr]at hc1;simp at hc1
   .rw[hget k1 e]at hc1;by_cases e2:k2=r
    .obtain⟨rfl,rfl,rfl⟩:=hβ k2 _ _ _ e2 hk2;exact hmap k1 b1 o1 x1 es hk1 hc1
    .rw[hget k2 e2]at hs;exact h.mapApart k1 b1 o1 x1 es k2 b2 o2 x2 hk1 hc1 hk2 hs hne
  frz:=h.frz
  val:=h.val
  sym:=h.sym}
def tt(P:Program)(B:Bs)(H:Hp)(G:Gh)(w:World)(s:Sem Next)(c:AV)(H':Hp):Prop:=
 ∃n w' G' v,s.run P w=.ok n w'/\(n=.value v\/(n=.skip/\v=undef))/\VR G' c v/\Step B H.next G w H' w' G'
theorem GC{G:Gh}{v:Value}{c:AV}(h:wC v=some c):VR G c v:=by
 unfold wC at h;split at h<;>simp only[aQ,reduceCtorEq]at h<;>subst h<;>constructor;rfl
theorem GD{G:Gh}:∀{vs:List Value}{cs:List AV},vs.mapM wC=some cs->cr G cs vs
 |[],cs,h=>by simp at h;subst h;exact j8 G
 |v::vs,cs,h=>by
  rw[List.mapM_cons]at h;simp only[Option.bind_eq_bind,ir,Option.pure_def,aQ]at h;obtain⟨c,hc,cs',hcs,rfl⟩:=h;exact iE (GC hc) (GD hcs)
theorem uS{G:Gh}{v:Value}{c:AV}(h:uJ v=some c):VR G c v:=by
 unfold uJ at h;split at h
 .rename_i cs;simp only[mD]at h;obtain⟨l,hl,rfl⟩:=h;have:=GD (G:=G) hl;exact .agg (vs:=cs.toList) this.1 this.2
 .exact GC h
theorem iX.list{G:Gh}{w:World}{b:Nat}:∀{cs:List AV}{o:Nat},iX G w b o cs->∃vs,cr G cs vs/\∀(j:Nat) v,vs[j]?=some v->w.cell? ⟨b,o+j,none⟩=some v
 |[],o,_=>⟨[],j8 G,aK⟩
 |c::cs,o,h=>by
  obtain⟨v,h1,h2⟩:=h 0 c rfl;obtain⟨vs,k1,k2⟩:=iX.list (cs:=cs) (o:=o+1) (fun j d hj=>by
   obtain⟨u,g1,g2⟩:=h (j+1) d za;exact⟨u,by rw[show o+1+j=o+(j+1) by omega];exact g1,g2⟩)
  refine⟨v::vs,iE h2 k1,fun j u hj=>?_⟩;cases j with
  |zero=>simp at hj;subst hj;exact h1
  |succ j=>rw[show o+(j+1)=o+1+j by omega];exact k2 j u za
theorem iX.drop{G:Gh}{w:World}{b o:Nat}{cs:List AV}(h:iX G w b o cs)(n:Nat):iX G w b (o+n) (cs.drop n):=fun j c hj=>by
 rw[rS]at hj;rw[jJ];exact h (n+j) c hj
theorem iX.take{G:Gh}{w:World}{b o:Nat}{cs:List AV}(h:iX G w b o cs)(n:Nat):iX G w b o (cs.take n):=fun j c hj=>by
 rw[pM]at hj;split at hj
 .exact h j c hj
 .simp at hj
section
variable {P:Program} {w:World} {t:TypeId}
theorem zfl{d:TypeDesc}(h:P.underlying t=some d):(underlying t).run P w=.ok d w:=by simp[underlying,h]
theorem uT{i:TypeInfo}(h:P.info? t=some i):(typeInfo t).run P w=.ok i w:=by simp[typeInfo,h]
theorem GE{s:Nat}(h:zer P t=some s):∃i,P.info? t=some i/\i.size=s:=by simpa [zer,mD]using h
theorem jr{s:Nat}(h:zer P t=some s):(sizeOf t).run P w=.ok s w:=by
 obtain⟨i,h1,h2⟩:=GE h;simp[sizeOf,uT h1,h2]
theorem GF{c:AV}(h:qA P t=some c):∃i v,P.info? t=some i/\i.zero=some v/\uJ v=some c:=by
 unfold qA at h;split at h
 .rename_i x d s sz by' hp al fa z' cm ms he
  exact⟨_,z',he,rfl,h⟩
 .simp at h
theorem OZ{c:AV}(h:qA P t=some c):∃v,(∀w,(zeroValue t).run P w=.ok v w)/\∀G,VR G c v:=by
 obtain⟨i,v,h1,h2,h3⟩:=GF h;exact⟨v,fun w=>by simp[zeroValue,uT h1,h2],fun G=>uS h3⟩
theorem Cn{z:List AV}(h:ze5 P t=some z):∃i v c,P.info? t=some i/\i.zero=some v/\uJ v=some c/\c.cells=z:=by
 unfold ze5 at h;split at h
 .rename_i c hc;simp only[aQ]at h;obtain⟨i,v,h1,h2,h3⟩:=GF hc;exact⟨i,v,c,h1,h2,h3,h⟩
 .simp at h
theorem wY{z:List AV}(h:ze5 P t=some z):∃v,(∀w,(zeroValue t).run P w=.ok v w)/\∀G,cr G z v.cells.toList:=by
 obtain⟨i,v,c,h1,h2,h3,rfl⟩:=Cn h;exact⟨v,fun w=>by simp[zeroValue,uT h1,h2],fun G=>(uS h3).cells⟩
def Co:TypeDesc->Bool
 | .struct _|.array _ _=>true
 |_=>false
theorem zh{d:TypeDesc}(h:P.underlying t=some d):(isAgg t).run P w=.ok (Co d) w:=by
 simp only[isAgg,fk,zfl h,fu];cases d<;>rfl
theorem GG{cs:List AV}{off:Nat}{c:AV}(h:zej P t cs off=some c):
 (∃d s,P.underlying t=some d/\Co d=true/\zer P t=some s/\((cs.drop off).take s).length=s/\c=.agg ((cs.drop off).take s)) \/
 (∃d,P.underlying t=some d/\Co d=false/\cs[off]?=some c):=by
 unfold zej at h;split at h
 .rename_i f hd;split at h
  .rename_i s hs;simp only[]at h;split at h
   .rename_i hl;simp only[aQ]at h;exact .inl ⟨_,s,hd,rfl,hs,hl,h.symm⟩
   .simp at h
  .simp at h
 .rename_i n e hd;split at h
  .rename_i s hs;simp only[]at h;split at h
   .rename_i hl;simp only[aQ]at h;exact .inl ⟨_,s,hd,rfl,hs,hl,h.symm⟩
   .simp at h
  .simp at h
 .rename_i d h1 h2 hd;refine .inr ⟨d,hd,?_,h⟩;cases d<;>first|rfl|exact(h1 _ rfl).elim|exact(h2 _ _ rfl).elim
 .simp at h
theorem GH{G:Gh}{b o off:Nat}{cs:List AV}{c:AV}(hh:iX G w b o cs)(h:zej P t cs off=some c):
 ∃v,(loadVar t ⟨b,o+off,none⟩).run P w=.ok v w/\VR G c v:=by
 rcases GG h with⟨d,s,hd,ha,hs,hl,rfl⟩|⟨d,hd,ha,hc⟩
 .obtain⟨vs,h1,h2⟩:=((hh.drop off).take s).list;refine⟨.agg vs.toArray,?_,.agg h1.1 h1.2⟩;simp only[loadVar,fk,zh hd,ha,fu,bN,jr hs];have hlen:vs.length=s:=by rw[<-h1.1];exact hl
  rw[<-hlen,run_loadCells_list _ _ vs (fun j v hj=>by rw[j9];exact h2 j v hj)];rfl
 .obtain⟨v,h1,h2⟩:=hh off c hc;refine⟨v,?_,h2⟩;simp[loadVar,zh hd,ha,h1]
theorem zi{G:Gh}{off:Nat}{cs:List AV}{vs:List Value}{c:AV}(hv:cr G cs vs)(h:zej P t cs off=some c):
 ∃v,(part t vs.toArray off).run P w=.ok v w/\VR G c v:=by
 rcases GG h with⟨d,s,hd,ha,hs,hl,rfl⟩|⟨d,hd,ha,hc⟩
 .have h1:=(hv.drop off).take s;refine⟨.agg ((vs.drop off).take s).toArray,?_,.agg h1.1 h1.2⟩;simp only[part,fk,zh hd,ha,fu,bN,jr hs,jK]
  congr 2
  apply nI;simp
 .have hlt:off<cs.length:=(eS.1 hc).1;have hlt':off<vs.length:=by have:=hv.1;omega
  refine⟨vs[off],?_,hv.2 off c _ hc (br hlt')⟩;simp[part,zh hd,ha,hlt']
end
theorem uU{P:Program}{B:Bs}{G:Gh}{H:Hp}{w:World}(h:R B H w G){s:Sem Next}{c:AV}{v:Value}(hr:s.run P w=.ok (.value v) w)(hv:VR G c v):tt P B H G w s c H:=
 ⟨.value v,w,G,v,hr,.inl rfl,hv,kI h⟩
theorem zgf{H H':Hp}{x:Option AV}{c:AV}(h:ret H x=some (c,H')):x=some c/\H'=H:=by
 cases x with
 |none=>simp[ret]at h
 |some v=>simp[ret]at h;exact⟨by rw[h.1],h.2.symm⟩
section
variable {P:Program} {B:Bs} {G:Gh} {H H':Hp} {w:World} (h:R B H w G) {c:AV}
include h
theorem GI{t:TypeId}{a:AV}{av:Value}(ha:VR G a av)(hl:zfC P H t a=some c):∃v,(Instr.loadAt t av).run P w=.ok v w/\VR G c v:=by
 unfold zfC at hl;split at hl
 .rename_i r off;cases ha with
  |ptr hr=>
   split at hl
   .rename_i cs imm tip hc;obtain⟨v,h1,h2⟩:=GH (h.cells _ _ _ _ _ _ _ hr hc) hl;exact⟨v,Gw,h2⟩
   .simp at hl
 .rename_i cs;cases ha with
  |iptr vs hF hv=>
   rename_i b o;have hh:iX G w b o cs:=fun j d hj=>⟨vs j,h.frz _ _ _ (hF j (eS.1 hj).1),hv j d hj⟩;obtain⟨v,h1,h2⟩:=GH hh hl;exact⟨v,Gw,h2⟩
 .simp at hl
theorem O0{t:TypeId}{a x:AV}{av xv:Value}(ha:VR G a av)(hx:VR G x xv)(hs:j5 P H t a x=some H'):
 ∃w',(Instr.storeAt t av xv).run P w=.ok () w'/\Step B H.next G w H' w' G:=by
 unfold j5 at hs;split at hs
 .rename_i r off;cases ha with
  |ptr hr=>
   rename_i b o ex;split at hs
   .rename_i cs imm tip s hc hsz;split at hs
    .rename_i hcond;obtain⟨h1,h2,h3,h4⟩:=hcond;simp only[aQ]at hs;subst hs;have hcl:=hx.cells;have hlen:xv.cells.toList.length=s:=by rw[<-hcl.1];exact h1
     have hone:∀v∈xv.cells.toList,v.oneCell'=true:=fun v hv=>by
      obtain⟨i,hi,rfl⟩:=Ck hv;have hi':i<x.cells.length:=by rw[hcl.1];exact hi
      rw[(hcl.2 i _ _ (br hi') (br hi)).oneCell];exact jL.1 h4 _ (dX hi')
     have hex:=h.ext r b o ex cs imm tip hr hc;obtain⟨w',hw,hst⟩:=Cm P hr off x.cells xv.cells.toList cs 0 H w h hc hcl hone ac ac ac (fun _=>ac);refine⟨w',?_,by simpa using hst⟩;have hsz':xv.cells.size=s:=by simpa using hlen
     simp only[Instr.storeAt,Instr.sureAddr,fk,jK,fu,storeVar,jr hsz,hsz'];simpa using hw
    .simp at hs
   .simp at hs
 .simp at hs
end
section
variable {P:Program} {B:Bs} {G:Gh} {H H':Hp} {w:World}
theorem O1{t:TypeId}{a c:AV}{av:Value}{i:Nat}(ha:VR G a av)(hf:zeg P t a i=some c):∃v,(Instr.fieldAt t av i).run P w=.ok v w/\VR G c v:=by
 unfold zeg at hf;split at hf
 .rename_i fields hd;split at hf
  .rename_i f hfi;split at hf
   .rename_i s hs;have hrun:∀b o,av=.pointer (some ⟨b,o,none⟩)->(Instr.fieldAt t av i).run P w=.ok (.pointer (some ⟨b,o+f.offset,none⟩)) w:=fun b o e=>by
     subst e;simp only[Instr.fieldAt,fk,zfl hd,fu];simp[hfi,Instr.sureAddr,fieldPlace,jr hs,j9]
    split at hf
    .rename_i r off;simp only[aQ]at hf;subst hf;cases ha with
     |ptr hr=>exact⟨_,hrun _ _ rfl,Cg⟩
    .rename_i cs;simp only[aQ]at hf;subst hf;cases ha with
     |iptr vs hF hv=>
      refine⟨_,hrun _ _ rfl,.iptr (fun j=>vs (f.offset+j)) (fun j hj=>?_) (fun j d hj=>?_)⟩
      .rw[mC]at hj;rw[jJ];exact hF _ ac
      .rw[rS]at hj;exact hv _ _ hj
    .simp at hf
   .simp at hf
  .simp at hf
 .simp at hf
theorem O2{t:TypeId}{a c:AV}{av:Value}{i:Nat}(ha:VR G a av)(hf:zeU P t a i=some c):∃v,(Instr.field t av i).run P w=.ok v w/\VR G c v:=by
 unfold zeU at hf;split at hf
 .rename_i fields cs hd;cases ha with
  |agg hl hv=>
   rename_i vs;split at hf
   .rename_i f hfi;obtain⟨v,h1,h2⟩:=zi (P:=P) (w:=w) ⟨hl,hv⟩ hf;refine⟨v,?_,h2⟩;simp only[Instr.field,fk,zfl hd,fu];simp only[hfi,fk,asAgg,jK,fu];exact h1
   .simp at hf
 .simp at hf
theorem O3{t:TypeId}{a i c:AV}{av iv:Value}(ha:VR G a av)(hi:VR G i iv)(hf:zeE P t a i=some c):∃v,(Instr.indexAt t av iv).run P w=.ok v w/\VR G c v:=by
 unfold zeE at hf;split at hf
 .rename_i kk k;cases hi;split at hf
  .rename_i e hd;split at hf
   .rename_i s hs;split at hf
    .rename_i r off len z;split at hf
     .rename_i hk;simp only[aQ]at hf;subst hf;cases ha with
      |sl hr hl hc=>
       rename_i b o x cap;refine⟨.pointer (some ⟨b,o+off+k*s,none⟩),?_,Cg⟩;simp only[Instr.indexAt,asIntOf,fk,jK,fu,zfl hd];have h1:(0:Int)<=Int.ofNat k:=Int.natCast_nonneg k;have h2:(Int.ofNat k)<(len:Int):=by simpa using hk
       simp[jr hs,hk,j9]
     .simp at hf
    .rename_i xs;split at hf
     .rename_i row hrow;split at hf
      .rename_i hrl;simp only[aQ]at hf;subst hf;have hk:k<xs.length:=(eS.1 hrow).1;cases ha with
       |lst vs hz hF hv hc=>
        rename_i b o cap z;have hzs:s=z:=by rw[<-hrl];exact hz k row hrow
        subst hzs;refine⟨.pointer (some ⟨b,o+k*s,none⟩),?_,.iptr (vs k) (fun j hj=>hF k j hk ac) (fun j d hj=>hv k j row d hrow hj)⟩;simp only[Instr.indexAt,asIntOf,fk,jK,fu,zfl hd];simp[jr hs,hk,j9]
       |lst0 a cap=>simp at hk
      .simp at hf
     .simp at hf
    .simp at hf
   .simp at hf
  .rename_i n e hd;split at hf
   .rename_i s hs;split at hf
    .rename_i r off;split at hf
     .rename_i hk;simp only[aQ]at hf;subst hf;cases ha with
      |ptr hr=>
       rename_i b o x;refine⟨.pointer (some ⟨b,o+off+k*s,none⟩),?_,Cg⟩;simp only[Instr.indexAt,asIntOf,fk,jK,fu,zfl hd];simp[jr hs,hk,j9,Instr.sureAddr]
     .simp at hf
    .simp at hf
   .simp at hf
  .simp at hf
 .simp at hf
theorem O4{t:TypeId}{a i c:AV}{av iv:Value}(ha:VR G a av)(hi:VR G i iv)(hf:pI P t a i=some c):∃v,(Instr.index t av iv).run P w=.ok v w/\VR G c v:=by
 unfold pI at hf;split at hf
 .rename_i kk k;cases hi;split at hf
  .rename_i s hd;split at hf
   .rename_i b hb;simp only[aQ]at hf;subst hf;cases ha with
    |str sv l hl=>
     subst hl;refine⟨_,?_,.int .u8 b.toNat⟩;have hk:k<sv.size:=by
      have:=(eS.1 hb).1;simpa using this
     have hg:sv[k]?=some b:=by
      rw[ByteArray.getElem?_lt' _ _ hk];have:=(eS.1 hb).2;simp at this;rw[<-this];rfl
     simp only[Instr.index,asIntOf,fk,jK,fu,zfl hd];simp[hg]
   .simp at hf
  .rename_i n e cs hd;split at hf
   .rename_i hk;split at hf
    .rename_i s hs;cases ha with
     |agg hl hv=>
      rename_i vs;obtain⟨v,h1,h2⟩:=zi (P:=P) (w:=w) ⟨hl,hv⟩ hf;refine⟨v,?_,h2⟩;simp only[Instr.index,asIntOf,fk,jK,fu,zfl hd];simp[jr hs,hk,h1]
    .simp at hf
   .simp at hf
  .simp at hf
 .simp at hf
theorem O5{a c:AV}{av:Value}{i:Nat}(ha:VR G a av)(hf:extract a i=some c):∃v,(Instr.extract av i).run P w=.ok v w/\VR G c v:=by
 unfold extract at hf;split at hf
 .rename_i cs;cases ha with
  |tup hl hv=>
   rename_i vs;have hi:i<cs.length:=(eS.1 hf).1;have hi':i<vs.length:=ac;exact⟨vs[i],by simp[Instr.extract,hi'],hv i c _ hf (br hi')⟩
 .simp at hf
theorem Cp{op:BinOp}{k:IntKind}{a b:Int}{c:AV}(hop:op≠.shl/\op≠.shr)(h:zf7 op k a b=some c)(xt:TypeId):∃v,(binOp op xt (.int k a) (.int k b)).run P w=.ok v w/\VR G c v:=by
 cases op<;>simp only[zf7,aQ,reduceCtorEq]at h<;>first
  |(subst h;exact⟨_,by simp[binOp,Op.intArith,Op.intBits,Op.intCmp];rfl,qD⟩)
  |(subst h;exact⟨.int k (k.wrap (BitVec.ofInt k.bits a &&& ~~~ BitVec.ofInt k.bits b).toNat),by simp[binOp,Op.intBits],qD⟩)
  |(split at h
    ·simp at h
    .rename_i hb;simp only[aQ]at h;subst h;exact⟨_,by simp[binOp,Op.intDiv,hb];rfl,qD⟩)
  |simp at hop
theorem O6{op:BinOp}{a b:ByteArray}{c:AV}(h:wE op a.data.toList b.data.toList=some c)(xt:TypeId):∃v,(binOp op xt (.string a) (.string b)).run P w=.ok v w/\VR G c v:=by
 have hlt:∀x y,td x y=Op.bytesLess x y:=fun x=>by
  induction x with
  |nil=>intro y;cases y<;>rfl
  |cons p x ih=>intro y;cases y with
   |nil=>rfl
   |cons q y=>simp[td,Op.bytesLess,ih]
 cases op<;>simp only[wE,aQ,reduceCtorEq,hlt]at h<;>first
  |(subst h;exact⟨.bool (a.data.toList == b.data.toList),uP,qD⟩)
  |(subst h;exact⟨.bool !(a.data.toList == b.data.toList),uP,qD⟩)
  |(subst h;exact⟨.bool (Op.bytesLess a.data.toList b.data.toList),uP,qD⟩)
  |(subst h;exact⟨.bool !(Op.bytesLess a.data.toList b.data.toList),uP,qD⟩)
  |(subst h;exact⟨.bool (Op.bytesLess a.data.toList b.data.toList||a.data.toList == b.data.toList),uP,qD⟩)
  |(subst h;exact⟨.bool !(Op.bytesLess a.data.toList b.data.toList||a.data.toList == b.data.toList),uP,qD⟩)
  |(split at h
    ·rename_i hb;simp only[aQ]at h;subst h;refine⟨.string (a++b),?_,.str _ _ ?_⟩
     .have hb':¬((a.size+b.size:Nat):Int) > IntKind.i64.max:=by
       have h1:a.size+b.size<=70368744177664:=by simpa [zfw]using hb
       have h2:IntKind.i64.max=9223372036854775807:=rfl;rw[h2];omega
      simp only[binOp,Op.stringOp,ah hb'];rfl
     .simp
    .simp at h)
theorem GJ(dp:Nat){x y:AV}{xv yv:Value}{r:Bool}{xt:TypeId}(hx:VR G x xv)(hy:VR G y yv)(h:yN P xt x y=some r):(Op.equalIn (dp+1) xt xv yv).run P w=.ok r w:=by
 unfold yN at h;split at h;all_goals first
  |(rename_i hd
    split at h<;>simp only[aQ,reduceCtorEq]at h<;>subst h<;>cases hx<;>cases hy<;>simp[Op.equalIn,zfl hd]
    done)
  |(rename_i e hd
    split at h<;>simp only[aQ,reduceCtorEq]at h<;>subst h<;>cases hx<;>cases hy<;>simp[Op.equalIn,zfl hd]
    done)
  |(rename_i e1 e2 hd
    split at h<;>simp only[aQ,reduceCtorEq]at h<;>subst h<;>cases hx<;>cases hy<;>simp[Op.equalIn,zfl hd]
    done)
  |(rename_i e1 e2 e3 hd
    split at h<;>simp only[aQ,reduceCtorEq]at h<;>subst h<;>cases hx<;>cases hy<;>simp[Op.equalIn,zfl hd]
    done)
  |simp at h
theorem zj{op:BinOp}{t:TypeId}{x y:Operand}{c d:AV}{cv dv:Value}(hc:VR G c cv)(hd:VR G d dv)(h:∀l m,c=.agg l->d=.agg m->False):(eqGuard op t x y cv dv).run P w=.ok () w:=by
 cases op<;>first|rfl|(cases hc<;>cases hd<;>first|rfl|exact(h _ _ rfl rfl).elim)
theorem O7(a b:ByteArray):(a == b)=(a.data.toList == b.data.toList):=by
 cases a with
 |mk x=>cases b with
  |mk y=>
   show(x == y)=_;rw[Bool.eq_iff_iff,mE,mE];exact⟨fun h=>by rw[h],fun h=>nI h⟩
theorem GK(dp:Nat){x y:AV}{xv yv:Value}{r:Bool}{xt:TypeId}(hx:VR G x xv)(hy:VR G y yv)(h:Cc P xt x y=some r):(Op.equalIn (dp+1) xt xv yv).run P w=.ok r w:=by
 unfold Cc at h;split at h
 .split at h
  .rename_i hd;split at h
   .rename_i hk;simp only[aQ]at h;subst h hk;cases hx;cases hy;simp[Op.equalIn,zfl hd]
   .simp at h
  .simp at h
 .split at h
  .rename_i hd;simp only[aQ]at h;subst h;cases hx with
   |str a la ha=>cases hy with
    |str b lb hb=>
     subst ha hb;simp only[Op.equalIn,fk,zfl hd,fu,jK,O7]
  .simp at h
 .exact GJ dp hx hy h
theorem Cq{xs ys:List AV}{xv yv:List Value}(hx:cr G xs xv)(hy:cr G ys yv)(dp:Nat):∀(fs:List Field) (r:Bool),uK P xs ys fs=some r ->
 Sem.run P (forIn fs (none,()) fun(f:Field) (_:Option Bool×Unit)=>
         if f.name="_" then pure (ForInStep.yield (none,()))
         else do
          let a <-part f.type xv.toArray f.offset
          let b <-part f.type yv.toArray f.offset
          let c <-Op.equalIn (dp+1) f.type a b
          if c=false then pure (ForInStep.done (some false,()))else pure (ForInStep.yield (none,())))
  w=.ok (match r with|true=>(none,())|false=>(some false,())) w
 |[],r,h=>by
  simp only[uK,aQ]at h;subst h;rfl
 |f::fs,r,h=>by
  unfold uK at h;rw[List.forIn_cons];split at h
  .rename_i hn;rw[aE (by simpa using hn)];simp only[fk,jK,fu];exact Cq hx hy dp fs r h
  .rename_i hn;rw[ah (by simpa using hn)];split at h
   .rename_i a b ha hb;obtain⟨av,ha1,ha2⟩:=zi (P:=P) (w:=w) hx ha;obtain⟨bv,hb1,hb2⟩:=zi (P:=P) (w:=w) hy hb;split at h
    .rename_i he;have:=GK (P:=P) (w:=w) dp ha2 hb2 he;simp only[fk,ha1,hb1,this,fu,oL,bU,jK];exact Cq hx hy dp fs r h
    .rename_i he;have:=GK (P:=P) (w:=w) dp ha2 hb2 he;simp only[aQ]at h;subst h;simp only[fk,ha1,hb1,this,fu,bN,jK]
    .simp at h
   .simp at h
theorem O8(d:Nat){t:TypeId}{fields:Array Field}{xs ys:Array Value}(hd:P.underlying t=some (.struct fields))(hs:P.stoodInHeld t=false):
 (Op.equalIn (d+1) t (.agg xs) (.agg ys)).run P w=(Sem.run P (forIn fields.toList (none,()) fun(f:Field) (_:Option Bool×Unit)=>
   if f.name="_" then pure (ForInStep.yield (none,()))
   else do
    let a <-part f.type xs f.offset
    let b <-part f.type ys f.offset
    let c <-Op.equalIn d f.type a b
    if c=false then pure (ForInStep.done (some false,()))else pure (ForInStep.yield (none,())))
   w).andThen fun a w'=>Sem.run P (match a.1 with|some r=>pure r|none=>pure true) w':=by
 simp[Op.equalIn,zfl hd,hs]
 congr 1
 funext a w'
 rcases a with⟨_ |_,_⟩<;>rfl
theorem O9(dp:Nat){x y:AV}{xv yv:Value}{r:Bool}{xt:TypeId}(hx:VR G x xv)(hy:VR G y yv)(h:te P xt x y=some r):(Op.equalIn (dp+2) xt xv yv).run P w=.ok r w:=by
 unfold te at h;split at h
 .unfold yO at h;split at h
  .rename_i fields hd;split at h
   .simp at h
   .rename_i hg;simp only[pO]at hg;cases hx with
    |agg hxl hxv=>cases hy with
     |agg hyl hyv=>
      have:=Cq (P:=P) (w:=w) ⟨hxl,hxv⟩ ⟨hyl,hyv⟩ dp fields.toList r h;rw[O8 (dp+1) hd hg.1,this];cases r<;>rfl
  .simp at h
 .exact GJ (dp+1) hx hy h
theorem Pa{x y:AV}{xv yv:Value}{r:Bool}{xt:TypeId}(hx:VR G x xv)(hy:VR G y yv)(h:te P xt x y=some r):(Op.equal xt xv yv).run P w=.ok r w:=O9 9998 hx hy h
theorem Pb{op:BinOp}{t:TypeId}{x y:Operand}{xs ys:List AV}{xv yv:Value}(hx:VR G (.agg xs) xv)(hy:VR G (.agg ys) yv){r:Bool}(h:yO P t xs ys=some r):(eqGuard op t x y xv yv).run P w=.ok () w:=by
 unfold yO at h;split at h
 .split at h
  .simp at h
  .rename_i hg;simp only[pO]at hg;cases hx;cases hy;cases op<;>first|rfl|simp[eqGuard,hg.2]
 .simp at h
theorem Pc{op:BinOp}{xt:TypeId}{ox oy:Operand}{x y c:AV}{xv yv:Value}(hx:VR G x xv)(hy:VR G y yv)(hn1:∀k a k' b,x=.int k a->y=.int k' b->False)
 (hn2:∀a b,x=.str a->y=.str b->False) (hn3:∀k a,x=.sx k a->False) (hn4:∀k a k' b,x=.int k a->y=.sx k' b->False) (h:Cd P op xt x y=some c) :
 ∃v,(do eqGuard op xt ox oy xv yv;binOp op xt xv yv:Sem Value).run P w=.ok v w/\VR G c v:=by
 unfold Cd at h;have hcase:∃r,te P xt x y=some r/\((op=.eql/\c=.bool r)\/(op=.neq/\c=.bool !r)):=by
  split at h
  .split at h
   .rename_i r hr;simp only[aQ]at h;exact⟨r,hr,.inl ⟨rfl,h.symm⟩⟩
   .simp at h
  .split at h
   .rename_i r hr;simp only[aQ]at h;exact⟨r,hr,.inr ⟨rfl,h.symm⟩⟩
   .simp at h
  .simp at h
 obtain⟨r,hr,hop⟩:=hcase;have hg:(eqGuard op xt ox oy xv yv).run P w=.ok () w:=by
  have hr':=hr;unfold te at hr';split at hr'
  .exact Pb hx hy hr'
  .rename_i hno;exact zj hx hy hno
 have he:=Pa (P:=P) (w:=w) hx hy hr;simp only[fk,hg,fu];rcases hop with⟨rfl,rfl⟩|⟨rfl,rfl⟩
 .refine⟨.bool r,?_,.bool r⟩;have:binOp .eql xt xv yv=(do pure (.bool (<-Op.equal xt xv yv)):Sem Value):=by
   cases hx<;>cases hy<;>first|rfl|exact(hn1 _ _ _ _ rfl rfl).elim|exact(hn2 _ _ rfl rfl).elim|exact(hn3 _ _ rfl).elim|exact(hn4 _ _ _ _ rfl rfl).elim
  rw[this];simp[he]
 .refine⟨.bool !r,?_,.bool _⟩;have:binOp .neq xt xv yv=(do pure (.bool (!(<-Op.equal xt xv yv))):Sem Value):=by
   cases hx<;>cases hy<;>first|rfl|exact(hn1 _ _ _ _ rfl rfl).elim|exact(hn2 _ _ rfl rfl).elim|exact(hn3 _ _ rfl).elim|exact(hn4 _ _ _ _ rfl rfl).elim
  rw[this];simp[he]
theorem GL{x:AV}{k:IntKind}{e:Sx}{xv:Value}(hx:VR G x xv)(h:yL x=some (k,e)):xv=.int k (e.eval G.ρ):=by
 unfold yL at h;split at h
 .simp only[di]at h;obtain⟨rfl,rfl⟩:=h;cases hx;rfl
 .simp only[di]at h;obtain⟨rfl,rfl⟩:=h;cases hx;rfl
 .simp at h
theorem Pd{op:BinOp}{k:IntKind}{a b n:Int}(h:zf7 op k a b=some (.int k n)):Ca op k a b=n:=by simp[Ca,h]
theorem Pe{D:BinOp->Sx->Sx->Option Bool}(hD:mG D G.ρ){op:BinOp}{k:IntKind}{a b:Sx}{c:AV}(h:Cb D op k a b=some c)(xt:TypeId):
 ∃v,(binOp op xt (.int k (a.eval G.ρ)) (.int k (b.eval G.ρ))).run P w=.ok v w/\VR G c v:=by
 have key:∀(op:BinOp) (n:Int),(op≠.shl/\op≠.shr)->zf7 op k (a.eval G.ρ) (b.eval G.ρ)=some (.int k n)->c=.sx k (.bin op k a b) ->
  ∃v,(binOp op xt (.int k (a.eval G.ρ)) (.int k (b.eval G.ρ))).run P w=.ok v w/\VR G c v:=fun op n hop hi hc=>by
  obtain⟨v,h1,h2⟩:=Cp (P:=P) (w:=w) (G:=G) hop hi xt;cases h2;refine⟨_,h1,?_⟩;subst hc;have:VR G (.sx k (.bin op k a b)) (.int k ((Sx.bin op k a b).eval G.ρ)):=.sx _ _;simp only[Sx.eval,Pd hi]at this;exact this
 have hz:D .eql b (.lit 0)=some false->b.eval G.ρ≠0:=fun hd=>by
  have:=hD _ k _ _ _ hd;simp[zf7,Sx.eval]at this;exact this
 cases op<;>simp only[Cb,aQ,reduceCtorEq]at h<;>first
  |exact key _ _ aK rfl h.symm
  |(split at h
    ·rename_i hd;simp only[aQ]at h;first
      |exact key .quo (k.wrap ((a.eval G.ρ).tdiv (b.eval G.ρ))) aK (by simp only[zf7,ah (hz hd)]) h.symm
      |exact key .rem ((a.eval G.ρ).tmod (b.eval G.ρ)) aK (by simp only[zf7,ah (hz hd)]) h.symm
    .simp at h)
  |(split at h
    ·rename_i r hd;simp only[aQ]at h;subst h;exact Cp (P:=P) (w:=w) (G:=G) aK (hD _ k _ _ _ hd) xt
    .simp at h)
theorem GM{D:BinOp->Sx->Sx->Option Bool}(hD:mG D G.ρ){op:BinOp}{xt:TypeId}{ox oy:Operand}{x y c:AV}{xv yv:Value}(hx:VR G x xv)(hy:VR G y yv)(hna:∀l m,x=.agg l->y=.agg m->False)(h:yM D op x y=some c):
 ∃v,(do eqGuard op xt ox oy xv yv;binOp op xt xv yv:Sem Value).run P w=.ok v w/\VR G c v:=by
 have hg:=zj (P:=P) (w:=w) (op:=op) (t:=xt) (x:=ox) (y:=oy) hx hy hna;simp only[fk,hg,fu];unfold yM at h;split at h
 .rename_i k a k' b hx' hy';have e1:=GL hx hx';have e2:=GL hy hy';subst e1 e2;split at h
  .rename_i hk;subst hk;exact Pe hD h xt
  .simp at h
 .simp at h
theorem Pf{D:BinOp->Sx->Sx->Option Bool}(hD:mG D G.ρ){op:BinOp}{xt:TypeId}{ox oy:Operand}{x y c:AV}{xv yv:Value}(hx:VR G x xv)(hy:VR G y yv)(h:jS P D op xt x y=some c):
 ∃v,(do eqGuard op xt ox oy xv yv;binOp op xt xv yv:Sem Value).run P w=.ok v w/\VR G c v:=by
 unfold jS at h;split at h
 .rename_i k a k' b;have hg:=zj (P:=P) (w:=w) (op:=op) (t:=xt) (x:=ox) (y:=oy) hx hy aK;simp only[fk,hg,fu];cases hx;cases hy;unfold rM at h;split at h
  .unfold uL at h;split at h
   .simp only[aQ]at h;subst h;refine⟨_,?_,.int _ _⟩;simp only[binOp,Op.shift];rw[ah aK];rfl
   .simp at h
  .unfold uL at h;split at h
   .simp only[aQ]at h;subst h;refine⟨_,?_,.int _ _⟩;simp only[binOp,Op.shift];rw[ah aK];rfl
   .simp at h
  .rename_i h1 h2;split at h
   .rename_i hk;subst hk;exact Cp ⟨h1,h2⟩ h xt
   .simp at h
 .rename_i a b;have hg:=zj (P:=P) (w:=w) (op:=op) (t:=xt) (x:=ox) (y:=oy) hx hy aK;simp only[fk,hg,fu];cases hx with
  |str sa _ ha=>
   cases hy with
   |str sb _ hb=>
    subst ha hb;exact O6 h xt
 .exact GM hD hx hy aK h
 .exact GM hD hx hy aK h
 .exact Pc hx hy gC gC gC gC h
theorem Pg{op:UnOp}{x c:AV}{xv:Value}(hx:VR G x xv)(h:rN op x=some c):∃v,(Op.unary op xv).run P w=.ok v w/\VR G c v:=by
 unfold rN at h;split at h
 .cases hx;simp only[aQ]at h;subst h;refine⟨_,rfl,?_⟩;exact .sx _ _
 .cases hx;simp only[aQ]at h;subst h;refine⟨_,rfl,?_⟩;exact .sx _ _
 .cases hx;simp only[zf7,aQ]at h;subst h;exact⟨_,rfl,.int _ _⟩
 .cases hx;simp only[zf7,aQ]at h;subst h;exact⟨_,rfl,.int _ _⟩
 .cases hx;simp only[aQ]at h;subst h;exact⟨_,rfl,.bool _⟩
 .simp at h
end
end Go.Ab
