/- Parts: AbRel, AbMem, AbOps, AbOps2. -/
import Derived.Test.YtljebeflbbgibaaGreatWCA
import Derived.WalkKit
set_option linter.unusedSimpArgs false
set_option linter.unusedVariables false
set_option linter.unusedSectionVars false
set_option linter.defProp false
set_option maxHeartbeats 32000000
namespace Go.Ab
set_option maxRecDepth 20000
open Go
theorem aA{P:Prop}(h:P:=by simp):P:=h
theorem qI{P:Prop}(h:P:=by simpa using hc):P:=h
theorem aa{P:Prop}(h:P:=by omega):P:=h
theorem fS{P:Prop}(h:P:=by rw[<- k r _ hr];exact hc):P:=h
theorem cQ{P:Prop}(h:P:=by simp;omega):P:=h
theorem qJ{P:Prop}(h:P:=by rw[K _ _ _ (jQ i) rfl];exact i):P:=h
theorem wn{P:Prop}(h:P:=by rw[World.frozen?_alloc_old _ _ _ (by have:=jQ i;simp;omega)];exact h2):P:=h
theorem tl{P:Prop}(h:P:=by have:=h.dom _ _ I;omega):P:=h
theorem eX{P:Prop}(h:P:=by rw[P8,if_pos rfl]):P:=h
theorem dQ{P:Prop}(h:P:=by rw[Hp.get_set,if_pos rfl]):P:=h
theorem l0{P:Prop}(h:P:=by rw[V];omega):P:=h
theorem oT{P:Prop}(h:P:=by simp only[Q3];omega):P:=h
theorem tm{P:Prop}(h:P:=by rw[Hp.get_set,if_neg Z]):P:=h
theorem oU{P:Prop}(h:P:=by simpa using O):P:=h
theorem wo{P:Prop}(h:P:=by simpa [Instr.loadAt,Instr.sureAddr]using i):P:=h
theorem oV{P:Prop}(h:P:=by simpa using C):P:=h
theorem tn{P:Prop}(h:P:=by rw[Nat.add_assoc];exact .ptr hr):P:=h
theorem j7{P:Prop}(h:P:=by constructor):P:=h
theorem nf{P:Prop}(h:P:=by simp[binOp,Op.stringOp,ByteArray.toList_eq]):P:=h
theorem dj{P:Prop}(h:P:=by assumption):P:=h
theorem fT{P:Prop}(h:P:=by rw[P8,if_neg aa]):P:=h
def iy:=@List.getElem?_append_left
def j8:=@List.getElem?_append_right
def js:=@List.getElem?_take
def az:=@if_pos
def aC:=@Nat.le_refl
def ea:=@Nat.le_trans
def oW:=@Nat.lt_of_lt_of_le
def eY:=@Nat.eq_of_beq_eq_true
def tp:=@Nat.ne_of_beq_eq_false
def iW:=@decide_true
def fE:=@decide_false
def af:=@if_neg
def au:=@Option.some.injEq
def eZ:=@Nat.blt_eq
def eM:=@Array.getD_eq_getD_getElem?
def l1:=@Array.getElem?_setIfInBounds
def dR:=@Prod.mk.injEq
def cG:=@List.getElem?_eq_some_iff
def a1:=@List.getElem?_eq_getElem
def bZ:=@Nat.zero_add
def qK:=@Go.RowKit.Below.heap_alloc
def dD:=@Nat.le_succ
def qL:=@List.take_append_of_le_length
def fF:=@List.take_of_length_le
def tq:=@List.drop_of_length_le
def eh:=@List.length_append
def kU:=@List.length_take
def em:=@List.length_cons
def iX:=@List.length_nil
def e6:=@List.nil_append
def iz:=@List.append_assoc
def kV:=@List.getElem?_drop
def cR:=@Go.Sem.run_bind
def fo:=@Nat.add_assoc
def hI:=@List.length_drop
def iY:=@Option.bind_eq_some_iff
def jt:=@Option.map_eq_some_iff
def cV:=@Go.Result.andThen_ok
def cr:=@if_true
def fp:=@Go.Sem.run_pure
def iA:=@Array.ext'
def iB:=@List.all_eq_true
def e9:=@List.getElem_mem
def iC:=@beq_iff_eq
def kW:=@Bool.true_eq_false
def cC:=@if_false
def qM:=@Bool.or_eq_false_iff
def bI:=And.intro @au.{0} @dR.{0,0}
end Go.Ab
namespace Go.Ab
set_option maxRecDepth 20000
open Go Go.RowKit
structure Gh where
 β:Nat->Option (Nat×Nat×Nat)
 F:Nat->Nat->Option Value
 ρ:Nat->Int
structure Bs where
 at':Nat
 ρ:Nat->Int
 cfg:Cfg
def hM(D:BinOp->Sx->Sx->Option Bool)(ρ:Nat->Int):Prop:=∀C k a b r,D C a b=some r->RR C k (a.eval ρ) (b.eval ρ)=some (.bool r)
inductive VR (G:Gh):AV->Value->Prop
 |int (k:IntKind) (n:Int):VR G (.int k n) (.int k n)
 |sx (k:IntKind) (e:Sx):VR G (.sx k e) (.int k (e.eval G.ρ))
 |bool (b:Bool):VR G (.bool b) (.bool b)
 |str (s:ByteArray) (l:List UInt8) (h:s.data.toList=l):VR G (.str l) (.string s)
 |nilP:VR G .nilP (.pointer none)
 |nilM:VR G .nilM (.map none)
 |nilF:VR G .nilF .nilFunc
 |nilS:VR G .nilS (.slice none 0 0)
 |ptr {r off b o x:Nat} (h:G.β r=some (b,o,x)):VR G (.ptr r off) (.pointer (some ⟨b,o+off,none⟩))
 |iptr {cs:List AV}{b o:Nat} (vs:Nat->Value) (hF:∀j,j<cs.length->G.F b (o+j)=some (vs j))
  (hv:∀(j:Nat) (c:AV),cs[j]?=some c->VR G c (vs j)):VR G (.iptr cs) (.pointer (some ⟨b,o,none⟩))
 |sl {r off len z b o x cap:Nat} (h:G.β r=some (b,o,x)) (hl:len<=cap) (hc:off+cap*z<=x) :
  VR G (.sl r off len z) (.slice (some ⟨b,o+off,none⟩) len cap)
 |lst {xs:List (List AV)}{b o cap z:Nat} (vs:Nat->Nat->Value) (hz:∀(i:Nat) (row:List AV),xs[i]?=some row->row.length=z)
  (hF:∀i j,i<xs.length->j<z->G.F b (o+i*z+j)=some (vs i j))
  (hv:∀(i j:Nat) (row:List AV) (c:AV),xs[i]?=some row->row[j]?=some c->VR G c (vs i j)) (hc:xs.length<=cap) :
  VR G (.lst xs) (.slice (some ⟨b,o,none⟩) xs.length cap)
 |lst0 (a:Option Addr) (cap:Nat):VR G (.lst []) (.slice a 0 cap)
 |map {r b o x:Nat} (h:G.β r=some (b,o,x)):VR G (.map r) (.map (some b))
 |clo {f:Nat}{cs:List AV}{vs:List Value} (hl:cs.length=vs.length) (hv:∀(i:Nat) c v,cs[i]?=some c->vs[i]?=some v->VR G c v) :
  VR G (.clo f cs) (.func (.func f) #[] vs.toArray)
 |agg {cs:List AV}{vs:List Value} (hl:cs.length=vs.length) (hv:∀(i:Nat) c v,cs[i]?=some c->vs[i]?=some v->VR G c v) :
  VR G (.agg cs) (.agg vs.toArray)
 |tup {cs:List AV}{vs:List Value} (hl:cs.length=vs.length) (hv:∀(i:Nat) c v,cs[i]?=some c->vs[i]?=some v->VR G c v) :
  VR G (.tup cs) (.tuple vs.toArray)
def bl(G:Gh)(cs:List AV)(vs:List Value):Prop:=cs.length=vs.length/\∀(i:Nat) c v,cs[i]?=some c->vs[i]?=some v->VR G c v
theorem bl.nil(G:Gh):bl G [] []:=⟨rfl,aA⟩
def iZ:=@bl.nil
theorem bl.cons{G:Gh}{c:AV}{v:Value}{cs:List AV}{vs:List Value}(h:VR G c v)(K:bl G cs vs):bl G (c::cs) (v::vs):=by
 refine⟨by simp[K.1],fun i j A hc J=>?_⟩;cases i with
 |zero=>simp at hc J;subst hc J;exact h
 |succ i=>exact K.2 i j A qI (by simpa using J)
def fq:=@bl.cons
theorem bl.of_cons{G:Gh}{c:AV}{v:Value}{cs:List AV}{vs:List Value}(h:bl G (c::cs) (v::vs)):VR G c v/\bl G cs vs:=
 ⟨h.2 0 c v rfl rfl,by simpa using h.1,fun i j A hc J=>h.2 (i+1) j A qI (by simpa using J)⟩
theorem bl.append{G:Gh}{cs j:List AV}{vs us:List Value}(h:bl G cs vs)(Z:bl G j us):bl G (cs++j) (vs++us):=by
 refine⟨by simp[h.1,Z.1],fun i c v hc J=>?_⟩;have I:=h.1;by_cases F:i<cs.length
 .rw[iy F]at hc;rw[iy aa]at J;exact h.2 i c v hc J
 .rw[j8 aa]at hc;rw[j8 aa]at J;rw[<-I]at J;exact Z.2 _ c v hc J
theorem bl.drop{G:Gh}{cs:List AV}{vs:List Value}(h:bl G cs vs)(n:Nat):bl G (cs.drop n) (vs.drop n):=
 ⟨by simp[h.1],fun i c v hc J=>h.2 (n+i) c v qI (by simpa using J)⟩
theorem bl.take{G:Gh}{cs:List AV}{vs:List Value}(h:bl G cs vs)(n:Nat):bl G (cs.take n) (vs.take n):=by
 refine⟨by simp[h.1],fun i c v hc J=>?_⟩;rw[js]at hc J;split at hc
 .rename_i F;rw[az F]at J;exact h.2 i c v hc J
 .simp at hc
structure Ext (G G':Gh):Prop where
 β:∀r p,G.β r=some p->G'.β r=some p
 F:∀b o v,G.F b o=some v->G'.F b o=some v
 ρ:G'.ρ=G.ρ
theorem Ext.refl(G:Gh):Ext G G:=⟨fun _ _ h=>h,fun _ _ _ h=>h,rfl⟩
def ng:=@Ext.refl
theorem Ext.trans{a b c:Gh}(h:Ext a b)(k:Ext b c):Ext a c:=⟨fun r p hp=>k.β r p (h.β r p hp),fun x y v J=>k.F x y v (h.F x y v J),k.ρ.trans h.ρ⟩
theorem VR.mono{G Z:Gh}(e:Ext G Z){c:AV}{v:Value}(h:VR G c v):VR Z c v:=by
 induction h with
 |int k n=>exact .int k n
 |sx k x=>rw[<-e.ρ];exact .sx k x
 |bool b=>exact .bool b
 |str s l h=>exact .str s l h
 |nilP=>exact .nilP
 |nilM=>exact .nilM
 |nilF=>exact .nilF
 |nilS=>exact .nilS
 |ptr h=>exact .ptr (e.β _ _ h)
 |iptr vs L _ ih=>exact .iptr vs (fun j O=>e.F _ _ _ (L j O)) ih
 |sl h I hc=>exact .sl (e.β _ _ h) I hc
 |lst vs C L _ hc ih=>exact .lst vs C (fun i j F O=>e.F _ _ _ (L i j F O)) ih hc
 |lst0 a o=>exact .lst0 a o
 |map h=>exact .map (e.β _ _ h)
 |clo I _ ih=>exact .clo I ih
 |agg I _ ih=>exact .agg I ih
 |tup I _ ih=>exact .tup I ih
theorem bl.mono{G L:Gh}(e:Ext G L){c:List AV}{v:List Value}(h:bl G c v):bl L c v:=⟨h.1,fun i a b K z=>(h.2 i a b K z).mono e⟩
theorem VR.oneCell{G:Gh}{c:AV}{v:Value}(h:VR G c v):v.oneCell'=c.one:=by cases h<;>rfl
theorem VR.cells{G:Gh}{c:AV}{v:Value}(h:VR G c v):bl G c.cells v.cells.toList:=by
 cases h with
 |agg I J=>exact⟨by simpa [AV.cells,Value.cells]using I,by simpa [AV.cells,Value.cells]using J⟩
 |_=>exact fq (by constructor<;>assumption) (iZ _)
def en(G:Gh)(w:World)(b o:Nat)(cs:List AV):Prop:=∀(j:Nat) (c:AV),cs[j]?=some c->∃v,w.cell? ⟨b,o+j,none⟩=some v/\VR G c v
def Q3(x:Nat)(cs:List AV):Bool->Nat
 |true=>x
 |false=>cs.length
def j9(G:Gh)(Z:List (AV×AV))(ms:List MapEntry):Prop:=
 Z.length=ms.length/\∀(i:Nat) e m,Z[i]?=some e->ms[i]?=some m->VR G e.1 m.key/\VR G e.2 m.val
structure R (B:Bs) (H:Hp) (w:World) (G:Gh):Prop where
 base:B.at'<=w.heap.size
 dom:∀r p,G.β r=some p->r<H.next
 lt:∀r b o x,G.β r=some (b,o,x)->B.at'<=b/\b<w.heap.size
 cells:∀r b o x cs imm tip,G.β r=some (b,o,x)->H.get r=some (.cells cs imm tip)->en G w b o cs
 imm:∀r b o x cs imm tip,G.β r=some (b,o,x)->H.get r=some (.cells cs imm tip)->∀j,j<imm->j<cs.length->∃v,G.F b (o+j)=some v
 ext:∀r b o x cs imm tip,G.β r=some (b,o,x)->H.get r=some (.cells cs imm tip)->cs.length<=Q3 x cs tip
 room:∀r b o x cs imm tip,G.β r=some (b,o,x)->H.get r=some (.cells cs imm tip)->∀j,imm<=j->j<Q3 x cs tip ->
  (∃v,w.cell? ⟨b,o+j,none⟩=some v)/\w.frozen? ⟨b,o+j,none⟩=false/\G.F b (o+j)=none
 apart:∀r b o x cs imm tip r' b' o' x' cs' imm' tip',G.β r=some (b,o,x)->H.get r=some (.cells cs imm tip) ->
  G.β r'=some (b',o',x')->H.get r'=some (.cells cs' imm' tip')->r≠r' ->
  ∀j j',imm<=j->j<Q3 x cs tip->imm'<=j'->j'<Q3 x' cs' tip'->b=b'->o+j≠o'+j'
 map:∀r b o x es,G.β r=some (b,o,x)->H.get r=some (.map es)->∃ms clock,w.heap[b]?=some (.map ms clock)/\j9 G es ms.toList
 mapApart:∀r b o x es r' b' o' x',G.β r=some (b,o,x)->H.get r=some (.map es)->G.β r'=some (b',o',x')->(H.get r').isSome->r≠r'->b≠b'
 frz:∀b o v,G.F b o=some v->w.cell? ⟨b,o,none⟩=some v
 val:G.ρ=B.ρ
 sym:hM B.cfg.dec B.ρ
 fits:∀r b o x cs imm tip,G.β r=some (b,o,x)->H.get r=some (.cells cs imm tip)->cs.length<=x
structure Fr (G:Gh) (w w':World):Prop where
 os:w'.os=w.os
 tape:w'.tape=w.tape
 output:w'.output=w.output
 size:w.heap.size<=w'.heap.size
 block:∀k,k<w.heap.size->(∀r b o x,G.β r=some (b,o,x)->b≠k)->w'.heap[k]?=w.heap[k]?
theorem Fr.refl(G:Gh)(w:World):Fr G w w:=⟨rfl,rfl,rfl,aC _,fun _ _ _=>rfl⟩
def oX:=@Fr.refl
def ke(G L:Gh)(w:World):Prop:=∀r b o x,L.β r=some (b,o,x)->G.β r=some (b,o,x)\/w.heap.size<=b\/∃i J j,G.β i=some (b,J,j)
theorem Fr.trans{G L:Gh}{a b c:World}(h:Fr G a b)(k:Fr L b c)(n:ke G L a):Fr G a c:=
 ⟨k.os.trans h.os,k.tape.trans h.tape,k.output.trans h.output,ea h.size k.size,fun i F m=>
  (k.block i (oW F h.size) (fun r b o x hr Y=>by
    rcases n r b o x hr with Z|Z|⟨V,J,j,Z⟩
    .exact m r b o x Z Y
    .omega
    .exact m V b J j Z Y)).trans (h.block i F m)⟩
theorem ke.refl(G:Gh)(w:World):ke G G w:=fun _ _ _ _ h=>.inl h
def l2:=@ke.refl
theorem ke.trans{G L K:Gh}{w w':World}(h:ke G L w)(k:ke L K w')(Y:w.heap.size<=w'.heap.size):ke G K w:=fun r b o x hr=>by
 rcases k r b o x hr with i|i|⟨Z,J,j,i⟩
 .exact h r b o x i
 .exact .inr (.inl aa)
 .rcases h Z b J j i with g|g|g
  .exact .inr (.inr ⟨Z,J,j,g⟩)
  .exact .inr (.inl g)
  .exact .inr (.inr g)
structure Step (B:Bs) (nx:Nat) (G:Gh) (w:World) (H':Hp) (w':World) (G':Gh):Prop where
 r:R B H' w' G'
 ext:Ext G G'
 fr:Fr G w w'
 new:ke G G' w
 low:∀r p,G'.β r=some p->G.β r=some p\/nx<=r
 mono:nx<=H'.next
 icy:∀b o v,G'.F b o=some v->G.F b o=some v\/B.at'<=b
theorem Step.refl{B:Bs}{H:Hp}{G:Gh}{w:World}(h:R B H w G):Step B H.next G w H w G:=⟨h,ng _,oX _ _,l2 _ _,fun _ _ h=>.inl h,aC _,fun _ _ _ h=>.inl h⟩
def fU:=@Step.refl
theorem Step.trans{B:Bs}{U:Nat}{H' Y:Hp}{G Z K:Gh}{w w' L:World}(h:Step B U G w H' w' Z)(k:Step B H'.next Z w' Y L K):Step B U G w Y L K:=
 ⟨k.r,h.ext.trans k.ext,h.fr.trans k.fr h.new,h.new.trans k.new h.fr.size,fun r p hr=>by
  rcases k.low r p hr with i|i
  .exact h.low r p i
  .exact .inr (ea h.mono i),ea h.mono k.mono,fun b o v J=>by
  rcases k.icy b o v J with i|i
  .exact h.icy b o v i
  .exact .inr i⟩
structure TR (N:Nat) (G:Gh) (E:ai) (a:Act):Prop where
 size:a.tmps.size=N
 slots:∀t,VR G (E.at t) (a.tmps.getD t undef)
theorem TR.mono{N:Nat}{G L:Gh}{E:ai}{a:Act}(e:Ext G L)(h:TR N G E a):TR N L E a:=⟨h.size,fun t=>(h.slots t).mono e⟩
theorem VR.undef(G:Gh):VR G QQ Go.undef:=.tup (cs:=[]) (vs:=[]) rfl aA
def oY:=@VR.undef
@[simp] theorem SR {α:Type} (x y:α):fg true x y=x:=rfl
@[simp] theorem So {α:Type} (x y:α):fg false x y=y:=rfl
theorem oZ{O:Type}(k:Nat):(T.e:T O).get k=none:=rfl
theorem l3{O:Type}(v:Option O)(l r:T O)(k:Nat):
 (T.n v l r).get k=fg (Nat.beq k 0) v (fg (Nat.beq (Nat.mod k 2) 1) (l.get (Nat.div k 2)) (r.get (Nat.sub (Nat.div k 2) 1))):=rfl
theorem B9{O:Type}(v:Option O)(f:Nat)(t:T O)(k:Nat):lO v (f+1) t k=T.casesOn t
 (fg (Nat.beq k 0) (.n v .e .e) (fg (Nat.beq (Nat.mod k 2) 1) (.n none (lO v f .e (Nat.div k 2)) .e) (.n none .e (lO v f .e (Nat.sub (Nat.div k 2) 1)))))
 (fun u l r=>fg (Nat.beq k 0) (.n v l r) (fg (Nat.beq (Nat.mod k 2) 1) (.n u (lO v f l (Nat.div k 2)) r) (.n u l (lO v f r (Nat.sub (Nat.div k 2) 1))))):=rfl
theorem Ca{U:Type}(v:Option U):∀(f:Nat) (t:T U) (k j:Nat),k<f->(lO v f t k).get j=if j=k then v else t.get j:=by
 intro f;induction f with
 |zero=>intro t k j h;omega
 |succ f ih=>
  intro t k j h;have hd:∀n:Nat,Nat.div n 2=n/2:=fun _=>rfl;have V:∀n:Nat,Nat.mod n 2=n%2:=fun _=>rfl;have K:∀n:Nat,Nat.sub n 1=n-1:=fun _=>rfl;have z:∀n m:Nat,Nat.beq n m=decide (n=m):=fun n m=>by
   cases h:Nat.beq n m with
   |true=>have e:=eY h;simp[e]
   |false=>have e:=tp h;simp[e]
  rw[B9];cases t with
  |e=>
   simp only[];by_cases A:k=0
   .subst A;simp only[z,iW,SR,l3,oZ];by_cases O:j=0<;>simp[O] ;cases decide (j.mod 2=1)<;>rfl
   .simp only[z,A,fE,So];by_cases Z:Nat.mod k 2=1
    .simp only[Z,iW,SR,l3,z];by_cases Y:j=0
     .subst Y;simp[oZ];omega
     .simp only[Y,fE,So];by_cases g:Nat.mod j 2=1
      .simp only[g,iW,SR];rw[ih _ _ _ (by rw[hd];omega)];rw[hd,hd,V]at *;by_cases e:j=k
       .subst e;simp
       .rw[af aa,af e];rfl
      .simp only[g,fE,So,oZ];rw[af (by rintro rfl;exact g Z)]
    .simp only[Z,fE,So,l3,z];by_cases Y:j=0
     .subst Y;simp[oZ];omega
     .simp only[Y,fE,So];by_cases g:Nat.mod j 2=1
      .simp only[g,iW,SR,oZ];rw[af (by rintro rfl;exact Z g)]
      .simp only[g,fE,So];rw[ih _ _ _ (by rw[hd,K];omega)];rw[hd,hd,K,K];rw[V]at Z g;by_cases e:j=k
       .subst e;simp
       .rw[af aa,af e];rfl
  |n u l r=>
   simp only[];by_cases A:k=0
   .subst A;simp only[z,iW,SR,l3];by_cases O:j=0<;>simp[O]
   .simp only[z,A,fE,So];by_cases Z:Nat.mod k 2=1
    .simp only[Z,iW,SR,l3,z];by_cases Y:j=0
     .subst Y;simp;omega
     .simp only[Y,fE,So];by_cases g:Nat.mod j 2=1
      .simp only[g,iW,SR];rw[ih _ _ _ (by rw[hd];omega)];rw[V]at Z g;rw[hd,hd];by_cases e:j=k
       .subst e;simp
       .rw[af aa,af e]
      .simp only[g,fE,So];rw[af (by rintro rfl;exact g Z)]
    .simp only[Z,fE,So,l3,z];by_cases Y:j=0
     .subst Y;simp;omega
     .simp only[Y,fE,So];by_cases g:Nat.mod j 2=1
      .simp only[g,iW,SR];rw[af (by rintro rfl;exact Z g)]
      .simp only[g,fE,So];rw[ih _ _ _ (by rw[hd,K];omega)];rw[V]at Z g;rw[hd,hd,K,K];by_cases e:j=k
       .subst e;simp
       .rw[af aa,af e]
theorem T.get_set{O:Type}(t:T O)(k j:Nat)(v:Option O):(t.set k v).get j=if j=k then v else t.get j:=Ca v (k+1) t k j aa
def qN:=@T.get_set
theorem Hp.get_set(h:Hp)(r j:Nat)(b:HB):(h.set r b).get j=if j=r then some b else h.get j:=qN _ _ _ _
def a9:=@Hp.get_set
theorem RH(h:Hp)(r j:Nat):(h.kill r).get j=if j=r then none else h.get j:=qN _ _ _ _
theorem P8(h:Hp)(j:Nat)(b:HB):(h.alloc b).get j=if j=h.next then some b else h.get j:=qN _ _ _ _
@[simp] theorem QZ (h:Hp) (r:Nat) (b:HB):(h.set r b).next=h.next:=rfl
@[simp] theorem SS (h:Hp) (r:Nat):(h.kill r).next=h.next:=rfl
@[simp] theorem QA (h:Hp) (b:HB):(h.alloc b).next=h.next+1:=rfl
theorem nh(E:ai)(d t:Nat)(v:AV):ai.at (T.set E d (some v)) t=if t=d then v else E.at t:=by
 unfold ai.at;rw[qN];split<;>rfl
theorem TR.put{N:Nat}{G:Gh}{E O:ai}{a:Act}(h:TR N G E a){Z:Option Tmp}{c:AV}{v:Value}(J:VR G c v)(m:Q9 N E Z c=some O):TR N G O (a.put Z v):=by
 cases Z with
 |none=>simp[Q9]at m;subst m;exact h
 |some d=>
  simp only[Q9]at m;split at m
  .rename_i hd;simp only[au]at m;subst m;have M:d<N:=by simpa [eZ]using hd
   refine⟨by simp[Act.put,h.size],fun t=>?_⟩;rw[nh];simp only[Act.put];by_cases e:t=d
   .subst e;rw[az rfl];simpa [Array.getD,h.size,M]using J
   .rw[af e];have:=h.slots t;simpa [eM,l1,Ne.symm e]using this
  .simp at m
theorem jQ{w:World}{b o:Nat}{v:Value}(h:w.cell? ⟨b,o,none⟩=some v):b<w.heap.size:=World.block_lt_of_cell? w ⟨b,o,none⟩ h
theorem R.congr{B:Bs}{H H':Hp}{w:World}{G:Gh}(h:R B H w G)(L:H'.next=H.next)(A:∀r,(G.β r).isSome->H'.get r=H.get r):R B H' w G:=by
 have k:∀r p,G.β r=some p->H'.get r=H.get r:=fun r p hr=>A r (by simp[hr]);exact{
  base:=h.base
  dom:=fun r p hr=>by rw[L];exact h.dom r p hr
  lt:=h.lt
  cells:=fun r b o x M imm g hr hc=>h.cells r b o x M imm g hr fS
  imm:=fun r b o x M imm g hr hc=>h.imm r b o x M imm g hr fS
  ext:=fun r b o x M imm g hr hc=>h.ext r b o x M imm g hr fS
  fits:=fun r b o x M imm g hr hc=>h.fits r b o x M imm g hr fS
  room:=fun r b o x M imm g hr hc=>h.room r b o x M imm g hr fS
  apart:=fun r b o x M imm g i K J j V Z Y hr hc m U=>h.apart r b o x M imm g i K J j V Z Y hr fS m (by rw[<-k i _ m];exact U)
  map:=fun r b o x O hr hc=>h.map r b o x O hr fS
  mapApart:=fun r b o x O i K J j hr hc m I=>h.mapApart r b o x O i K J j hr fS m (by rw[<-k i _ m];exact I)
  frz:=h.frz
  val:=h.val
  sym:=h.sym}
theorem R.kill{B:Bs}{H:Hp}{w:World}{G:Gh}(h:R B H w G)(Qa:Nat):R B (H.kill Qa) w G:=by
 have k:∀j b,(H.kill Qa).get j=some b->H.get j=some b:=fun j b O=>by
  rw[RH]at O;split at O
  .simp at O
  .exact O
 exact{
  base:=h.base
  dom:=h.dom
  lt:=h.lt
  cells:=fun r b o x M imm g hr hc=>h.cells r b o x M imm g hr (k _ _ hc)
  imm:=fun r b o x M imm g hr hc=>h.imm r b o x M imm g hr (k _ _ hc)
  ext:=fun r b o x M imm g hr hc=>h.ext r b o x M imm g hr (k _ _ hc)
  fits:=fun r b o x M imm g hr hc=>h.fits r b o x M imm g hr (k _ _ hc)
  room:=fun r b o x M imm g hr hc=>h.room r b o x M imm g hr (k _ _ hc)
  apart:=fun r b o x M imm g Y K J V U Z i hr hc m L=>h.apart r b o x M imm g Y K J V U Z i hr (k _ _ hc) m (k _ _ L)
  map:=fun r b o x I hr hc=>h.map r b o x I hr (k _ _ hc)
  mapApart:=fun r b o x I Y K J V hr hc m C=>h.mapApart r b o x I Y K J V hr (k _ _ hc) m (by
   cases F:(H.kill Qa).get Y with
   |none=>simp[F]at C
   |some b=>rw[k _ _ F];rfl)
  frz:=h.frz
  val:=h.val
  sym:=h.sym}
def Gh.add(G:Gh)(r:Nat)(p:Nat×Nat×Nat):Gh:={β:=fun k=>if k=r then some p else G.β k,F:=G.F,ρ:=G.ρ}
theorem SU(G:Gh)(r:Nat)(p:Nat×Nat×Nat):(G.add r p).β r=some p:=by simp[Gh.add]
theorem tt{G:Gh}{r:Nat}{p:Nat×Nat×Nat}(h:∀q,G.β r=some q->False):Ext G (G.add r p):=
 ⟨fun k q j=>by
  simp only[Gh.add];split
  .rename_i e;subst e;exact(h q j).elim
  .exact j,fun _ _ _ h=>h,rfl⟩
theorem en.mono{G L:Gh}{w:World}{b o:Nat}{cs:List AV}(e:Ext G L)(h:en G w b o cs):en L w b o cs:=
 fun j c O=>let ⟨v,i,g⟩:=h j c O;⟨v,i,g.mono e⟩
theorem j9.mono{G L:Gh}{m:List (AV×AV)}{ms:List MapEntry}(e:Ext G L)(h:j9 G m ms):j9 L m ms:=
 ⟨h.1,fun i a b K z=>⟨(h.2 i a b K z).1.mono e,(h.2 i a b K z).2.mono e⟩⟩
theorem wq{B:Bs}{nx Qa:Nat}{X:Hp}{w:World}{G:Gh}(h:R B X w G){cs:List AV}{vs:List Value}(hno:∀q,G.β Qa=some q->False)(hlt0:Qa<X.next)(U:X.get Qa=some (.cells cs 0 true))(hnx:nx<=Qa)
 (hv:bl G cs vs) (V:List Value) (e:TypeId) :
 Step B nx G w X (w.alloc (.cells (vs++V).toArray e)) (G.add Qa (w.heap.size,0,vs.length+V.length)):=by
 have O:Ext G (G.add Qa (w.heap.size,0,vs.length+V.length)):=tt hno;have K:∀k L I,k<w.heap.size->L=k->(w.alloc (.cells (vs++V).toArray e)).cell? ⟨L,I,none⟩=w.cell? ⟨L,I,none⟩:=fun k L I hk hb=>World.cell?_alloc_lt _ _ _ (by simpa [hb]using hk);have F:∀j,(w.alloc (.cells (vs++V).toArray e)).cell? ⟨w.heap.size,j,none⟩=(vs++V)[j]?:=fun j=>by
  rw[World.cell?_alloc_new];simp
 have Z:∀r p,(G.add Qa (w.heap.size,0,vs.length+V.length)).β r=some p->(r=Qa/\p=(w.heap.size,0,vs.length+V.length))\/(r≠Qa/\G.β r=some p):=fun r p hr=>by
  simp only[Gh.add]at hr;split at hr
  .rename_i e;exact .inl ⟨e,by simpa using hr.symm⟩
  .rename_i e;exact .inr ⟨e,hr⟩
 refine⟨?_,O,⟨rfl,rfl,rfl,aA,fun k hk _=>?_⟩,fun r b o x hr=>?_,fun r p hr=>(Z r p hr).elim (fun e=>.inr (by rw[e.1];exact hnx)) (fun e=>.inl e.2),aa,fun _ _ _ h=>.inl h⟩
 .exact{
   base:=by have:=h.base;simp;omega
   dom:=fun r p hr=>by
    rcases Z r p hr with⟨rfl,_⟩|⟨_,m⟩
    .exact hlt0
    .exact h.dom r p m
   lt:=fun r b o x hr=>by
    rcases Z r _ hr with⟨rfl,hp⟩|⟨_,m⟩
    .simp only[dR]at hp;obtain⟨rfl,rfl,rfl⟩:=hp;exact⟨h.base,aA⟩
    .have:=h.lt r b o x m;exact⟨this.1,cQ⟩
   cells:=fun r b o x Y imm g hr hc=>by
    rcases Z r _ hr with⟨rfl,hp⟩|⟨J,m⟩
    .simp only[dR]at hp;obtain⟨rfl,rfl,rfl⟩:=hp;rw[U]at hc;simp only[au,HB.cells.injEq]at hc;obtain⟨rfl,rfl,rfl⟩:=hc;intro j c M;have C:j<cs.length:=(cG.1 M).1;have hjv:j<vs.length:=by have:=hv.1;omega
     refine⟨vs[j],?_,(hv.2 j c _ M (a1 hjv)).mono O⟩;rw[bZ,F,iy hjv,a1 hjv]
    .intro j c M;obtain⟨v,i,h2⟩:=h.cells r b o x Y imm g m hc j c M;exact⟨v,qJ,h2.mono O⟩
   imm:=fun r b o x Y imm g hr hc j M C=>by
    rcases Z r _ hr with⟨rfl,hp⟩|⟨J,m⟩
    .rw[U]at hc;simp only[au,HB.cells.injEq]at hc;obtain⟨rfl,rfl,rfl⟩:=hc;omega
    .exact h.imm r b o x Y imm g m hc j M C
   ext:=fun r b o x Y imm g hr hc=>by
    rcases Z r _ hr with⟨rfl,hp⟩|⟨J,m⟩
    .simp only[dR]at hp;obtain⟨rfl,rfl,rfl⟩:=hp;rw[U]at hc;simp only[au,HB.cells.injEq]at hc;obtain⟨rfl,rfl,rfl⟩:=hc;have:=hv.1;simp only[Q3];omega
    .exact h.ext r b o x Y imm g m hc
   fits:=fun r b o x Y imm g hr hc=>by
    rcases Z r _ hr with⟨rfl,hp⟩|⟨J,m⟩
    .simp only[dR]at hp;obtain⟨rfl,rfl,rfl⟩:=hp;rw[U]at hc;simp only[au,HB.cells.injEq]at hc;obtain⟨rfl,rfl,rfl⟩:=hc;have:=hv.1;omega
    .exact h.fits r b o x Y imm g m hc
   room:=fun r b o x Y imm g hr hc j M C=>by
    rcases Z r _ hr with⟨rfl,hp⟩|⟨J,m⟩
    .simp only[dR]at hp;obtain⟨rfl,rfl,rfl⟩:=hp;rw[U]at hc;simp only[au,HB.cells.injEq]at hc;obtain⟨rfl,rfl,rfl⟩:=hc;simp only[Q3]at C;refine⟨⟨(vs++V)[j]' cQ,?_⟩,?_,?_⟩
     .rw[bZ,F,a1]
     .simp
     .cases hf:G.F w.heap.size (0+j)with
      |none=>exact hf
      |some v=>have:=jQ (h.frz _ _ _ hf);omega
    .obtain⟨⟨v,i⟩,h2,h3⟩:=h.room r b o x Y imm g m hc j M C;exact⟨⟨v,qJ⟩,wn,h3⟩
   apart:=fun r b o x cs1 imm g r' L I x' cs2 imm' tip' hr hc m hc' J j j' M C hj' hjl' he=>by
    rcases Z r _ hr with⟨rfl,hp⟩|⟨hn1,A⟩
    .simp only[dR]at hp;obtain⟨rfl,rfl,rfl⟩:=hp;rcases Z r' _ m with⟨rfl,hp⟩|⟨hn2,z⟩
     .exact(J rfl).elim
     .have:=(h.lt r' L I x' z).2;omega
    .rcases Z r' _ m with⟨rfl,hp⟩|⟨hn2,z⟩
     .simp only[dR]at hp;obtain⟨rfl,rfl,rfl⟩:=hp;have:=(h.lt r b o x A).2;omega
     .exact h.apart r b o x cs1 imm g r' L I x' cs2 imm' tip' A hc z hc' J j j' M C hj' hjl' he
   map:=fun r b o x es hr hc=>by
    rcases Z r _ hr with⟨rfl,hp⟩|⟨J,m⟩
    .rw[U]at hc;simp at hc
    .obtain⟨ms,clock,i,h2⟩:=h.map r b o x es m hc;refine⟨ms,clock,?_,h2.mono O⟩;rw[qK _ _ _ (h.lt r b o x m).2];exact i
   mapApart:=fun r b o x es r' L I x' hr hc m hs J=>by
    rcases Z r _ hr with⟨rfl,hp⟩|⟨hn1,A⟩
    .rw[U]at hc;simp at hc
    .rcases Z r' _ m with⟨rfl,hp⟩|⟨hn2,z⟩
     .simp only[dR]at hp;obtain⟨rfl,rfl,rfl⟩:=hp;have:=(h.lt r b o x A).2;omega
     .exact h.mapApart r b o x es r' L I x' A hc z hs J
   frz:=fun b o v hf=>by
    have:=h.frz b o v hf;rw[K _ _ _ (jQ this) rfl];exact this
   val:=h.val
   sym:=h.sym}
 .exact qK _ _ _ hk
 .rcases Z r _ hr with⟨rfl,hp⟩|⟨_,m⟩
  .simp only[dR]at hp;obtain⟨rfl,rfl,rfl⟩:=hp;exact .inr (.inl (aC _))
  .exact .inl m
theorem wr{B:Bs}{nx Qa:Nat}{X:Hp}{w:World}{G:Gh}(h:R B X w G)(hno:∀q,G.β Qa=some q->False)(hlt0:Qa<X.next)(U:X.get Qa=some (.map []))(hnx:nx<=Qa):
 Step B nx G w X (w.alloc (.map #[] 0)) (G.add Qa (w.heap.size,0,0)):=by
 have V:Ext G (G.add Qa (w.heap.size,0,0)):=tt hno;have K:∀k O M,k<w.heap.size->O=k->(w.alloc (.map #[] 0)).cell? ⟨O,M,none⟩=w.cell? ⟨O,M,none⟩:=fun k O M hk hb=>World.cell?_alloc_lt _ _ _ (by simpa [hb]using hk);have Z:∀r p,(G.add Qa (w.heap.size,0,0)).β r=some p->(r=Qa/\p=(w.heap.size,0,0))\/(r≠Qa/\G.β r=some p):=fun r p hr=>by
  simp only[Gh.add]at hr;split at hr
  .rename_i e;exact .inl ⟨e,by simpa using hr.symm⟩
  .rename_i e;exact .inr ⟨e,hr⟩
 refine⟨?_,V,⟨rfl,rfl,rfl,aA,fun k hk _=>?_⟩,fun r b o x hr=>?_,fun r p hr=>(Z r p hr).elim (fun e=>.inr (by rw[e.1];exact hnx)) (fun e=>.inl e.2),aa,fun _ _ _ h=>.inl h⟩
 .exact{
   base:=by have:=h.base;simp;omega
   dom:=fun r p hr=>by
    rcases Z r p hr with⟨rfl,_⟩|⟨_,m⟩
    .exact hlt0
    .exact h.dom r p m
   lt:=fun r b o x hr=>by
    rcases Z r _ hr with⟨rfl,hp⟩|⟨_,m⟩
    .simp only[dR]at hp;obtain⟨rfl,rfl,rfl⟩:=hp;exact⟨h.base,aA⟩
    .have:=h.lt r b o x m;exact⟨this.1,cQ⟩
   cells:=fun r b o x Y imm g hr hc=>by
    rcases Z r _ hr with⟨rfl,hp⟩|⟨J,m⟩
    .rw[U]at hc;simp at hc
    .intro j c L;obtain⟨v,i,h2⟩:=h.cells r b o x Y imm g m hc j c L;exact⟨v,qJ,h2.mono V⟩
   imm:=fun r b o x Y imm g hr hc j L C=>by
    rcases Z r _ hr with⟨rfl,hp⟩|⟨J,m⟩
    .rw[U]at hc;simp at hc
    .exact h.imm r b o x Y imm g m hc j L C
   ext:=fun r b o x Y imm g hr hc=>by
    rcases Z r _ hr with⟨rfl,hp⟩|⟨J,m⟩
    .rw[U]at hc;simp at hc
    .exact h.ext r b o x Y imm g m hc
   fits:=fun r b o x Y imm g hr hc=>by
    rcases Z r _ hr with⟨rfl,hp⟩|⟨J,m⟩
    .rw[U]at hc;simp at hc
    .exact h.fits r b o x Y imm g m hc
   room:=fun r b o x Y imm g hr hc j L C=>by
    rcases Z r _ hr with⟨rfl,hp⟩|⟨J,m⟩
    .rw[U]at hc;simp at hc
    .obtain⟨⟨v,i⟩,h2,h3⟩:=h.room r b o x Y imm g m hc j L C;exact⟨⟨v,qJ⟩,wn,h3⟩
   apart:=fun r b o x cs1 imm g I O M x' cs2 imm' tip' hr hc m F J j j' L C hj' hjl' he=>by
    rcases Z r _ hr with⟨rfl,hp⟩|⟨hn1,A⟩
    .rw[U]at hc;simp at hc
    .rcases Z I _ m with⟨rfl,hp⟩|⟨hn2,z⟩
     .rw[U]at F;simp at F
     .exact h.apart r b o x cs1 imm g I O M x' cs2 imm' tip' A hc z F J j j' L C hj' hjl' he
   map:=fun r b o x es hr hc=>by
    rcases Z r _ hr with⟨rfl,hp⟩|⟨J,m⟩
    .simp only[dR]at hp;obtain⟨rfl,rfl,rfl⟩:=hp;rw[U]at hc;simp only[au,HB.map.injEq]at hc;subst hc;exact⟨#[],0,by show(w.heap.push _)[w.heap.size]?=_;simp,rfl,aA⟩
    .obtain⟨ms,clock,i,h2⟩:=h.map r b o x es m hc;refine⟨ms,clock,?_,h2.mono V⟩;rw[qK _ _ _ (h.lt r b o x m).2];exact i
   mapApart:=fun r b o x es I O M x' hr hc m hs J=>by
    rcases Z r _ hr with⟨rfl,hp⟩|⟨hn1,A⟩
    .simp only[dR]at hp;obtain⟨rfl,rfl,rfl⟩:=hp;rcases Z I _ m with⟨rfl,hp⟩|⟨hn2,z⟩
     .exact(J rfl).elim
     .have:=(h.lt I O M x' z).2;omega
    .rcases Z I _ m with⟨rfl,hp⟩|⟨hn2,z⟩
     .simp only[dR]at hp;obtain⟨rfl,rfl,rfl⟩:=hp;have:=(h.lt r b o x A).2;omega
     .exact h.mapApart r b o x es I O M x' A hc z hs J
   frz:=fun b o v hf=>by
    have:=h.frz b o v hf;rw[K _ _ _ (jQ this) rfl];exact this
   val:=h.val
   sym:=h.sym}
 .exact qK _ _ _ hk
 .rcases Z r _ hr with⟨rfl,hp⟩|⟨_,m⟩
  .simp only[dR]at hp;obtain⟨rfl,rfl,rfl⟩:=hp;exact .inr (.inl (aC _))
  .exact .inl m
theorem R.more{B:Bs}{H X:Hp}{w:World}{G:Gh}(h:R B H w G)(L:H.next<=X.next)(A:∀r,r<H.next->X.get r=H.get r):R B X w G:=by
 have k:∀r p,G.β r=some p->X.get r=H.get r:=fun r p hr=>A r (h.dom r p hr);exact{
  base:=h.base
  dom:=fun r p hr=>oW (h.dom r p hr) L
  lt:=h.lt
  cells:=fun r b o x M imm g hr hc=>h.cells r b o x M imm g hr fS
  imm:=fun r b o x M imm g hr hc=>h.imm r b o x M imm g hr fS
  ext:=fun r b o x M imm g hr hc=>h.ext r b o x M imm g hr fS
  fits:=fun r b o x M imm g hr hc=>h.fits r b o x M imm g hr fS
  room:=fun r b o x M imm g hr hc=>h.room r b o x M imm g hr fS
  apart:=fun r b o x M imm g i K J j V Z Y hr hc m U=>h.apart r b o x M imm g i K J j V Z Y hr fS m (by rw[<-k i _ m];exact U)
  map:=fun r b o x O hr hc=>h.map r b o x O hr fS
  mapApart:=fun r b o x O i K J j hr hc m I=>h.mapApart r b o x O i K J j hr fS m (by rw[<-k i _ m];exact I)
  frz:=h.frz
  val:=h.val
  sym:=h.sym}
theorem R.alloc{B:Bs}{H:Hp}{w:World}{G:Gh}(h:R B H w G)(z:HB):R B (H.alloc z) w G:=
 h.more (dD _) (fun r hr=>fT)
theorem qO{B:Bs}{H:Hp}{w:World}{G:Gh}(h:R B H w G){cs:List AV}{vs:List Value}(J:bl G cs vs)(V:List Value)(e:TypeId):
 Step B H.next G w (H.alloc (.cells cs 0 true)) (w.alloc (.cells (vs++V).toArray e)) (G.add H.next (w.heap.size,0,vs.length+V.length)):=
 wq (h.alloc _) (fun q I=>tl) aA eX (aC _) J V e
theorem Cb{B:Bs}{H:Hp}{w:World}{G:Gh}(h:R B H w G):
 Step B H.next G w (H.alloc (.map [])) (w.alloc (.map #[] 0)) (G.add H.next (w.heap.size,0,0)):=
 wr (h.alloc _) (fun q I=>tl) aA eX (aC _)
inductive Made (G:Gh):HB->Obj->Nat->Prop
 |cells (cs:List AV) (vs spare:List Value) (e:TypeId) (hv:bl G cs vs):Made G (.cells cs 0 true) (.cells (vs++spare).toArray e) (vs.length+spare.length)
 |map:Made G (.map []) (.map #[] 0) 0
theorem wt{B:Bs}{U Qa:Nat}{X:Hp}{w:World}{G:Gh}{z:HB}{C:Obj}{ext:Nat}(h:R B X w G)(i:∀q,G.β Qa=some q->False)(O:Qa<X.next)(A:X.get Qa=some z)(Z:U<=Qa)(Y:Made G z C ext):
 Step B U G w X (w.alloc C) (G.add Qa (w.heap.size,0,ext)):=by
 cases Y with
 |cells M vs V e J=>exact wq h i O A Z J V e
 |map=>exact wr h i O A Z
def i3(P:Program)(G:Gh)(w:World){O:Type}(s:Sem O)(f:Value->O)(c:AV)(H H':Hp):Prop:=
 ∃z C ext v,H'=H.alloc z/\s.run P w=.ok (f v) (w.alloc C)/\Made G z C ext/\∀L:Gh,L.β H.next=some (w.heap.size,0,ext)->VR L c v
theorem i3.sim{P:Program}{B:Bs}{H H':Hp}{w:World}{G:Gh}(h:R B H w G){s:Sem Value}{c:AV}(V:i3 P G w s id c H H'):∃v o L,s.run P w=.ok v o/\VR L c v/\Step B H.next G w H' o L:=by
 obtain⟨z,C,ext,v,rfl,i,g,Z⟩:=V;exact⟨v,_,_,i,Z _ (SU _ _ _),wt (h.alloc _) (fun q I=>tl) aA eX (aC _) g⟩
theorem i3.next{P:Program}{H H':Hp}{w:World}{G:Gh}{s:Sem Value}{c:AV}(V:i3 P G w s id c H H'):i3 P G w (do pure (.value (<-s)):Sem Next) Next.value c H H':=by
 obtain⟨z,C,ext,v,Z,i,g,o⟩:=V;exact⟨z,C,ext,v,Z,by simp[i],g,o⟩
theorem Cc{b o K J:Nat}(h:b=K->o≠J):(⟨b,o,none⟩:Addr)≠⟨K,J,none⟩:=fun e=>by
 simp only[Addr.mk.injEq]at e;exact h e.1 e.2.1
theorem Cd{B:Bs}{H:Hp}{w:World}{G:Gh}(h:R B H w G){r b o x:Nat}{cs cs':List AV}{imm:Nat}{tip:Bool}(hr:G.β r=some (b,o,x))(hc:H.get r=some (.cells cs imm tip))
 {j:Nat} (hj:imm<=j) (hjl:j<Q3 x cs tip) {v:Value}
 (hcs:∀(i:Nat) c,cs'[i]?=some c->(i=j/\VR G c v)\/(i≠j/\cs[i]?=some c)) (hl:cs'.length<=Q3 x cs tip) (hl':tip=false->cs'.length=cs.length) :
 Step B H.next G w (H.set r (.cells cs' imm tip)) (w.setCell ⟨b,o+j,none⟩ v) G:=by
 obtain⟨⟨u,hu⟩,hfz,hF⟩:=h.room r b o x cs imm tip hr hc j hj hjl;have hsame:(w.setCell ⟨b,o+j,none⟩ v).cell? ⟨b,o+j,none⟩=some v:=World.cell?_setCell_same _ _ _ hu;have V:∀C g,(C=b->g≠o+j)->(w.setCell ⟨b,o+j,none⟩ v).cell? ⟨C,g,none⟩=w.cell? ⟨C,g,none⟩:=fun C g hne=>
  World.cell?_setCell_other _ _ _ _ (Cc fun e e'=>hne e.symm e'.symm)
 have J:Q3 x cs' tip=Q3 x cs tip:=by
  cases tip with
  |true=>rfl
  |false=>exact hl' rfl
 have F:∀k,k≠r->(H.set r (.cells cs' imm tip)).get k=H.get k:=fun k hk=>by rw[a9,af hk]
 have z:(H.set r (.cells cs' imm tip)).get r=some (.cells cs' imm tip):=dQ;have hkeep:∀C g v',G.F C g=some v'->(C=b->g≠o+j):=fun C g v' hf e e'=>by subst e;subst e';rw[hF]at hf;simp at hf
 have hcell:∀C g,(∃v',w.cell? ⟨C,g,none⟩=some v')->∃v',(w.setCell ⟨b,o+j,none⟩ v).cell? ⟨C,g,none⟩=some v':=fun C g ⟨v',hv'⟩=>by
  by_cases e:C=b/\g=o+j
  .obtain⟨rfl,rfl⟩:=e;exact⟨v,hsame⟩
  .exact⟨v',by rw[V C g (fun e1 e2=>e ⟨e1,e2⟩)];exact hv'⟩
 refine⟨?_,ng _,⟨rfl,rfl,rfl,aA,fun k hk hn=>?_⟩,l2 _ _,fun _ _ h=>.inl h,aC _,fun _ _ _ h=>.inl h⟩
 .exact{
   base:=by have:=h.base;simpa using this
   dom:=h.dom
   lt:=fun r b o x hr=>by have:=h.lt r b o x hr;simpa using this
   cells:=fun PV U O M m Y Z A L=>by
    by_cases e:PV=r
    .subst e;rw[hr]at A;simp only[bI]at A;obtain⟨rfl,rfl,rfl⟩:=A;rw[z]at L;simp only[au,HB.cells.injEq]at L;obtain⟨rfl,rfl,rfl⟩:=L;intro i c hi;rcases hcs i c hi with⟨rfl,hv⟩|⟨hne,hi'⟩
     .exact⟨v,hsame,hv⟩
     .obtain⟨v',h1,h2⟩:=h.cells PV b o x cs imm tip hr hc i c hi';exact⟨v',by rw[V _ _ (fun _=>aa)];exact h1,h2⟩
    .rw[F PV e]at L;intro i c hi;obtain⟨v',h1,h2⟩:=h.cells PV U O M m Y Z A L i c hi;refine⟨v',?_,h2⟩;rw[V]
     .exact h1
     .have K:i<m.length:=(cG.1 hi).1;have hex:=h.ext PV U O M m Y Z A L;by_cases hi1:Y<=i
      .exact h.apart PV U O M m Y Z r b o x cs imm tip A L hr hc e i j hi1 aa hj hjl
      .obtain⟨u',hu'⟩:=h.imm PV U O M m Y Z A L i aa K;exact hkeep _ _ _ hu'
   imm:=fun PV U O M m Y Z A L i hi K=>by
    by_cases e:PV=r
    .subst e;rw[hr]at A;simp only[bI]at A;obtain⟨rfl,rfl,rfl⟩:=A;rw[z]at L;simp only[au,HB.cells.injEq]at L;obtain⟨rfl,rfl,rfl⟩:=L;rcases hcs i _ (a1 K)with⟨rfl,_⟩|⟨_,hi'⟩
     .omega
     .exact h.imm PV b o x cs imm tip hr hc i hi (cG.1 hi').1
    .rw[F PV e]at L;exact h.imm PV U O M m Y Z A L i hi K
   ext:=fun PV U O M m Y Z A L=>by
    by_cases e:PV=r
    .subst e;rw[hr]at A;simp only[bI]at A;obtain⟨rfl,rfl,rfl⟩:=A;rw[z]at L;simp only[au,HB.cells.injEq]at L;obtain⟨rfl,rfl,rfl⟩:=L;rw[J];exact hl
    .rw[F PV e]at L;exact h.ext PV U O M m Y Z A L
   fits:=fun PV U O M m Y Z A L=>by
    by_cases e:PV=r
    .subst e;rw[hr]at A;simp only[bI]at A;obtain⟨rfl,rfl,rfl⟩:=A;rw[z]at L;simp only[au,HB.cells.injEq]at L;obtain⟨rfl,rfl,rfl⟩:=L;rcases Bool.eq_false_or_eq_true tip with e1|e1
     .subst e1;exact hl
     .rw[hl' e1];exact h.fits _ _ _ _ _ _ _ hr hc
    .rw[F PV e]at L;exact h.fits PV U O M m Y Z A L
   room:=fun PV U O M m Y Z A L i hi K=>by
    by_cases e:PV=r
    .subst e;rw[hr]at A;simp only[bI]at A;obtain⟨rfl,rfl,rfl⟩:=A;rw[z]at L;simp only[au,HB.cells.injEq]at L;obtain⟨rfl,rfl,rfl⟩:=L;rw[J]at K;obtain⟨h1,h2,h3⟩:=h.room PV b o x cs imm tip hr hc i hi K;exact⟨hcell _ _ h1,by rw[World.frozen?_setCell];exact h2,h3⟩
    .rw[F PV e]at L;obtain⟨h1,h2,h3⟩:=h.room PV U O M m Y Z A L i hi K;exact⟨hcell _ _ h1,by rw[World.frozen?_setCell];exact h2,h3⟩
   apart:=fun PV U O M m Y Z Qq b2 o2 x2 cs2 imm2 tip2 A L hr2 hc2 hne i i' hi K hi' hil'=>by
    have key:∀k bk ok xk csk immk I,G.β k=some (bk,ok,xk)->(H.set r (.cells cs' imm tip)).get k=some (.cells csk immk I) ->
     ∃cs0,H.get k=some (.cells cs0 immk I)/\Q3 xk cs0 I=Q3 xk csk I:=fun k bk ok xk csk immk I hk hck=>by
     by_cases e:k=r
     .subst e;rw[hr]at hk;simp only[bI]at hk;obtain⟨rfl,rfl,rfl⟩:=hk;rw[z]at hck;simp only[au,HB.cells.injEq]at hck;obtain⟨rfl,rfl,rfl⟩:=hck;exact⟨cs,hc,J.symm⟩
     .rw[F k e]at hck;exact⟨csk,hck,rfl⟩
    obtain⟨c1,g1,e1⟩:=key PV U O M m Y Z A L;obtain⟨c2,g2,e2⟩:=key Qq b2 o2 x2 cs2 imm2 tip2 hr2 hc2;exact h.apart PV U O M c1 Y Z Qq b2 o2 x2 c2 imm2 tip2 A g1 hr2 g2 hne i i' hi aa hi' aa
   map:=fun PV U O M es A L=>by
    by_cases e:PV=r
    .subst e;rw[z]at L;simp at L
    .rw[F PV e]at L;obtain⟨ms,clock,h1,h2⟩:=h.map PV U O M es A L;refine⟨ms,clock,?_,h2⟩;have hb:U≠b:=fun eb=>by
      subst eb;unfold World.cell? at hu;rw[h1]at hu;simp at hu
     rw[Below.heap_setCell _ _ _ _ hb];exact h1
   mapApart:=fun PV U O M es Qq b2 o2 x2 A L hr2 hs hne=>by
    by_cases e:PV=r
    .subst e;rw[z]at L;simp at L
    .rw[F PV e]at L;refine h.mapApart PV U O M es Qq b2 o2 x2 A L hr2 ?_ hne;by_cases e2:Qq=r
     .subst e2;rw[hc];rfl
     .rw[F Qq e2]at hs;exact hs
   frz:=fun C g v' hf=>by rw[V _ _ (hkeep _ _ _ hf)];exact h.frz _ _ _ hf
   val:=h.val
   sym:=h.sym}
 .exact Below.heap_setCell _ _ _ _ (fun e=>hn r b o x hr e.symm)
theorem Ce{B:Bs}{H:Hp}{w:World}{G:Gh}(P:Program)(h:R B H w G){r b o x:Nat}{cs:List AV}{imm:Nat}{tip:Bool}(hr:G.β r=some (b,o,x))(V:H.get r=some (.cells cs imm tip))
 {j:Nat} (O:imm<=j) (C:j<Q3 x cs tip) {v:Value} (Z:v.oneCell'=true) :
 (store ⟨b,o+j,none⟩ v).run P w=.ok () (w.setCell ⟨b,o+j,none⟩ v):=by
 obtain⟨⟨u,Y⟩,i,_⟩:=h.room r b o x cs imm tip hr V j O C;rw[run_store P w _ v _ Z,Y];simp[i]
theorem Cf(cs:List AV)(off:Nat)(c:AV)(M:List AV)(h:off<=cs.length):splice cs off (c::M)=splice (splice cs off [c]) (off+1) M:=by
 unfold splice;have i:(List.take off cs++[c]++List.drop (off+[c].length) cs).take (off+1)=List.take off cs++[c]:=by
  rw[qL cQ,fF cQ]
 have g:(List.take off cs++[c]++List.drop (off+[c].length) cs).drop (off+1+M.length)=List.drop (off+(M.length+1)) cs:=by
  rw[List.drop_append,tq cQ];simp only[eh,kU,em,iX,List.drop_drop,e6]
  congr 1
  omega
 rw[i,g];simp
theorem Cg(cs:List AV)(off:Nat):splice cs off []=cs:=by simp[splice]
theorem Ch(cs:List AV)(off:Nat)(M:List AV)(h:off+M.length<=cs.length):(splice cs off M).length=cs.length:=by simp[splice];omega
theorem Ci(cs:List AV)(off:Nat)(M:List AV)(h:off<=cs.length):(splice cs off M).length=max cs.length (off+M.length):=by simp[splice];omega
theorem wu(cs M:List AV):splice cs cs.length M=cs++M:=by simp[splice]
theorem splice_one{cs:List AV}{j:Nat}(c:AV)(O:j<=cs.length){i:Nat}{d:AV}(h:(splice cs j [c])[i]?=some d):(i=j/\d=c)\/(i≠j/\cs[i]?=some d):=by
 unfold splice at h;by_cases F:i<j
 .rw[iz,iy cQ,js,az F]at h;exact .inr ⟨aa,h⟩
 .by_cases e:i=j
  .subst e;rw[iz,j8 cQ]at h;have J:i-(List.take i cs).length=0:=cQ;rw[J]at h;simp at h;exact .inl ⟨rfl,h.symm⟩
  .rw[j8 cQ]at h;rw[kV]at h;refine .inr ⟨e,?_⟩;rw[<-h]
   congr 1
   simp;omega
theorem jj(b o i:Nat):(⟨b,o,none⟩:Addr).add i=⟨b,o+i,none⟩:=by
 unfold Addr.add;split
 .rename_i e;subst e;rfl
 .rfl
theorem Step.congr{B:Bs}{U:Nat}{G L:Gh}{w w':World}{H H':Hp}(h:Step B U G w H w' L)(m:H'.next=H.next)(A:∀r,(L.β r).isSome->H'.get r=H.get r):Step B U G w H' w' L:=
 ⟨h.r.congr m A,h.ext,h.fr,h.new,h.low,by rw[m];exact h.mono,h.icy⟩
theorem tu{B:Bs}(P:Program){G:Gh}{r b o x:Nat}{imm:Nat}{tip:Bool}(hr:G.β r=some (b,o,x))(off:Nat):∀(Z:List AV) (vs:List Value) (M:List AV) (i:Nat) (H:Hp) (w:World),R B H w G ->
 H.get r=some (.cells M imm tip)->bl G Z vs->(∀v∈vs,v.oneCell'=true)->imm<=off+i->off+i<=M.length->off+i+Z.length<=Q3 x M tip->(tip=false->off+i+Z.length<=M.length) ->
 ∃K,(storeCells ⟨b,o+off,none⟩ vs i).run P w=.ok () K/\Step B H.next G w (H.set r (.cells (splice M (off+i) Z) imm tip)) K G:=by
 intro Z;induction Z with
 |nil=>
  intro vs M i H w z hc J Y g m F _;have I:vs=[]:=by have:=J.1;simpa using this.symm
  subst I;refine⟨w,rfl,(fU z).congr rfl fun k _=>?_⟩;rw[a9,Cg];split
  .rename_i e;subst e;rw[hc]
  .rfl
 |cons c Z ih=>
  intro vs M i H w z hc J Y g m F A;cases vs with
  |nil=>have:=J.1;simp at this
  |cons v vs=>
   obtain⟨hv1,I⟩:=J.of_cons;simp only[em]at F A;have V:(splice M (off+i) [c]).length=max M.length (off+i+1):=Ci _ _ _ m;have hext:=z.ext r b o x M imm tip hr hc;have O:=Cd z hr hc (j:=off+i) (cs':=splice M (off+i) [c]) (v:=v) g aa
    (fun k d hk=>by
      rcases splice_one c m hk with⟨e1,e2⟩|h2
      .subst e2;exact .inl ⟨e1,hv1⟩
      .exact .inr h2)
    (by rw[V];cases tip with
        |true=>simp only[Q3]at *;omega
        |false=>have:=A rfl;simp only[Q3]at *;omega)
    (fun C=>by have:=A C;rw[V];omega)
   have L:=Ce P z hr hc (j:=off+i) g aa (v:=v) (Y v aA);have hg1:(H.set r (.cells (splice M (off+i) [c]) imm tip)).get r=some (.cells (splice M (off+i) [c]) imm tip):=dQ;have U:Q3 x (splice M (off+i) [c]) tip=Q3 x M tip:=by
    cases tip with
    |true=>rfl
    |false=>have:=A rfl;simp only[Q3];omega
   obtain⟨K,hw',hs'⟩:=ih vs (splice M (off+i) [c]) (i+1) _ _ O.r hg1 I (fun u hu=>Y u (by simp[hu])) aa l0 (by rw[U];omega) (fun C=>by have:=A C;rw[V];omega);refine⟨K,?_,(O.trans hs').congr rfl fun k _=>?_⟩
   .simp only[storeCells,cR];rw[jj,fo,L];exact hw'
   .rw[a9,a9,a9,Cf _ _ _ _ m];split
    .rfl
    .rfl
theorem wv{B:Bs}{H:Hp}{w:World}{G:Gh}(h:R B H w G){r b o x:Nat}{cs:List AV}{imm:Nat}(hr:G.β r=some (b,o,x))(hc:H.get r=some (.cells cs imm true)){off:Nat}(hoff:off<=cs.length):
 Step B H.next G w ((H.kill r).alloc (.cells (cs.drop off) (imm-off) true)) w (G.add H.next (b,o+off,x-off)):=by
 have hno:∀q,G.β H.next=some q->False:=fun q hq=>by have:=h.dom _ _ hq;omega
 have hext:Ext G (G.add H.next (b,o+off,x-off)):=tt hno;have hrn:r≠H.next:=fun e=>by subst e;exact hno _ hr
 have Y:∀k p,(G.add H.next (b,o+off,x-off)).β k=some p->(k=H.next/\p=(b,o+off,x-off))\/(k≠H.next/\G.β k=some p):=fun k p V=>by
  simp only[Gh.add]at V;split at V
  .rename_i e;exact .inl ⟨e,by simpa using V.symm⟩
  .rename_i e;exact .inr ⟨e,V⟩
 have F:∀k q,k≠H.next->((H.kill r).alloc (.cells (cs.drop off) (imm-off) true)).get k=some q->k≠r/\H.get k=some q:=fun k q V hq=>by
  rw[P8,SS,af V,RH]at hq;split at hq
  .simp at hq
  .rename_i e;exact⟨e,hq⟩
 have U:((H.kill r).alloc (.cells (cs.drop off) (imm-off) true)).get H.next=some (.cells (cs.drop off) (imm-off) true):=by rw[P8,SS,az rfl]
 have hlen:=h.ext r b o x cs imm true hr hc;simp only[Q3]at hlen;refine⟨?_,hext,oX _ _,fun k z g x' V=>?_,fun k p V=>(Y k p V).elim (fun e=>.inr (by rw[e.1];exact aC _)) (fun e=>.inl e.2),aA,fun _ _ _ h=>.inl h⟩
 .exact{
   base:=h.base
   dom:=fun k p V=>by
    rcases Y k p V with⟨rfl,_⟩|⟨_,C⟩
    .simp
    .have:=h.dom k p C;simp;omega
   lt:=fun k z g x' V=>by
    rcases Y k _ V with⟨rfl,hp⟩|⟨_,C⟩
    .simp only[dR]at hp;obtain⟨rfl,rfl,rfl⟩:=hp;exact h.lt r _ _ _ hr
    .exact h.lt k z g x' C
   cells:=fun k z g x' O m i V I=>by
    rcases Y k _ V with⟨rfl,hp⟩|⟨J,C⟩
    .simp only[dR]at hp;obtain⟨rfl,rfl,rfl⟩:=hp;rw[U]at I;simp only[au,HB.cells.injEq]at I;obtain⟨rfl,rfl,rfl⟩:=I;intro j c hj;rw[kV]at hj;obtain⟨v,h1,h2⟩:=h.cells r _ _ _ _ _ _ hr hc (off+j) c hj;exact⟨v,by rw[fo];exact h1,h2.mono hext⟩
    .obtain⟨_,Z⟩:=F k _ J I;exact(h.cells k z g x' O m i C Z).mono hext
   imm:=fun k z g x' O m i V I j hj hjl=>by
    rcases Y k _ V with⟨rfl,hp⟩|⟨J,C⟩
    .simp only[dR]at hp;obtain⟨rfl,rfl,rfl⟩:=hp;rw[U]at I;simp only[au,HB.cells.injEq]at I;obtain⟨rfl,rfl,rfl⟩:=I;rw[hI]at hjl;rw[fo];exact h.imm r _ _ _ _ _ _ hr hc (off+j) aa aa
    .obtain⟨_,Z⟩:=F k _ J I;exact h.imm k z g x' O m i C Z j hj hjl
   ext:=fun k z g x' O m i V I=>by
    rcases Y k _ V with⟨rfl,hp⟩|⟨J,C⟩
    .simp only[dR]at hp;obtain⟨rfl,rfl,rfl⟩:=hp;rw[U]at I;simp only[au,HB.cells.injEq]at I;obtain⟨rfl,rfl,rfl⟩:=I;simp only[Q3,hI];omega
    .obtain⟨_,Z⟩:=F k _ J I;exact h.ext k z g x' O m i C Z
   fits:=fun k z g x' O m i V I=>by
    rcases Y k _ V with⟨rfl,hp⟩|⟨J,C⟩
    .simp only[dR]at hp;obtain⟨rfl,rfl,rfl⟩:=hp;rw[U]at I;simp only[au,HB.cells.injEq]at I;obtain⟨rfl,rfl,rfl⟩:=I;simp only[hI];omega
    .obtain⟨_,Z⟩:=F k _ J I;exact h.fits k z g x' O m i C Z
   room:=fun k z g x' O m i V I j hj hjl=>by
    rcases Y k _ V with⟨rfl,hp⟩|⟨J,C⟩
    .simp only[dR]at hp;obtain⟨rfl,rfl,rfl⟩:=hp;rw[U]at I;simp only[au,HB.cells.injEq]at I;obtain⟨rfl,rfl,rfl⟩:=I;simp only[Q3]at hjl;rw[fo];exact h.room r _ _ _ _ _ _ hr hc (off+j) aa oT
    .obtain⟨_,Z⟩:=F k _ J I;exact h.room k z g x' O m i C Z j hj hjl
   apart:=fun k1 b1 o1 x1 cs1 imm1 tip1 k2 b2 o2 x2 cs2 imm2 tip2 hk1 L hk2 hc2 J j1 j2 hj1 hl1 hj2 hl2 he=>by
    rcases Y k1 _ hk1 with⟨rfl,hp⟩|⟨hn1,M⟩
    .simp only[dR]at hp;obtain⟨rfl,rfl,rfl⟩:=hp;rw[U]at L;simp only[au,HB.cells.injEq]at L;obtain⟨rfl,rfl,rfl⟩:=L;simp only[Q3]at hl1;rcases Y k2 _ hk2 with⟨rfl,hp⟩|⟨hn2,A⟩
     .exact(J rfl).elim
     .obtain⟨hr2,hc2'⟩:=F k2 _ hn2 hc2;rw[fo];exact h.apart r _ _ _ _ _ _ k2 b2 o2 x2 cs2 imm2 tip2 hr hc A hc2' (Ne.symm hr2) (off+j1) j2 aa oT hj2 hl2 he
    .obtain⟨hr1,K⟩:=F k1 _ hn1 L;rcases Y k2 _ hk2 with⟨rfl,hp⟩|⟨hn2,A⟩
     .simp only[dR]at hp;obtain⟨rfl,rfl,rfl⟩:=hp;rw[U]at hc2;simp only[au,HB.cells.injEq]at hc2;obtain⟨rfl,rfl,rfl⟩:=hc2;simp only[Q3]at hl2;rw[fo];exact h.apart k1 b1 o1 x1 cs1 imm1 tip1 r _ _ _ _ _ _ M K hr hc hr1 j1 (off+j2) hj1 hl1 aa oT he
     .obtain⟨hr2,hc2'⟩:=F k2 _ hn2 hc2;exact h.apart k1 b1 o1 x1 cs1 imm1 tip1 k2 b2 o2 x2 cs2 imm2 tip2 M K A hc2' J j1 j2 hj1 hl1 hj2 hl2 he
   map:=fun k z g x' es V I=>by
    rcases Y k _ V with⟨rfl,hp⟩|⟨J,C⟩
    .rw[U]at I;simp at I
    .obtain⟨_,Z⟩:=F k _ J I;obtain⟨ms,clock,h1,h2⟩:=h.map k z g x' es C Z;exact⟨ms,clock,h1,h2.mono hext⟩
   mapApart:=fun k1 b1 o1 x1 es k2 b2 o2 x2 hk1 L hk2 hs J=>by
    rcases Y k1 _ hk1 with⟨rfl,hp⟩|⟨hn1,M⟩
    .rw[U]at L;simp at L
    .obtain⟨hr1,K⟩:=F k1 _ hn1 L;rcases Y k2 _ hk2 with⟨rfl,hp⟩|⟨hn2,A⟩
     .simp only[dR]at hp;obtain⟨rfl,rfl,rfl⟩:=hp;exact h.mapApart k1 b1 o1 x1 es r _ _ _ M K hr (by rw[hc];rfl) hr1
     .cases hh:((H.kill r).alloc (.cells (cs.drop off) (imm-off) true)).get k2 with
      |none=>simp[hh]at hs
      |some q=>
       obtain⟨_,hq⟩:=F k2 q hn2 hh;exact h.mapApart k1 b1 o1 x1 es k2 b2 o2 x2 M K A (by rw[hq];rfl) J
   frz:=h.frz
   val:=h.val
   sym:=h.sym}
 .rcases Y k _ V with⟨rfl,hp⟩|⟨_,C⟩
  .simp only[dR]at hp;obtain⟨rfl,rfl,rfl⟩:=hp;exact .inr (.inr ⟨r,o,x,hr⟩)
  .exact .inl C
def Gh.ice(G:Gh)(w:World)(b o n:Nat):Gh:={β:=G.β,F:=fun K J=>match G.F K J with
 |some v=>some v
 |none=>if K=b/\o<=J/\J<o+n then w.cell? ⟨K,J,none⟩else none,ρ:=G.ρ}
theorem Cj(G:Gh)(w:World)(b o n:Nat):Ext G (G.ice w b o n):=⟨fun _ _ h=>h,fun K J v h=>by simp[Gh.ice,h],rfl⟩
theorem o0{B:Bs}{H:Hp}{w:World}{G:Gh}(h:R B H w G){r b o x:Nat}{cs:List AV}{imm:Nat}{tip:Bool}(hr:G.β r=some (b,o,x))(hc:H.get r=some (.cells cs imm tip)){n:Nat}(himm:imm<=n)(hn:n<=cs.length)(i:Bool)(ht:i=true->tip=true):
 Step B H.next G w (H.set r (.cells cs n i)) w (G.ice w b o n):=by
 have M:Ext G (G.ice w b o n):=Cj _ _ _ _ _;have F:∀k,k≠r->(H.set r (.cells cs n i)).get k=H.get k:=fun k V=>by rw[a9,af V]
 have z:(H.set r (.cells cs n i)).get r=some (.cells cs n i):=dQ;have hex:=h.ext r b o x cs imm tip hr hc;have g:∀j,n<=j->j<Q3 x cs i->j<Q3 x cs tip:=fun j hj Y=>by
  cases i with
  |true=>rw[ht rfl];exact Y
  |false=>simp only[Q3]at Y;omega
 have hF:∀K J v,(G.ice w b o n).F K J=some v->w.cell? ⟨K,J,none⟩=some v:=fun K J v hf=>by
  simp only[Gh.ice]at hf;split at hf
  .rename_i u hu;simp only[au]at hf;subst hf;exact h.frz _ _ _ hu
  .split at hf
   .exact hf
   .simp at hf
 have hFin:∀j,j<n->∃v,(G.ice w b o n).F b (o+j)=some v:=fun j hj=>by
  obtain⟨v,h1,_⟩:=h.cells r b o x cs imm tip hr hc j _ (a1 aa);simp only[Gh.ice];split
  .rename_i u _;exact⟨u,rfl⟩
  .rw[az ⟨by trivial,aa,aa⟩];exact⟨v,h1⟩
 have hFout:∀K J,G.F K J=none->(K=b->J<o\/o+n<=J)->(G.ice w b o n).F K J=none:=fun K J hf hne=>by
  simp only[Gh.ice,hf];rw[af];rintro⟨e1,e2,e3⟩;have:=hne e1;omega
 refine⟨?_,M,oX _ _,l2 _ _,fun _ _ h=>.inl h,aC _,fun K J v' hv=>?_⟩;rotate_left
 .simp only[Gh.ice]at hv;split at hv
  .rename_i v'' hF';exact .inl (by rw[hF'];exact hv)
  .split at hv
   .rename_i hc';exact .inr (by rw[hc'.1];exact(h.lt r b o x hr).1)
   .simp at hv
 exact{
  base:=h.base
  dom:=h.dom
  lt:=h.lt
  cells:=fun k K J O U m Z V I=>by
   by_cases e:k=r
   .subst e;have C:G.β k=some (K,J,O):=V;rw[hr]at C;simp only[bI]at C;obtain⟨rfl,rfl,rfl⟩:=C;rw[z]at I;simp only[au,HB.cells.injEq]at I;obtain⟨rfl,rfl,rfl⟩:=I;exact(h.cells k _ _ _ _ _ _ hr hc).mono M
   .rw[F k e]at I;exact(h.cells k K J O U m Z V I).mono M
  imm:=fun k K J O U m Z V I j hj Y=>by
   by_cases e:k=r
   .subst e;have C:G.β k=some (K,J,O):=V;rw[hr]at C;simp only[bI]at C;obtain⟨rfl,rfl,rfl⟩:=C;rw[z]at I;simp only[au,HB.cells.injEq]at I;obtain⟨rfl,rfl,rfl⟩:=I;exact hFin j hj
   .rw[F k e]at I;obtain⟨v,hv⟩:=h.imm k K J O U m Z V I j hj Y;exact⟨v,M.F _ _ _ hv⟩
  ext:=fun k K J O U m Z V I=>by
   by_cases e:k=r
   .subst e;have C:G.β k=some (K,J,O):=V;rw[hr]at C;simp only[bI]at C;obtain⟨rfl,rfl,rfl⟩:=C;rw[z]at I;simp only[au,HB.cells.injEq]at I;obtain⟨rfl,rfl,rfl⟩:=I;cases i with
    |true=>rw[ht rfl]at hex;exact hex
    |false=>exact aC _
   .rw[F k e]at I;exact h.ext k K J O U m Z V I
  fits:=fun k K J O U m Z V I=>by
   by_cases e:k=r
   .subst e;have C:G.β k=some (K,J,O):=V;rw[hr]at C;simp only[bI]at C;obtain⟨rfl,rfl,rfl⟩:=C;rw[z]at I;simp only[au,HB.cells.injEq]at I;obtain⟨rfl,rfl,rfl⟩:=I;exact h.fits _ _ _ _ _ _ _ hr hc
   .rw[F k e]at I;exact h.fits k K J O U m Z V I
  room:=fun k K J O U m Z V I j hj Y=>by
   by_cases e:k=r
   .subst e;have C:G.β k=some (K,J,O):=V;rw[hr]at C;simp only[bI]at C;obtain⟨rfl,rfl,rfl⟩:=C;rw[z]at I;simp only[au,HB.cells.injEq]at I;obtain⟨rfl,rfl,rfl⟩:=I;have h1:=g j hj Y;obtain⟨g1,g2,g3⟩:=h.room k _ _ _ _ _ _ hr hc j aa h1;exact⟨g1,g2,hFout _ _ g3 (fun _=>aa)⟩
   .rw[F k e]at I;obtain⟨g1,g2,g3⟩:=h.room k K J O U m Z V I j hj Y;refine⟨g1,g2,hFout _ _ g3 (fun eb=>?_)⟩;by_cases hin:o<=J+j/\J+j<o+n
    .exfalso;have hj0:J+j-o<cs.length:=aa;have hj1:J+j-o<Q3 x cs tip:=aa;by_cases hi:imm<=J+j-o
     .exact h.apart k K J O U m Z r b o x cs imm tip V I hr hc e j (J+j-o) hj Y hi hj1 eb aa
     .obtain⟨v,hv⟩:=h.imm r b o x cs imm tip hr hc (J+j-o) aa hj0;rw[show o+(J+j-o)=J+j by omega,<-eb,g3]at hv;simp at hv
    .omega
  apart:=fun k1 b1 o1 x1 cs1 imm1 Z k2 b2 o2 x2 cs2 imm2 tip2 hk1 hc1 hk2 hc2 hne j1 j2 hj1 hl1 hj2 hl2 he=>by
   have key:∀k bk ok xk csk L A j,G.β k=some (bk,ok,xk)->(H.set r (.cells cs n i)).get k=some (.cells csk L A)->L<=j->j<Q3 xk csk A ->
    ∃cs0 imm0 tip0,H.get k=some (.cells cs0 imm0 tip0)/\imm0<=j/\j<Q3 xk cs0 tip0:=fun k bk ok xk csk L A j V I hj Y=>by
    by_cases e:k=r
    .subst e;have C:G.β k=some (bk,ok,xk):=V;rw[hr]at C;simp only[bI]at C;obtain⟨rfl,rfl,rfl⟩:=C;rw[z]at I;simp only[au,HB.cells.injEq]at I;obtain⟨rfl,rfl,rfl⟩:=I;exact⟨cs,imm,tip,hc,aa,g j hj Y⟩
    .rw[F k e]at I;exact⟨csk,L,A,I,hj,Y⟩
   obtain⟨c1,i1,t1,g1,RQ,SF⟩:=key k1 b1 o1 x1 cs1 imm1 Z j1 hk1 hc1 hj1 hl1;obtain⟨c2,i2,t2,g2,a2,SG⟩:=key k2 b2 o2 x2 cs2 imm2 tip2 j2 hk2 hc2 hj2 hl2;exact h.apart k1 b1 o1 x1 c1 i1 t1 k2 b2 o2 x2 c2 i2 t2 hk1 g1 hk2 g2 hne j1 j2 RQ SF a2 SG he
  map:=fun k K J O es V I=>by
   by_cases e:k=r
   .subst e;rw[z]at I;simp at I
   .rw[F k e]at I;obtain⟨ms,clock,h1,h2⟩:=h.map k K J O es V I;exact⟨ms,clock,h1,h2.mono M⟩
  mapApart:=fun k1 b1 o1 x1 es k2 b2 o2 x2 hk1 hc1 hk2 hs hne=>by
   by_cases e:k1=r
   .subst e;rw[z]at hc1;simp at hc1
   .rw[F k1 e]at hc1;refine h.mapApart k1 b1 o1 x1 es k2 b2 o2 x2 hk1 hc1 hk2 ?_ hne;by_cases e2:k2=r
    .subst e2;rw[hc];rfl
    .rw[F k2 e2]at hs;exact hs
  frz:=hF
  val:=h.val
  sym:=h.sym}
theorem Ck{B:Bs}{H:Hp}{w:World}{G:Gh}(h:R B H w G){r b o x:Nat}{cs:List AV}(hr:G.β r=some (b,o,x))(hx:cs.length<=x)(hc:en G w b o cs)(hF:∀j,j<cs.length->∃v,G.F b (o+j)=some v)
 (hmap:∀PV A o1 x1 es,G.β PV=some (A,o1,x1)->H.get PV=some (.map es)->A≠b) :
 Step B H.next G w (H.set r (.cells cs cs.length false)) w G:=by
 have F:∀k,k≠r->(H.set r (.cells cs cs.length false)).get k=H.get k:=fun k Z=>tm;have z:(H.set r (.cells cs cs.length false)).get r=some (.cells cs cs.length false):=dQ;have M:∀k K J V,k=r->G.β k=some (K,J,V)->K=b/\J=o/\V=x:=fun k K J V e Z=>by
  subst e;rw[hr]at Z;simp only[bI]at Z;exact⟨Z.1.symm,Z.2.1.symm,Z.2.2.symm⟩
 have U:∀Y m i,(H.set r (.cells cs cs.length false)).get r=some (.cells Y m i)->Y=cs/\m=cs.length/\i=false:=fun Y m i Z=>by
  rw[z]at Z;simp only[au,HB.cells.injEq]at Z;exact⟨Z.1.symm,Z.2.1.symm,Z.2.2.symm⟩
 refine⟨?_,ng _,oX _ _,l2 _ _,fun _ _ h=>.inl h,aC _,fun _ _ _ h=>.inl h⟩;exact{
  base:=h.base
  dom:=h.dom
  lt:=h.lt
  cells:=fun k K J V Y m i Z I=>by
   by_cases e:k=r
   .obtain⟨rfl,rfl,rfl⟩:=M k _ _ _ e Z;subst e;obtain⟨rfl,rfl,rfl⟩:=U _ _ _ I;exact hc
   .rw[F k e]at I;exact h.cells k K J V Y m i Z I
  imm:=fun k K J V Y m i Z I j hj C=>by
   by_cases e:k=r
   .obtain⟨rfl,rfl,rfl⟩:=M k _ _ _ e Z;subst e;obtain⟨rfl,rfl,rfl⟩:=U _ _ _ I;exact hF j C
   .rw[F k e]at I;exact h.imm k K J V Y m i Z I j hj C
  ext:=fun k K J V Y m i Z I=>by
   by_cases e:k=r
   .subst e;obtain⟨rfl,rfl,rfl⟩:=U _ _ _ I;exact aC _
   .rw[F k e]at I;exact h.ext k K J V Y m i Z I
  fits:=fun k K J V Y m i Z I=>by
   by_cases e:k=r
   .subst e;obtain⟨rfl,rfl,rfl⟩:=U _ _ _ I;obtain⟨_,_,rfl⟩:=M _ _ _ _ rfl Z;exact hx
   .rw[F k e]at I;exact h.fits k K J V Y m i Z I
  room:=fun k K J V Y m i Z I j hj C=>by
   by_cases e:k=r
   .subst e;obtain⟨rfl,rfl,rfl⟩:=U _ _ _ I;simp only[Q3]at C;omega
   .rw[F k e]at I;exact h.room k K J V Y m i Z I j hj C
  apart:=fun k1 A o1 x1 cs1 imm1 tip1 k2 b2 o2 x2 cs2 imm2 tip2 g L O hc2 hne j1 j2 hj1 hl1 hj2 hl2 he=>by
   by_cases e1:k1=r
   .subst e1;obtain⟨rfl,rfl,rfl⟩:=U _ _ _ L;simp only[Q3]at hl1;omega
   .by_cases e2:k2=r
    .subst e2;obtain⟨rfl,rfl,rfl⟩:=U _ _ _ hc2;simp only[Q3]at hl2;omega
    .rw[F k1 e1]at L;rw[F k2 e2]at hc2;exact h.apart k1 A o1 x1 cs1 imm1 tip1 k2 b2 o2 x2 cs2 imm2 tip2 g L O hc2 hne j1 j2 hj1 hl1 hj2 hl2 he
  map:=fun k K J V es Z I=>by
   by_cases e:k=r
   .subst e;rw[z]at I;simp at I
   .rw[F k e]at I;exact h.map k K J V es Z I
  mapApart:=fun k1 A o1 x1 es k2 b2 o2 x2 g L O hs hne=>by
   by_cases e:k1=r
   .subst e;rw[z]at L;simp at L
   .rw[F k1 e]at L;by_cases e2:k2=r
    .obtain⟨rfl,rfl,rfl⟩:=M k2 _ _ _ e2 O;exact hmap k1 A o1 x1 es g L
    .rw[F k2 e2]at hs;exact h.mapApart k1 A o1 x1 es k2 b2 o2 x2 g L O hs hne
  frz:=h.frz
  val:=h.val
  sym:=h.sym}
def l4(P:Program)(B:Bs)(H:Hp)(G:Gh)(w:World)(s:Sem Next)(c:AV)(H':Hp):Prop:=
 ∃n o L v,s.run P w=.ok n o/\(n=.value v\/(n=.skip/\v=undef))/\VR L c v/\Step B H.next G w H' o L
theorem ww{G:Gh}{v:Value}{c:AV}(h:oD v=some c):VR G c v:=by
 unfold oD at h;split at h<;>simp only[au,reduceCtorEq]at h<;>subst h<;>constructor;rfl
theorem wx{G:Gh}:∀{vs:List Value}{M:List AV},vs.mapM oD=some M->bl G M vs
 |[],M,h=>by simp at h;subst h;exact iZ G
 |v::vs,M,h=>by
  rw[List.mapM_cons]at h;simp only[Option.bind_eq_bind,iY,Option.pure_def,au]at h;obtain⟨c,hc,Z,V,rfl⟩:=h;exact fq (ww hc) (wx V)
theorem ni{G:Gh}{v:Value}{c:AV}(h:mZ v=some c):VR G c v:=by
 unfold mZ at h;split at h
 .rename_i M;simp only[jt]at h;obtain⟨l,I,rfl⟩:=h;have:=wx (G:=G) I;exact .agg (vs:=M.toList) this.1 this.2
 .exact ww h
theorem en.list{G:Gh}{w:World}{b:Nat}:∀{cs:List AV}{o:Nat},en G w b o cs->∃vs,bl G cs vs/\∀(j:Nat) v,vs[j]?=some v->w.cell? ⟨b,o+j,none⟩=some v
 |[],o,_=>⟨[],iZ G,aA⟩
 |c::cs,o,h=>by
  obtain⟨v,i,g⟩:=h 0 c rfl;obtain⟨vs,k1,k2⟩:=en.list (cs:=cs) (o:=o+1) (fun j d O=>by
   obtain⟨u,Y,Z⟩:=h (j+1) d oU;exact⟨u,by rw[show o+1+j=o+(j+1) by omega];exact Y,Z⟩)
  refine⟨v::vs,fq g k1,fun j u O=>?_⟩;cases j with
  |zero=>simp at O;subst O;exact i
  |succ j=>rw[show o+(j+1)=o+1+j by omega];exact k2 j u oU
theorem en.drop{G:Gh}{w:World}{b o:Nat}{cs:List AV}(h:en G w b o cs)(n:Nat):en G w b (o+n) (cs.drop n):=fun j c O=>by
 rw[kV]at O;rw[fo];exact h (n+j) c O
theorem en.take{G:Gh}{w:World}{b o:Nat}{cs:List AV}(h:en G w b o cs)(n:Nat):en G w b o (cs.take n):=fun j c O=>by
 rw[js]at O;split at O
 .exact h j c O
 .simp at O
section
variable {P:Program} {w:World} {t:TypeId}
theorem QV{d:TypeDesc}(h:P.underlying t=some d):(underlying t).run P w=.ok d w:=by simp[underlying,h]
theorem nj{i:TypeInfo}(h:P.info? t=some i):(typeInfo t).run P w=.ok i w:=by simp[typeInfo,h]
theorem wy{s:Nat}(h:P3 P t=some s):∃i,P.info? t=some i/\i.size=s:=by simpa [P3,jt]using h
theorem Sd{s:Nat}(h:P3 P t=some s):(sizeOf t).run P w=.ok s w:=by
 obtain⟨i,Z,g⟩:=wy h;simp[sizeOf,nj Z,g]
theorem wz{c:AV}(h:j0 P t=some c):∃i v,P.info? t=some i/\i.zero=some v/\mZ v=some c:=by
 unfold j0 at h;split at h
 .rename_i x d s Z j hp al fa U m ms F;exact⟨_,U,F,rfl,h⟩
 .simp at h
theorem Cl{c:AV}(h:j0 P t=some c):∃v,(∀w,(zeroValue t).run P w=.ok v w)/\∀G,VR G c v:=by
 obtain⟨i,v,Z,g,o⟩:=wz h;exact⟨v,fun w=>by simp[zeroValue,nj Z,g],fun G=>ni o⟩
theorem tv{z:List AV}(h:Qx P t=some z):∃i v c,P.info? t=some i/\i.zero=some v/\mZ v=some c/\c.cells=z:=by
 unfold Qx at h;split at h
 .rename_i c hc;simp only[au]at h;obtain⟨i,v,Z,g,o⟩:=wz hc;exact⟨i,v,c,Z,g,o,h⟩
 .simp at h
theorem o6{z:List AV}(h:Qx P t=some z):∃v,(∀w,(zeroValue t).run P w=.ok v w)/\∀G,bl G z v.cells.toList:=by
 obtain⟨i,v,c,Z,g,o,rfl⟩:=tv h;exact⟨v,fun w=>by simp[zeroValue,nj Z,g],fun G=>(ni o).cells⟩
def tw:TypeDesc->Bool
 | .struct _|.array _ _=>true
 |_=>false
theorem qP{d:TypeDesc}(h:P.underlying t=some d):(isAgg t).run P w=.ok (tw d) w:=by
 simp only[isAgg,cR,QV h,cV];cases d<;>rfl
theorem wA{cs:List AV}{off:Nat}{c:AV}(h:PY P t cs off=some c):
 (∃d s,P.underlying t=some d/\tw d=true/\P3 P t=some s/\((cs.drop off).take s).length=s/\c=.agg ((cs.drop off).take s)) \/
 (∃d,P.underlying t=some d/\tw d=false/\cs[off]?=some c):=by
 unfold PY at h;split at h
 .rename_i f hd;split at h
  .rename_i s K;simp only[]at h;split at h
   .rename_i I;simp only[au]at h;exact .inl ⟨_,s,hd,rfl,K,I,h.symm⟩
   .simp at h
  .simp at h
 .rename_i n e hd;split at h
  .rename_i s K;simp only[]at h;split at h
   .rename_i I;simp only[au]at h;exact .inl ⟨_,s,hd,rfl,K,I,h.symm⟩
   .simp at h
  .simp at h
 .rename_i d i g hd;refine .inr ⟨d,hd,?_,h⟩;cases d<;>first|rfl|exact(i _ rfl).elim|exact(g _ _ rfl).elim
 .simp at h
theorem wB{G:Gh}{b o off:Nat}{cs:List AV}{c:AV}(Z:en G w b o cs)(h:PY P t cs off=some c):
 ∃v,(loadVar t ⟨b,o+off,none⟩).run P w=.ok v w/\VR G c v:=by
 rcases wA h with⟨d,s,hd,K,Y,I,rfl⟩|⟨d,hd,K,hc⟩
 .obtain⟨vs,i,g⟩:=((Z.drop off).take s).list;refine⟨.agg vs.toArray,?_,.agg i.1 i.2⟩;simp only[loadVar,cR,qP hd,K,cV,cr,Sd Y];have F:vs.length=s:=by rw[<-i.1];exact I
  rw[<-F,run_loadCells_list _ _ vs (fun j v O=>by rw[jj];exact g j v O)];rfl
 .obtain⟨v,i,g⟩:=Z off c hc;refine⟨v,?_,g⟩;simp[loadVar,qP hd,K,i]
theorem qQ{G:Gh}{off:Nat}{cs:List AV}{vs:List Value}{c:AV}(J:bl G cs vs)(h:PY P t cs off=some c):
 ∃v,(part t vs.toArray off).run P w=.ok v w/\VR G c v:=by
 rcases wA h with⟨d,s,hd,Z,Y,I,rfl⟩|⟨d,hd,Z,hc⟩
 .have i:=(J.drop off).take s;refine⟨.agg ((vs.drop off).take s).toArray,?_,.agg i.1 i.2⟩;simp only[part,cR,qP hd,Z,cV,cr,Sd Y,fp]
  congr 2
  apply iA;simp
 .have M:off<cs.length:=(cG.1 hc).1;have K:off<vs.length:=by have:=J.1;omega
  refine⟨vs[off],?_,J.2 off c _ hc (a1 K)⟩;simp[part,qP hd,Z,K]
end
theorem nk{P:Program}{B:Bs}{G:Gh}{H:Hp}{w:World}(h:R B H w G){s:Sem Next}{c:AV}{v:Value}(hr:s.run P w=.ok (.value v) w)(J:VR G c v):l4 P B H G w s c H:=
 ⟨.value v,w,G,v,hr,.inl rfl,J,fU h⟩
theorem R8{H H':Hp}{x:Option AV}{c:AV}(h:ret H x=some (c,H')):x=some c/\H'=H:=by
 cases x with
 |none=>simp[ret]at h
 |some v=>simp[ret]at h;exact⟨by rw[h.1],h.2.symm⟩
section
variable {P:Program} {B:Bs} {G:Gh} {H H':Hp} {w:World} (h:R B H w G) {c:AV}
include h
theorem wC{t:TypeId}{a:AV}{U:Value}(K:VR G a U)(I:Ru P H t a=some c):∃v,(Instr.loadAt t U).run P w=.ok v w/\VR G c v:=by
 unfold Ru at I;split at I
 .rename_i r Z;cases K with
  |ptr hr=>
   split at I
   .rename_i M Y V hc;obtain⟨v,i,g⟩:=wB (h.cells _ _ _ _ _ _ _ hr hc) I;exact⟨v,wo,g⟩
   .simp at I
 .rename_i M;cases K with
  |iptr vs J F=>
   rename_i b o;have L:en G w b o M:=fun j d O=>⟨vs j,h.frz _ _ _ (J j (cG.1 O).1),F j d O⟩;obtain⟨v,i,g⟩:=wB L I;exact⟨v,wo,g⟩
 .simp at I
theorem Cm{t:TypeId}{a x:AV}{A F:Value}(ha:VR G a A)(hx:VR G x F)(K:RT P H t a x=some H'):
 ∃O,(Instr.storeAt t A F).run P w=.ok () O/\Step B H.next G w H' O G:=by
 unfold RT at K;split at K
 .rename_i r L;cases ha with
  |ptr hr=>
   rename_i b o ex;split at K
   .rename_i z J g s hc I;split at K
    .rename_i Z;obtain⟨h1,h2,h3,h4⟩:=Z;simp only[au]at K;subst K;have M:=hx.cells;have Y:F.cells.toList.length=s:=by rw[<-M.1];exact h1
     have j:∀v∈F.cells.toList,v.oneCell'=true:=fun v hv=>by
      obtain⟨i,m,rfl⟩:=List.getElem_of_mem hv;have V:i<x.cells.length:=by rw[M.1];exact m
      rw[(M.2 i _ _ (a1 V) (a1 m)).oneCell];exact iB.1 h4 _ (e9 V)
     have hex:=h.ext r b o ex z J g hr hc;obtain⟨O,hw,C⟩:=tu P hr L x.cells F.cells.toList z 0 H w h hc M j aa aa aa (fun _=>aa);refine⟨O,?_,oV⟩;have U:F.cells.size=s:=by simpa using Y
     simp only[Instr.storeAt,Instr.sureAddr,cR,fp,cV,storeVar,Sd I,U];simpa using hw
    .simp at K
   .simp at K
 .simp at K
end
section
variable {P:Program} {B:Bs} {G:Gh} {H H':Hp} {w:World}
theorem Cn{t:TypeId}{a c:AV}{U:Value}{i:Nat}(K:VR G a U)(g:PW P t a i=some c):∃v,(Instr.fieldAt t U i).run P w=.ok v w/\VR G c v:=by
 unfold PW at g;split at g
 .rename_i I hd;split at g
  .rename_i f Y;split at g
   .rename_i s V;have O:∀b o,U=.pointer (some ⟨b,o,none⟩)->(Instr.fieldAt t U i).run P w=.ok (.pointer (some ⟨b,o+f.offset,none⟩)) w:=fun b o e=>by
     subst e;simp only[Instr.fieldAt,cR,QV hd,cV];simp[Y,Instr.sureAddr,fieldPlace,Sd V,jj]
    split at g
    .rename_i r M;simp only[au]at g;subst g;cases K with
     |ptr hr=>exact⟨_,O _ _ rfl,tn⟩
    .rename_i F;simp only[au]at g;subst g;cases K with
     |iptr vs L J=>
      refine⟨_,O _ _ rfl,.iptr (fun j=>vs (f.offset+j)) (fun j Z=>?_) (fun j d Z=>?_)⟩
      .rw[hI]at Z;rw[fo];exact L _ aa
      .rw[kV]at Z;exact J _ _ Z
    .simp at g
   .simp at g
  .simp at g
 .simp at g
theorem Co{t:TypeId}{a c:AV}{U:Value}{i:Nat}(K:VR G a U)(g:Qu P t a i=some c):∃v,(Instr.field t U i).run P w=.ok v w/\VR G c v:=by
 unfold Qu at g;split at g
 .rename_i I M hd;cases K with
  |agg V J=>
   rename_i vs;split at g
   .rename_i f j;obtain⟨v,Z,Y⟩:=qQ (P:=P) (w:=w) ⟨V,J⟩ g;refine⟨v,?_,Y⟩;simp only[Instr.field,cR,QV hd,cV];simp only[j,cR,asAgg,fp,cV];exact Z
   .simp at g
 .simp at g
theorem Cp{t:TypeId}{a i c:AV}{I F:Value}(U:VR G a I)(m:VR G i F)(g:Qt P t a i=some c):∃v,(Instr.indexAt t I F).run P w=.ok v w/\VR G c v:=by
 unfold Qt at g;split at g
 .rename_i kk k;cases m;split at g
  .rename_i e hd;split at g
   .rename_i s K;split at g
    .rename_i r Y M z;split at g
     .rename_i Z;simp only[au]at g;subst g;cases U with
      |sl hr hl hc=>
       rename_i b o x V;refine⟨.pointer (some ⟨b,o+Y+k*s,none⟩),?_,tn⟩;simp only[Instr.indexAt,asIntOf,cR,fp,cV,QV hd];have h1:(0:Int)<=Int.ofNat k:=Int.natCast_nonneg k;have h2:(Int.ofNat k)<(M:Int):=by simpa using Z
       simp[Sd K,Z,jj]
     .simp at g
    .rename_i xs;split at g
     .rename_i O C;split at g
      .rename_i L;simp only[au]at g;subst g;have Z:k<xs.length:=(cG.1 C).1;cases U with
       |lst vs hz hF hv hc=>
        rename_i b o V z;have J:s=z:=by rw[<-L];exact hz k O C
        subst J;refine⟨.pointer (some ⟨b,o+k*s,none⟩),?_,.iptr (vs k) (fun j A=>hF k j Z aa) (fun j d A=>hv k j O d C A)⟩;simp only[Instr.indexAt,asIntOf,cR,fp,cV,QV hd];simp[Sd K,Z,jj]
       |lst0 a V=>simp at Z
      .simp at g
     .simp at g
    .simp at g
   .simp at g
  .rename_i n e hd;split at g
   .rename_i s K;split at g
    .rename_i r Y;split at g
     .rename_i Z;simp only[au]at g;subst g;cases U with
      |ptr hr=>
       rename_i b o x;refine⟨.pointer (some ⟨b,o+Y+k*s,none⟩),?_,tn⟩;simp only[Instr.indexAt,asIntOf,cR,fp,cV,QV hd];simp[Sd K,Z,jj,Instr.sureAddr]
     .simp at g
    .simp at g
   .simp at g
  .simp at g
 .simp at g
theorem Cq{t:TypeId}{a i c:AV}{U F:Value}(K:VR G a U)(Z:VR G i F)(g:jl P t a i=some c):∃v,(Instr.index t U F).run P w=.ok v w/\VR G c v:=by
 unfold jl at g;split at g
 .rename_i L k;cases Z;split at g
  .rename_i s hd;split at g
   .rename_i b z;simp only[au]at g;subst g;cases K with
    |str Y l I=>
     subst I;refine⟨_,?_,.int .u8 b.toNat⟩;have j:k<Y.size:=by
      have:=(cG.1 z).1;simpa using this
     have A:Y[k]?=some b:=by
      rw[ByteArray.getElem?_lt' _ _ j];have:=(cG.1 z).2;simp at this;rw[<-this];rfl
     simp only[Instr.index,asIntOf,cR,fp,cV,QV hd];simp[A]
   .simp at g
  .rename_i n e C hd;split at g
   .rename_i j;split at g
    .rename_i s V;cases K with
     |agg I J=>
      rename_i vs;obtain⟨v,O,M⟩:=qQ (P:=P) (w:=w) ⟨I,J⟩ g;refine⟨v,?_,M⟩;simp only[Instr.index,asIntOf,cR,fp,cV,QV hd];simp[Sd V,j,O]
    .simp at g
   .simp at g
  .simp at g
 .simp at g
theorem Cr{a c:AV}{U:Value}{i:Nat}(K:VR G a U)(g:extract a i=some c):∃v,(Instr.extract U i).run P w=.ok v w/\VR G c v:=by
 unfold extract at g;split at g
 .rename_i M;cases K with
  |tup I J=>
   rename_i vs;have F:i<M.length:=(cG.1 g).1;have j:i<vs.length:=aa;exact⟨vs[i],by simp[Instr.extract,j],J i c _ g (a1 j)⟩
 .simp at g
theorem tx{op:BinOp}{k:IntKind}{a b:Int}{c:AV}(hop:op≠.shl/\op≠.shr)(h:RR op k a b=some c)(V:TypeId):∃v,(binOp op V (.int k a) (.int k b)).run P w=.ok v w/\VR G c v:=by
 cases op<;>simp only[RR,au,reduceCtorEq]at h<;>first
  |(subst h;exact⟨_,by simp[binOp,Op.intArith,Op.intBits,Op.intCmp];rfl,j7⟩)
  |(subst h;exact⟨.int k (k.wrap (BitVec.ofInt k.bits a &&& ~~~ BitVec.ofInt k.bits b).toNat),by simp[binOp,Op.intBits],j7⟩)
  |(split at h
    ·simp at h
    .rename_i z;simp only[au]at h;subst h;exact⟨_,by simp[binOp,Op.intDiv,z];rfl,j7⟩)
  |simp at hop
theorem Cs{op:BinOp}{a b:ByteArray}{c:AV}(h:oF op a.data.toList b.data.toList=some c)(V:TypeId):∃v,(binOp op V (.string a) (.string b)).run P w=.ok v w/\VR G c v:=by
 have M:∀x y,lQ x y=Op.bytesLess x y:=fun x=>by
  induction x with
  |nil=>intro y;cases y<;>rfl
  |cons p x ih=>intro y;cases y with
   |nil=>rfl
   |cons q y=>simp[lQ,Op.bytesLess,ih]
 cases op<;>simp only[oF,au,reduceCtorEq,M]at h<;>first
  |(subst h;exact⟨.bool (a.data.toList == b.data.toList),nf,j7⟩)
  |(subst h;exact⟨.bool !(a.data.toList == b.data.toList),nf,j7⟩)
  |(subst h;exact⟨.bool (Op.bytesLess a.data.toList b.data.toList),nf,j7⟩)
  |(subst h;exact⟨.bool !(Op.bytesLess a.data.toList b.data.toList),nf,j7⟩)
  |(subst h;exact⟨.bool (Op.bytesLess a.data.toList b.data.toList||a.data.toList == b.data.toList),nf,j7⟩)
  |(subst h;exact⟨.bool !(Op.bytesLess a.data.toList b.data.toList||a.data.toList == b.data.toList),nf,j7⟩)
  |(split at h
    ·rename_i Z;simp only[au]at h;subst h;refine⟨.string (a++b),?_,.str _ _ ?_⟩
     .have z:¬((a.size+b.size:Nat):Int) > IntKind.i64.max:=by
       have i:a.size+b.size<=70368744177664:=by simpa [Rd]using Z
       have g:IntKind.i64.max=9223372036854775807:=rfl;rw[g];omega
      simp only[binOp,Op.stringOp,af z];rfl
     .simp
    .simp at h)
theorem wD(M:Nat){x y:AV}{F Z:Value}{r:Bool}{V:TypeId}(C:VR G x F)(A:VR G y Z)(h:qr P V x y=some r):(Op.equalIn (M+1) V F Z).run P w=.ok r w:=by
 unfold qr at h;split at h;all_goals first
  |(rename_i hd
    split at h<;>simp only[au,reduceCtorEq]at h<;>subst h<;>cases C<;>cases A<;>simp[Op.equalIn,QV hd]
    done)
  |(rename_i e hd
    split at h<;>simp only[au,reduceCtorEq]at h<;>subst h<;>cases C<;>cases A<;>simp[Op.equalIn,QV hd]
    done)
  |(rename_i Y z hd
    split at h<;>simp only[au,reduceCtorEq]at h<;>subst h<;>cases C<;>cases A<;>simp[Op.equalIn,QV hd]
    done)
  |(rename_i Y z I hd
    split at h<;>simp only[au,reduceCtorEq]at h<;>subst h<;>cases C<;>cases A<;>simp[Op.equalIn,QV hd]
    done)
  |simp at h
theorem qR{op:BinOp}{t:TypeId}{x y:Operand}{c d:AV}{cv A:Value}(V:VR G c cv)(hd:VR G d A)(h:∀l m,c=.agg l->d=.agg m->False):(eqGuard op t x y cv A).run P w=.ok () w:=by
 cases op<;>first|rfl|(cases V<;>cases hd<;>first|rfl|exact(h _ _ rfl rfl).elim)
theorem Ct(a b:ByteArray):(a == b)=(a.data.toList == b.data.toList):=by
 cases a with
 |mk x=>cases b with
  |mk y=>
   show(x == y)=_;rw[Bool.eq_iff_iff,iC,iC];exact⟨fun h=>by rw[h],fun h=>iA h⟩
theorem wE(M:Nat){x y:AV}{F Z:Value}{r:Bool}{V:TypeId}(C:VR G x F)(A:VR G y Z)(h:tg P V x y=some r):(Op.equalIn (M+1) V F Z).run P w=.ok r w:=by
 unfold tg at h;split at h
 .split at h
  .rename_i hd;split at h
   .rename_i j;simp only[au]at h;subst h j;cases C;cases A;simp[Op.equalIn,QV hd]
   .simp at h
  .simp at h
 .split at h
  .rename_i hd;simp only[au]at h;subst h;cases C with
   |str a Y K=>cases A with
    |str b U z=>
     subst K z;simp only[Op.equalIn,cR,QV hd,cV,fp,Ct]
  .simp at h
 .exact wD M C A h
theorem tz{xs V:List AV}{U O:List Value}(Z:bl G xs U)(Y:bl G V O)(M:Nat):∀(I:List Field) (r:Bool),m1 P xs V I=some r ->
 Sem.run P (forIn I (none,()) fun(f:Field) (_:Option Bool×Unit)=>
         if f.name="_" then pure (ForInStep.yield (none,()))
         else do
          let a <-part f.type U.toArray f.offset
          let b <-part f.type O.toArray f.offset
          let c <-Op.equalIn (M+1) f.type a b
          if c=false then pure (ForInStep.done (some false,()))else pure (ForInStep.yield (none,())))
  w=.ok (match r with|true=>(none,())|false=>(some false,())) w
 |[],r,h=>by
  simp only[m1,au]at h;subst h;rfl
 |f::I,r,h=>by
  unfold m1 at h;rw[List.forIn_cons];split at h
  .rename_i m;rw[az (by simpa using m)];simp only[cR,fp,cV];exact tz Z Y M I r h
  .rename_i m;rw[af (by simpa using m)];split at h
   .rename_i a b L z;obtain⟨o,J,K⟩:=qQ (P:=P) (w:=w) Z L;obtain⟨j,A,C⟩:=qQ (P:=P) (w:=w) Y z;split at h
    .rename_i F;have:=wE (P:=P) (w:=w) M K C F;simp only[cR,J,A,this,cV,kW,cC,fp];exact tz Z Y M I r h
    .rename_i F;have:=wE (P:=P) (w:=w) M K C F;simp only[au]at h;subst h;simp only[cR,J,A,this,cV,cr,fp]
    .simp at h
   .simp at h
theorem Cu(d:Nat){t:TypeId}{I:Array Field}{xs Y:Array Value}(hd:P.underlying t=some (.struct I))(K:P.stoodInHeld t=false):
 (Op.equalIn (d+1) t (.agg xs) (.agg Y)).run P w=(Sem.run P (forIn I.toList (none,()) fun(f:Field) (_:Option Bool×Unit)=>
   if f.name="_" then pure (ForInStep.yield (none,()))
   else do
    let a <-part f.type xs f.offset
    let b <-part f.type Y f.offset
    let c <-Op.equalIn d f.type a b
    if c=false then pure (ForInStep.done (some false,()))else pure (ForInStep.yield (none,())))
   w).andThen fun a o=>Sem.run P (match a.1 with|some r=>pure r|none=>pure true) o:=by
 simp[Op.equalIn,QV hd,K]
 congr 1
 funext a o
 rcases a with⟨_ |_,_⟩<;>rfl
theorem Cv(M:Nat){x y:AV}{F Y:Value}{r:Bool}{V:TypeId}(C:VR G x F)(A:VR G y Y)(h:lR P V x y=some r):(Op.equalIn (M+2) V F Y).run P w=.ok r w:=by
 unfold lR at h;split at h
 .unfold qs at h;split at h
  .rename_i I hd;split at h
   .simp at h
   .rename_i L;simp only[qM]at L;cases C with
    |agg m Z=>cases A with
     |agg O U=>
      have:=tz (P:=P) (w:=w) ⟨m,Z⟩ ⟨O,U⟩ M I.toList r h;rw[Cu (M+1) hd L.1,this];cases r<;>rfl
  .simp at h
 .exact wD (M+1) C A h
theorem Cw{x y:AV}{F Z:Value}{r:Bool}{V:TypeId}(C:VR G x F)(A:VR G y Z)(h:lR P V x y=some r):(Op.equal V F Z).run P w=.ok r w:=Cv 9998 C A h
theorem Cy{op:BinOp}{t:TypeId}{x y:Operand}{xs Y:List AV}{F Z:Value}(C:VR G (.agg xs) F)(V:VR G (.agg Y) Z){r:Bool}(h:qs P t xs Y=some r):(eqGuard op t x y F Z).run P w=.ok () w:=by
 unfold qs at h;split at h
 .split at h
  .simp at h
  .rename_i A;simp only[qM]at A;cases C;cases V;cases op<;>first|rfl|simp[eqGuard,A.2]
 .simp at h
theorem Cz{op:BinOp}{V:TypeId}{J K:Operand}{x y c:AV}{F Z:Value}(C:VR G x F)(A:VR G y Z)(O:∀k a k' b,x=.int k a->y=.int k' b->False)
 (U:∀a b,x=.str a->y=.str b->False) (L:∀k a,x=.sx k a->False) (o:∀k a k' b,x=.int k a->y=.sx k' b->False) (h:th P op V x y=some c) :
 ∃v,(do eqGuard op V J K F Z;binOp op V F Z:Sem Value).run P w=.ok v w/\VR G c v:=by
 unfold th at h;have Y:∃r,lR P V x y=some r/\((op=.eql/\c=.bool r)\/(op=.neq/\c=.bool !r)):=by
  split at h
  .split at h
   .rename_i r hr;simp only[au]at h;exact⟨r,hr,.inl ⟨rfl,h.symm⟩⟩
   .simp at h
  .split at h
   .rename_i r hr;simp only[au]at h;exact⟨r,hr,.inr ⟨rfl,h.symm⟩⟩
   .simp at h
  .simp at h
 obtain⟨r,hr,hop⟩:=Y;have I:(eqGuard op V J K F Z).run P w=.ok () w:=by
  have m:=hr;unfold lR at m;split at m
  .exact Cy C A m
  .rename_i i;exact qR C A i
 have M:=Cw (P:=P) (w:=w) C A hr;simp only[cR,I,cV];rcases hop with⟨rfl,rfl⟩|⟨rfl,rfl⟩
 .refine⟨.bool r,?_,.bool r⟩;have:binOp .eql V F Z=(do pure (.bool (<-Op.equal V F Z)):Sem Value):=by
   cases C<;>cases A<;>first|rfl|exact(O _ _ _ _ rfl rfl).elim|exact(U _ _ rfl rfl).elim|exact(L _ _ rfl).elim|exact(o _ _ _ _ rfl rfl).elim
  rw[this];simp[M]
 .refine⟨.bool !r,?_,.bool _⟩;have:binOp .neq V F Z=(do pure (.bool (!(<-Op.equal V F Z))):Sem Value):=by
   cases C<;>cases A<;>first|rfl|exact(O _ _ _ _ rfl rfl).elim|exact(U _ _ rfl rfl).elim|exact(L _ _ rfl).elim|exact(o _ _ _ _ rfl rfl).elim
  rw[this];simp[M]
theorem wF{x:AV}{k:IntKind}{e:Sx}{F:Value}(C:VR G x F)(h:qp x=some (k,e)):F=.int k (e.eval G.ρ):=by
 unfold qp at h;split at h
 .simp only[bI]at h;obtain⟨rfl,rfl⟩:=h;cases C;rfl
 .simp only[bI]at h;obtain⟨rfl,rfl⟩:=h;cases C;rfl
 .simp at h
theorem CA{op:BinOp}{k:IntKind}{a b n:Int}(h:RR op k a b=some (.int k n)):te op k a b=n:=by simp[te,h]
theorem CB{D:BinOp->Sx->Sx->Option Bool}(F:hM D G.ρ){op:BinOp}{k:IntKind}{a b:Sx}{c:AV}(h:tf D op k a b=some c)(V:TypeId):
 ∃v,(binOp op V (.int k (a.eval G.ρ)) (.int k (b.eval G.ρ))).run P w=.ok v w/\VR G c v:=by
 have z:∀(op:BinOp) (n:Int),(op≠.shl/\op≠.shr)->RR op k (a.eval G.ρ) (b.eval G.ρ)=some (.int k n)->c=.sx k (.bin op k a b) ->
  ∃v,(binOp op V (.int k (a.eval G.ρ)) (.int k (b.eval G.ρ))).run P w=.ok v w/\VR G c v:=fun op n hop Z hc=>by
  obtain⟨v,i,g⟩:=tx (P:=P) (w:=w) (G:=G) hop Z V;cases g;refine⟨_,i,?_⟩;subst hc;have:VR G (.sx k (.bin op k a b)) (.int k ((Sx.bin op k a b).eval G.ρ)):=.sx _ _;simp only[Sx.eval,CA Z]at this;exact this
 have C:D .eql b (.lit 0)=some false->b.eval G.ρ≠0:=fun hd=>by
  have:=F _ k _ _ _ hd;simp[RR,Sx.eval]at this;exact this
 cases op<;>simp only[tf,au,reduceCtorEq]at h<;>first
  |exact z _ _ aA rfl h.symm
  |(split at h
    ·rename_i hd;simp only[au]at h;first
      |exact z .quo (k.wrap ((a.eval G.ρ).tdiv (b.eval G.ρ))) aA (by simp only[RR,af (C hd)]) h.symm
      |exact z .rem ((a.eval G.ρ).tmod (b.eval G.ρ)) aA (by simp only[RR,af (C hd)]) h.symm
    .simp at h)
  |(split at h
    ·rename_i r hd;simp only[au]at h;subst h;exact tx (P:=P) (w:=w) (G:=G) aA (F _ k _ _ _ hd) V
    .simp at h)
theorem wG{D:BinOp->Sx->Sx->Option Bool}(U:hM D G.ρ){op:BinOp}{V:TypeId}{J K:Operand}{x y c:AV}{F Z:Value}(C:VR G x F)(A:VR G y Z)(M:∀l m,x=.agg l->y=.agg m->False)(h:qq D op x y=some c):
 ∃v,(do eqGuard op V J K F Z;binOp op V F Z:Sem Value).run P w=.ok v w/\VR G c v:=by
 have L:=qR (P:=P) (w:=w) (op:=op) (t:=V) (x:=J) (y:=K) C A M;simp only[cR,L,cV];unfold qq at h;split at h
 .rename_i k a k' b O Y;have I:=wF C O;have z:=wF A Y;subst I z;split at h
  .rename_i j;subst j;exact CB U h V
  .simp at h
 .simp at h
theorem CC{D:BinOp->Sx->Sx->Option Bool}(U:hM D G.ρ){op:BinOp}{V:TypeId}{J K:Operand}{x y c:AV}{F Z:Value}(C:VR G x F)(A:VR G y Z)(h:QR P D op V x y=some c):
 ∃v,(do eqGuard op V J K F Z;binOp op V F Z:Sem Value).run P w=.ok v w/\VR G c v:=by
 unfold QR at h;split at h
 .rename_i k a k' b;have Y:=qR (P:=P) (w:=w) (op:=op) (t:=V) (x:=J) (y:=K) C A aA;simp only[cR,Y,cV];cases C;cases A;unfold SO at h;split at h
  .unfold kN at h;split at h
   .simp only[au]at h;subst h;refine⟨_,?_,.int _ _⟩;simp only[binOp,Op.shift];rw[af aA];rfl
   .simp at h
  .unfold kN at h;split at h
   .simp only[au]at h;subst h;refine⟨_,?_,.int _ _⟩;simp only[binOp,Op.shift];rw[af aA];rfl
   .simp at h
  .rename_i i g;split at h
   .rename_i j;subst j;exact tx ⟨i,g⟩ h V
   .simp at h
 .rename_i a b;have Y:=qR (P:=P) (w:=w) (op:=op) (t:=V) (x:=J) (y:=K) C A aA;simp only[cR,Y,cV];cases C with
  |str M _ O=>
   cases A with
   |str L _ z=>
    subst O z;exact Cs h V
 .exact wG U C A aA h
 .exact wG U C A aA h
 .exact Cz C A dj dj dj dj h
theorem CD{op:UnOp}{x c:AV}{F:Value}(C:VR G x F)(h:j4 op x=some c):∃v,(Op.unary op F).run P w=.ok v w/\VR G c v:=by
 unfold j4 at h;split at h
 .cases C;simp only[au]at h;subst h;refine⟨_,rfl,?_⟩;exact .sx _ _
 .cases C;simp only[au]at h;subst h;refine⟨_,rfl,?_⟩;exact .sx _ _
 .cases C;simp only[RR,au]at h;subst h;exact⟨_,rfl,.int _ _⟩
 .cases C;simp only[RR,au]at h;subst h;exact⟨_,rfl,.int _ _⟩
 .cases C;simp only[au]at h;subst h;exact⟨_,rfl,.bool _⟩
 .simp at h
end
end Go.Ab
