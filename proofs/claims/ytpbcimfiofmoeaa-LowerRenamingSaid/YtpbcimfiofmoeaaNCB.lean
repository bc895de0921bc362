/- Parts: AbRel, AbMem, AbOps, AbOps2. -/
import Derived.Test.YtpbcimfiofmoeaaNCA
import Derived.WalkKit
set_option linter.unusedSimpArgs false
set_option linter.unusedVariables false
set_option linter.unusedSectionVars false
set_option linter.defProp false
set_option maxHeartbeats 32000000
namespace Go.Ab
set_option maxRecDepth 20000
open Go
theorem aw{P:Prop}(h:P:=by simp):P:=h
theorem xi{P:Prop}(h:P:=by simpa using hc):P:=h
theorem xj{P:Prop}(h:P:=by simpa using M):P:=h
theorem ac{P:Prop}(h:P:=by omega):P:=h
theorem jX{P:Prop}(h:P:=by rw[<- k r _ hr];exact hc):P:=h
theorem cc{P:Prop}(h:P:=by simp;omega):P:=h
theorem Ay{P:Prop}(h:P:=by have:=h.dom _ _ I;omega):P:=h
theorem lY{P:Prop}(h:P:=by rw[zaY,if_pos rfl]):P:=h
theorem gE{P:Prop}(h:P:=by rw[Hp.get_set,if_pos rfl]):P:=h
theorem uF{P:Prop}(h:P:=by rw[O];omega):P:=h
theorem uG{P:Prop}(h:P:=by simp only[zcp];omega):P:=h
theorem rR{P:Prop}(h:P:=by simpa using g):P:=h
theorem DV{P:Prop}(h:P:=by simpa [Instr.loadAt,Instr.sureAddr]using i):P:=h
theorem xl{P:Prop}(h:P:=by simpa using I):P:=h
theorem Az{P:Prop}(h:P:=by rw[Nat.add_assoc];exact .ptr hr):P:=h
theorem qF{P:Prop}(h:P:=by simpa using Y):P:=h
theorem pB{P:Prop}(h:P:=by constructor):P:=h
theorem ti{P:Prop}(h:P:=by simp[binOp,Op.stringOp,ByteArray.toList_eq]):P:=h
theorem kH{P:Prop}(h:P:=by assumption):P:=h
theorem fS{P:Prop}(h:P:=by rw[zaY,if_neg ac]):P:=h
def lZ:=@List.getElem?_append_left
def mS:=@List.getElem?_append_right
def oC:=@List.getElem?_take
def aj:=@if_pos
def aA:=@Nat.le_refl
def cm:=@Nat.le_trans
def l0:=@Nat.lt_of_lt_of_le
def hM:=@Nat.eq_of_beq_eq_true
def AA:=@Nat.ne_of_beq_eq_false
def mT:=@decide_true
def iZ:=@decide_false
def af:=@if_neg
def az:=@Option.some.injEq
def i4:=@Nat.blt_eq
def iA:=@Array.getD_eq_getD_getElem?
def tj:=@Array.getElem?_setIfInBounds
def fG:=@Prod.mk.injEq
def ej:=@List.getElem?_eq_some_iff
def aY:=@List.getElem?_eq_getElem
def b4:=@Nat.zero_add
def xm:=@Go.RowKit.Below.heap_alloc
def dV:=@Nat.le_succ
def AB:=@List.take_append_of_le_length
def eI:=@List.take_of_length_le
def AC:=@List.drop_of_length_le
def fy:=@List.length_append
def jr:=@List.length_take
def cS:=@List.length_cons
def ed:=@List.length_nil
def AD:=@List.drop_drop
def oD:=@List.nil_append
def mU:=@List.append_assoc
def qG:=@List.getElem?_drop
def d8:=@Go.Sem.run_bind
def i7:=@Nat.add_assoc
def js:=@List.length_drop
def dx:=@Option.bind_eq_some_iff
def oE:=@Option.map_eq_some_iff
def ee:=@Go.Result.andThen_ok
def cZ:=@if_true
def jt:=@Go.Sem.run_pure
def mV:=@Array.ext'
def AE:=@List.getElem_of_mem
def iB:=@List.all_eq_true
def dW:=@List.getElem_mem
def AF:=@Bool.eq_iff_iff
def mW:=@beq_iff_eq
def qH:=@Bool.true_eq_false
def de:=@if_false
def iC:=@Bool.or_eq_false_iff
def ce:=And.intro @az.{0} @fG.{0,0}
end Go.Ab
namespace Go.Ab
set_option maxRecDepth 20000
open Go Go.RowKit
structure Gh where
 β:Nat->Option (Nat×Nat×Nat)
 F:Nat->Nat->Option Value
 ρ:Nat->Int
structure Bs where
 at':Nat
 ρ:Nat->Int
 cfg:Cfg
def l4(D:BinOp->Sx->Sx->Option Bool)(ρ:Nat->Int):Prop:=∀O k a b r,D O a b=some r->zc9 O k (a.eval ρ) (b.eval ρ)=some (.bool r)
inductive VR (G:Gh):AV->Value->Prop
 |int (k:IntKind) (n:Int):VR G (.int k n) (.int k n)
 |sx (k:IntKind) (e:Sx):VR G (.sx k e) (.int k (e.eval G.ρ))
 |bool (b:Bool):VR G (.bool b) (.bool b)
 |str (s:ByteArray) (l:List UInt8) (h:s.data.toList=l):VR G (.str l) (.string s)
 |nilP:VR G .nilP (.pointer none)
 |nilM:VR G .nilM (.map none)
 |nilF:VR G .nilF .nilFunc
 |nilS:VR G .nilS (.slice none 0 0)
 |ptr {r off b o x:Nat} (h:G.β r=some (b,o,x)):VR G (.ptr r off) (.pointer (some ⟨b,o+off,none⟩))
 |iptr {cs:List AV}{b o:Nat} (vs:Nat->Value) (hF:∀j,j<cs.length->G.F b (o+j)=some (vs j))
  (hv:∀(j:Nat) (c:AV),cs[j]?=some c->VR G c (vs j)):VR G (.iptr cs) (.pointer (some ⟨b,o,none⟩))
 |sl {r off len z b o x cap:Nat} (h:G.β r=some (b,o,x)) (hl:len<=cap) (hc:off+cap*z<=x) :
  VR G (.sl r off len z) (.slice (some ⟨b,o+off,none⟩) len cap)
 |lst {xs:List (List AV)}{b o cap z:Nat} (vs:Nat->Nat->Value) (hz:∀(i:Nat) (row:List AV),xs[i]?=some row->row.length=z)
  (hF:∀i j,i<xs.length->j<z->G.F b (o+i*z+j)=some (vs i j))
  (hv:∀(i j:Nat) (row:List AV) (c:AV),xs[i]?=some row->row[j]?=some c->VR G c (vs i j)) (hc:xs.length<=cap) :
  VR G (.lst xs) (.slice (some ⟨b,o,none⟩) xs.length cap)
 |lst0 (a:Option Addr) (cap:Nat):VR G (.lst []) (.slice a 0 cap)
 |map {r b o x:Nat} (h:G.β r=some (b,o,x)):VR G (.map r) (.map (some b))
 |clo {f:Nat}{cs:List AV}{vs:List Value} (hl:cs.length=vs.length) (hv:∀(i:Nat) c v,cs[i]?=some c->vs[i]?=some v->VR G c v) :
  VR G (.clo f cs) (.func (.func f) #[] vs.toArray)
 |agg {cs:List AV}{vs:List Value} (hl:cs.length=vs.length) (hv:∀(i:Nat) c v,cs[i]?=some c->vs[i]?=some v->VR G c v) :
  VR G (.agg cs) (.agg vs.toArray)
 |tup {cs:List AV}{vs:List Value} (hl:cs.length=vs.length) (hv:∀(i:Nat) c v,cs[i]?=some c->vs[i]?=some v->VR G c v) :
  VR G (.tup cs) (.tuple vs.toArray)
def b8(G:Gh)(cs:List AV)(vs:List Value):Prop:=cs.length=vs.length/\∀(i:Nat) c v,cs[i]?=some c->vs[i]?=some v->VR G c v
theorem b8.nil(G:Gh):b8 G [] []:=⟨rfl,aw⟩
def nK:=@b8.nil
theorem b8.cons{G:Gh}{c:AV}{v:Value}{cs:List AV}{vs:List Value}(h:VR G c v)(J:b8 G cs vs):b8 G (c::cs) (v::vs):=by
 refine⟨by simp[J.1],fun i c' z hc M=>?_⟩;cases i with
 |zero=>simp at hc M;subst hc M;exact h
 |succ i=>exact J.2 i c' z xi xj
def mX:=@b8.cons
theorem b8.of_cons{G:Gh}{c:AV}{v:Value}{cs:List AV}{vs:List Value}(h:b8 G (c::cs) (v::vs)):VR G c v/\b8 G cs vs:=
 ⟨h.2 0 c v rfl rfl,by simpa using h.1,fun i c' z hc M=>h.2 (i+1) c' z xi xj⟩
theorem b8.append{G:Gh}{cs U:List AV}{vs K:List Value}(h:b8 G cs vs)(I:b8 G U K):b8 G (cs++U) (vs++K):=by
 refine⟨by simp[h.1,I.1],fun i c v hc M=>?_⟩;have Z:=h.1;by_cases z:i<cs.length
 .rw[lZ z]at hc;rw[lZ ac]at M;exact h.2 i c v hc M
 .rw[mS ac]at hc;rw[mS ac]at M;rw[<-Z]at M;exact I.2 _ c v hc M
theorem b8.drop{G:Gh}{cs:List AV}{vs:List Value}(h:b8 G cs vs)(n:Nat):b8 G (cs.drop n) (vs.drop n):=
 ⟨by simp[h.1],fun i c v hc M=>h.2 (n+i) c v xi xj⟩
theorem b8.take{G:Gh}{cs:List AV}{vs:List Value}(h:b8 G cs vs)(n:Nat):b8 G (cs.take n) (vs.take n):=by
 refine⟨by simp[h.1],fun i c v hc M=>?_⟩;rw[oC]at hc M;split at hc
 .rename_i z;rw[aj z]at M;exact h.2 i c v hc M
 .simp at hc
structure Ext (G G':Gh):Prop where
 β:∀r p,G.β r=some p->G'.β r=some p
 F:∀b o v,G.F b o=some v->G'.F b o=some v
 ρ:G'.ρ=G.ρ
theorem Ext.refl(G:Gh):Ext G G:=⟨fun _ _ h=>h,fun _ _ _ h=>h,rfl⟩
def tk:=@Ext.refl
theorem Ext.trans{a b c:Gh}(h:Ext a b)(k:Ext b c):Ext a c:=⟨fun r p hp=>k.β r p (h.β r p hp),fun x y v M=>k.F x y v (h.F x y v M),k.ρ.trans h.ρ⟩
theorem VR.mono{G C:Gh}(e:Ext G C){c:AV}{v:Value}(h:VR G c v):VR C c v:=by
 induction h with
 |int k n=>exact .int k n
 |sx k x=>rw[<-e.ρ];exact .sx k x
 |bool b=>exact .bool b
 |str s l h=>exact .str s l h
 |nilP=>exact .nilP
 |nilM=>exact .nilM
 |nilF=>exact .nilF
 |nilS=>exact .nilS
 |ptr h=>exact .ptr (e.β _ _ h)
 |iptr vs hF _ ih=>exact .iptr vs (fun j g=>e.F _ _ _ (hF j g)) ih
 |sl h K hc=>exact .sl (e.β _ _ h) K hc
 |lst vs Y hF _ hc ih=>exact .lst vs Y (fun i j z g=>e.F _ _ _ (hF i j z g)) ih hc
 |lst0 a Z=>exact .lst0 a Z
 |map h=>exact .map (e.β _ _ h)
 |clo K _ ih=>exact .clo K ih
 |agg K _ ih=>exact .agg K ih
 |tup K _ ih=>exact .tup K ih
theorem b8.mono{G C:Gh}(e:Ext G C){c:List AV}{v:List Value}(h:b8 G c v):b8 C c v:=⟨h.1,fun i a b ha o=>(h.2 i a b ha o).mono e⟩
theorem VR.oneCell{G:Gh}{c:AV}{v:Value}(h:VR G c v):v.oneCell'=c.one:=by cases h<;>rfl
theorem VR.cells{G:Gh}{c:AV}{v:Value}(h:VR G c v):b8 G c.cells v.cells.toList:=by
 cases h with
 |agg K M=>exact⟨by simpa [AV.cells,Value.cells]using K,by simpa [AV.cells,Value.cells]using M⟩
 |_=>exact mX (by constructor<;>assumption) (nK _)
def hO(G:Gh)(w:World)(b o:Nat)(cs:List AV):Prop:=∀(j:Nat) (c:AV),cs[j]?=some c->∃v,w.cell? ⟨b,o+j,none⟩=some v/\VR G c v
def zcp(x:Nat)(cs:List AV):Bool->Nat
 |true=>x
 |false=>cs.length
def pC(G:Gh)(j:List (AV×AV))(ms:List MapEntry):Prop:=
 j.length=ms.length/\∀(i:Nat) e m,j[i]?=some e->ms[i]?=some m->VR G e.1 m.key/\VR G e.2 m.val
structure R (B:Bs) (H:Hp) (w:World) (G:Gh):Prop where
 base:B.at'<=w.heap.size
 dom:∀r p,G.β r=some p->r<H.next
 lt:∀r b o x,G.β r=some (b,o,x)->B.at'<=b/\b<w.heap.size
 cells:∀r b o x cs imm tip,G.β r=some (b,o,x)->H.get r=some (.cells cs imm tip)->hO G w b o cs
 imm:∀r b o x cs imm tip,G.β r=some (b,o,x)->H.get r=some (.cells cs imm tip)->∀j,j<imm->j<cs.length->∃v,G.F b (o+j)=some v
 ext:∀r b o x cs imm tip,G.β r=some (b,o,x)->H.get r=some (.cells cs imm tip)->cs.length<=zcp x cs tip
 room:∀r b o x cs imm tip,G.β r=some (b,o,x)->H.get r=some (.cells cs imm tip)->∀j,imm<=j->j<zcp x cs tip ->
  (∃v,w.cell? ⟨b,o+j,none⟩=some v)/\w.frozen? ⟨b,o+j,none⟩=false/\G.F b (o+j)=none
 apart:∀r b o x cs imm tip r' b' o' x' cs' imm' tip',G.β r=some (b,o,x)->H.get r=some (.cells cs imm tip) ->
  G.β r'=some (b',o',x')->H.get r'=some (.cells cs' imm' tip')->r≠r' ->
  ∀j j',imm<=j->j<zcp x cs tip->imm'<=j'->j'<zcp x' cs' tip'->b=b'->o+j≠o'+j'
 map:∀r b o x es,G.β r=some (b,o,x)->H.get r=some (.map es)->∃ms clock,w.heap[b]?=some (.map ms clock)/\pC G es ms.toList
 mapApart:∀r b o x es r' b' o' x',G.β r=some (b,o,x)->H.get r=some (.map es)->G.β r'=some (b',o',x')->(H.get r').isSome->r≠r'->b≠b'
 frz:∀b o v,G.F b o=some v->w.cell? ⟨b,o,none⟩=some v
 val:G.ρ=B.ρ
 sym:l4 B.cfg.dec B.ρ
 fits:∀r b o x cs imm tip,G.β r=some (b,o,x)->H.get r=some (.cells cs imm tip)->cs.length<=x
structure Fr (G:Gh) (w w':World):Prop where
 os:w'.os=w.os
 tape:w'.tape=w.tape
 output:w'.output=w.output
 size:w.heap.size<=w'.heap.size
 block:∀k,k<w.heap.size->(∀r b o x,G.β r=some (b,o,x)->b≠k)->w'.heap[k]?=w.heap[k]?
theorem Fr.refl(G:Gh)(w:World):Fr G w w:=⟨rfl,rfl,rfl,aA _,fun _ _ _=>rfl⟩
def uH:=@Fr.refl
def pD(G C:Gh)(w:World):Prop:=∀r b o x,C.β r=some (b,o,x)->G.β r=some (b,o,x)\/w.heap.size<=b\/∃z g U,G.β z=some (b,g,U)
theorem Fr.trans{G C:Gh}{a b c:World}(h:Fr G a b)(k:Fr C b c)(n:pD G C a):Fr G a c:=
 ⟨k.os.trans h.os,k.tape.trans h.tape,k.output.trans h.output,cm h.size k.size,fun i z hn=>
  (k.block i (l0 z h.size) (fun r b o x hr U=>by
    rcases n r b o x hr with Z|Z|⟨Y,g,V,Z⟩
    .exact hn r b o x Z U
    .omega
    .exact hn Y b g V Z U)).trans (h.block i z hn)⟩
theorem pD.refl(G:Gh)(w:World):pD G G w:=fun _ _ _ _ h=>.inl h
def rS:=@pD.refl
theorem pD.trans{G Z C:Gh}{w w':World}(h:pD G Z w)(k:pD Z C w')(J:w.heap.size<=w'.heap.size):pD G C w:=fun r b o x hr=>by
 rcases k r b o x hr with i|i|⟨z,Y,U,i⟩
 .exact h r b o x i
 .exact .inr (.inl ac)
 .rcases h z b Y U i with g|g|g
  .exact .inr (.inr ⟨z,Y,U,g⟩)
  .exact .inr (.inl g)
  .exact .inr (.inr g)
structure Step (B:Bs) (nx:Nat) (G:Gh) (w:World) (H':Hp) (w':World) (G':Gh):Prop where
 r:R B H' w' G'
 ext:Ext G G'
 fr:Fr G w w'
 new:pD G G' w
 low:∀r p,G'.β r=some p->G.β r=some p\/nx<=r
 mono:nx<=H'.next
 icy:∀b o v,G'.F b o=some v->G.F b o=some v\/B.at'<=b
theorem Step.refl{B:Bs}{H:Hp}{G:Gh}{w:World}(h:R B H w G):Step B H.next G w H w G:=⟨h,tk _,uH _ _,rS _ _,fun _ _ h=>.inl h,aA _,fun _ _ _ h=>.inl h⟩
def jY:=@Step.refl
theorem Step.trans{B:Bs}{Z:Nat}{H' L:Hp}{G Y C:Gh}{w w' I:World}(h:Step B Z G w H' w' Y)(k:Step B H'.next Y w' L I C):Step B Z G w L I C:=
 ⟨k.r,h.ext.trans k.ext,h.fr.trans k.fr h.new,h.new.trans k.new h.fr.size,fun r p hr=>by
  rcases k.low r p hr with i|i
  .exact h.low r p i
  .exact .inr (cm h.mono i),cm h.mono k.mono,fun b o v M=>by
  rcases k.icy b o v M with i|i
  .exact h.icy b o v i
  .exact .inr i⟩
structure TR (N:Nat) (G:Gh) (E:au) (a:Act):Prop where
 size:a.tmps.size=N
 slots:∀t,VR G (E.at t) (a.tmps.getD t undef)
theorem TR.mono{N:Nat}{G C:Gh}{E:au}{a:Act}(e:Ext G C)(h:TR N G E a):TR N C E a:=⟨h.size,fun t=>(h.slots t).mono e⟩
theorem VR.undef(G:Gh):VR G zcb Go.undef:=.tup (cs:=[]) (vs:=[]) rfl aw
def uI:=@VR.undef
@[simp] theorem pE {α:Type} (x y:α):jn true x y=x:=rfl
@[simp] theorem zdq {α:Type} (x y:α):jn false x y=y:=rfl
theorem uJ{z:Type}(k:Nat):(T.e:T z).get k=none:=rfl
theorem rT{z:Type}(v:Option z)(l r:T z)(k:Nat):
 (T.n v l r).get k=jn (Nat.beq k 0) v (jn (Nat.beq (Nat.mod k 2) 1) (l.get (Nat.div k 2)) (r.get (Nat.sub (Nat.div k 2) 1))):=rfl
theorem LK{z:Type}(v:Option z)(f:Nat)(t:T z)(k:Nat):rE v (f+1) t k=T.casesOn t
 (jn (Nat.beq k 0) (.n v .e .e) (jn (Nat.beq (Nat.mod k 2) 1) (.n none (rE v f .e (Nat.div k 2)) .e) (.n none .e (rE v f .e (Nat.sub (Nat.div k 2) 1)))))
 (fun u l r=>jn (Nat.beq k 0) (.n v l r) (jn (Nat.beq (Nat.mod k 2) 1) (.n u (rE v f l (Nat.div k 2)) r) (.n u l (rE v f r (Nat.sub (Nat.div k 2) 1))))):=rfl
theorem LL{z:Type}(v:Option z):∀(f:Nat) (t:T z) (k j:Nat),k<f->(rE v f t k).get j=if j=k then v else t.get j:=by
 intro f;induction f with
 |zero=>intro t k j h;omega
 |succ f ih=>
  intro t k j h;have hd:∀n:Nat,Nat.div n 2=n/2:=fun _=>rfl;have U:∀n:Nat,Nat.mod n 2=n%2:=fun _=>rfl;have Y:∀n:Nat,Nat.sub n 1=n-1:=fun _=>rfl;have K:∀n m:Nat,Nat.beq n m=decide (n=m):=fun n m=>by
   cases h:Nat.beq n m with
   |true=>have e:=hM h;simp[e]
   |false=>have e:=AA h;simp[e]
  rw[LK];cases t with
  |e=>
   simp only[];by_cases g:k=0
   .subst g;simp only[K,mT,pE,rT,uJ];by_cases O:j=0<;>simp[O] ;cases decide (j.mod 2=1)<;>rfl
   .simp only[K,g,iZ,zdq];by_cases J:Nat.mod k 2=1
    .simp only[J,mT,pE,rT,K];by_cases Z:j=0
     .subst Z;simp[uJ];omega
     .simp only[Z,iZ,zdq];by_cases V:Nat.mod j 2=1
      .simp only[V,mT,pE];rw[ih _ _ _ (by rw[hd];omega)];rw[hd,hd,U]at *;by_cases e:j=k
       .subst e;simp
       .rw[af ac,af e];rfl
      .simp only[V,iZ,zdq,uJ];rw[af (by rintro rfl;exact V J)]
    .simp only[J,iZ,zdq,rT,K];by_cases Z:j=0
     .subst Z;simp[uJ];omega
     .simp only[Z,iZ,zdq];by_cases V:Nat.mod j 2=1
      .simp only[V,mT,pE,uJ];rw[af (by rintro rfl;exact J V)]
      .simp only[V,iZ,zdq];rw[ih _ _ _ (by rw[hd,Y];omega)];rw[hd,hd,Y,Y];rw[U]at J V;by_cases e:j=k
       .subst e;simp
       .rw[af ac,af e];rfl
  |n u l r=>
   simp only[];by_cases g:k=0
   .subst g;simp only[K,mT,pE,rT];by_cases O:j=0<;>simp[O]
   .simp only[K,g,iZ,zdq];by_cases J:Nat.mod k 2=1
    .simp only[J,mT,pE,rT,K];by_cases Z:j=0
     .subst Z;simp;omega
     .simp only[Z,iZ,zdq];by_cases V:Nat.mod j 2=1
      .simp only[V,mT,pE];rw[ih _ _ _ (by rw[hd];omega)];rw[U]at J V;rw[hd,hd];by_cases e:j=k
       .subst e;simp
       .rw[af ac,af e]
      .simp only[V,iZ,zdq];rw[af (by rintro rfl;exact V J)]
    .simp only[J,iZ,zdq,rT,K];by_cases Z:j=0
     .subst Z;simp;omega
     .simp only[Z,iZ,zdq];by_cases V:Nat.mod j 2=1
      .simp only[V,mT,pE];rw[af (by rintro rfl;exact J V)]
      .simp only[V,iZ,zdq];rw[ih _ _ _ (by rw[hd,Y];omega)];rw[U]at J V;rw[hd,hd,Y,Y];by_cases e:j=k
       .subst e;simp
       .rw[af ac,af e]
theorem T.get_set{z:Type}(t:T z)(k j:Nat)(v:Option z):(t.set k v).get j=if j=k then v else t.get j:=LL v (k+1) t k j ac
def xn:=@T.get_set
theorem Hp.get_set(h:Hp)(r j:Nat)(b:HB):(h.set r b).get j=if j=r then some b else h.get j:=xn _ _ _ _
def aC:=@Hp.get_set
theorem zcW(h:Hp)(r j:Nat):(h.kill r).get j=if j=r then none else h.get j:=xn _ _ _ _
theorem zaY(h:Hp)(j:Nat)(b:HB):(h.alloc b).get j=if j=h.next then some b else h.get j:=xn _ _ _ _
@[simp] theorem zbl (h:Hp) (r:Nat) (b:HB):(h.set r b).next=h.next:=rfl
@[simp] theorem zdN (h:Hp) (r:Nat):(h.kill r).next=h.next:=rfl
@[simp] theorem zbb (h:Hp) (b:HB):(h.alloc b).next=h.next+1:=rfl
theorem tl(E:au)(d t:Nat)(v:AV):au.at (T.set E d (some v)) t=if t=d then v else E.at t:=by
 unfold au.at;rw[xn];split<;>rfl
theorem TR.put{N:Nat}{G:Gh}{E j:au}{a:Act}(h:TR N G E a){K:Option Tmp}{c:AV}{v:Value}(M:VR G c v)(I:ei N E K c=some j):TR N G j (a.put K v):=by
 cases K with
 |none=>simp[ei]at I;subst I;exact h
 |some d=>
  simp only[ei]at I;split at I
  .rename_i hd;simp only[az]at I;subst I;have Z:d<N:=by simpa [i4]using hd
   refine⟨by simp[Act.put,h.size],fun t=>?_⟩;rw[tl];simp only[Act.put];by_cases e:t=d
   .subst e;rw[aj rfl];simpa [Array.getD,h.size,Z]using M
   .rw[af e];have:=h.slots t;simpa [iA,tj,Ne.symm e]using this
  .simp at I
theorem mY{w:World}{b o:Nat}{v:Value}(h:w.cell? ⟨b,o,none⟩=some v):b<w.heap.size:=World.block_lt_of_cell? w ⟨b,o,none⟩ h
theorem R.congr{B:Bs}{H H':Hp}{w:World}{G:Gh}(h:R B H w G)(J:H'.next=H.next)(C:∀r,(G.β r).isSome->H'.get r=H.get r):R B H' w G:=by
 have k:∀r p,G.β r=some p->H'.get r=H.get r:=fun r p hr=>C r (by simp[hr]);exact{
  base:=h.base
  dom:=fun r p hr=>by rw[J];exact h.dom r p hr
  lt:=h.lt
  cells:=fun r b o x Z imm g hr hc=>h.cells r b o x Z imm g hr jX
  imm:=fun r b o x Z imm g hr hc=>h.imm r b o x Z imm g hr jX
  ext:=fun r b o x Z imm g hr hc=>h.ext r b o x Z imm g hr jX
  fits:=fun r b o x Z imm g hr hc=>h.fits r b o x Z imm g hr jX
  room:=fun r b o x Z imm g hr hc=>h.room r b o x Z imm g hr jX
  apart:=fun r b o x Z imm g z Y V U O m M hr hc K L=>h.apart r b o x Z imm g z Y V U O m M hr jX K (by rw[<-k z _ K];exact L)
  map:=fun r b o x j hr hc=>h.map r b o x j hr jX
  mapApart:=fun r b o x j z Y V U hr hc K I=>h.mapApart r b o x j z Y V U hr jX K (by rw[<-k z _ K];exact I)
  frz:=h.frz
  val:=h.val
  sym:=h.sym}
theorem R.kill{B:Bs}{H:Hp}{w:World}{G:Gh}(h:R B H w G)(zbf:Nat):R B (H.kill zbf) w G:=by
 have k:∀j b,(H.kill zbf).get j=some b->H.get j=some b:=fun j b Y=>by
  rw[zcW]at Y;split at Y
  .simp at Y
  .exact Y
 exact{
  base:=h.base
  dom:=h.dom
  lt:=h.lt
  cells:=fun r b o x Z imm g hr hc=>h.cells r b o x Z imm g hr (k _ _ hc)
  imm:=fun r b o x Z imm g hr hc=>h.imm r b o x Z imm g hr (k _ _ hc)
  ext:=fun r b o x Z imm g hr hc=>h.ext r b o x Z imm g hr (k _ _ hc)
  fits:=fun r b o x Z imm g hr hc=>h.fits r b o x Z imm g hr (k _ _ hc)
  room:=fun r b o x Z imm g hr hc=>h.room r b o x Z imm g hr (k _ _ hc)
  apart:=fun r b o x Z imm g z V U O L m M hr hc K J=>h.apart r b o x Z imm g z V U O L m M hr (k _ _ hc) K (k _ _ J)
  map:=fun r b o x I hr hc=>h.map r b o x I hr (k _ _ hc)
  mapApart:=fun r b o x I z V U O hr hc K i=>h.mapApart r b o x I z V U O hr (k _ _ hc) K (by
   cases C:(H.kill zbf).get z with
   |none=>simp[C]at i
   |some b=>rw[k _ _ C];rfl)
  frz:=h.frz
  val:=h.val
  sym:=h.sym}
def Gh.add(G:Gh)(r:Nat)(p:Nat×Nat×Nat):Gh:={β:=fun k=>if k=r then some p else G.β k,F:=G.F,ρ:=G.ρ}
theorem zdK(G:Gh)(r:Nat)(p:Nat×Nat×Nat):(G.add r p).β r=some p:=by simp[Gh.add]
theorem AG{G:Gh}{r:Nat}{p:Nat×Nat×Nat}(h:∀q,G.β r=some q->False):Ext G (G.add r p):=
 ⟨fun k q j=>by
  simp only[Gh.add];split
  .rename_i e;subst e;exact(h q j).elim
  .exact j,fun _ _ _ h=>h,rfl⟩
theorem hO.mono{G C:Gh}{w:World}{b o:Nat}{cs:List AV}(e:Ext G C)(h:hO G w b o cs):hO C w b o cs:=
 fun j c g=>let ⟨v,i,Z⟩:=h j c g;⟨v,i,Z.mono e⟩
theorem pC.mono{G C:Gh}{j:List (AV×AV)}{ms:List MapEntry}(e:Ext G C)(h:pC G j ms):pC C j ms:=
 ⟨h.1,fun i a b ha o=>⟨(h.2 i a b ha o).1.mono e,(h.2 i a b ha o).2.mono e⟩⟩
theorem DW{B:Bs}{nx zbf:Nat}{X:Hp}{w:World}{G:Gh}(h:R B X w G){cs:List AV}{vs:List Value}(hno:∀q,G.β zbf=some q->False)(hlt0:zbf<X.next)(M:X.get zbf=some (.cells cs 0 true))(hnx:nx<=zbf)
 (hv:b8 G cs vs) (O:List Value) (e:TypeId) :
 Step B nx G w X (w.alloc (.cells (vs++O).toArray e)) (G.add zbf (w.heap.size,0,vs.length+O.length)):=by
 have U:Ext G (G.add zbf (w.heap.size,0,vs.length+O.length)):=AG hno;have C:∀k m i,k<w.heap.size->m=k->(w.alloc (.cells (vs++O).toArray e)).cell? ⟨m,i,none⟩=w.cell? ⟨m,i,none⟩:=fun k m i hk hb=>World.cell?_alloc_lt _ _ _ (by simpa [hb]using hk);have hnew:∀j,(w.alloc (.cells (vs++O).toArray e)).cell? ⟨w.heap.size,j,none⟩=(vs++O)[j]?:=fun j=>by
  rw[World.cell?_alloc_new];simp
 have g:∀r p,(G.add zbf (w.heap.size,0,vs.length+O.length)).β r=some p->(r=zbf/\p=(w.heap.size,0,vs.length+O.length))\/(r≠zbf/\G.β r=some p):=fun r p hr=>by
  simp only[Gh.add]at hr;split at hr
  .rename_i e;exact .inl ⟨e,by simpa using hr.symm⟩
  .rename_i e;exact .inr ⟨e,hr⟩
 refine⟨?_,U,⟨rfl,rfl,rfl,aw,fun k hk _=>?_⟩,fun r b o x hr=>?_,fun r p hr=>(g r p hr).elim (fun e=>.inr (by rw[e.1];exact hnx)) (fun e=>.inl e.2),ac,fun _ _ _ h=>.inl h⟩
 .exact{
   base:=by have:=h.base;simp;omega
   dom:=fun r p hr=>by
    rcases g r p hr with⟨rfl,_⟩|⟨_,K⟩
    .exact hlt0
    .exact h.dom r p K
   lt:=fun r b o x hr=>by
    rcases g r _ hr with⟨rfl,hp⟩|⟨_,K⟩
    .simp only[fG]at hp;obtain⟨rfl,rfl,rfl⟩:=hp;exact⟨h.base,aw⟩
    .have:=h.lt r b o x K;exact⟨this.1,cc⟩
   cells:=fun r b o x V imm Z hr hc=>by
    rcases g r _ hr with⟨rfl,hp⟩|⟨L,K⟩
    .simp only[fG]at hp;obtain⟨rfl,rfl,rfl⟩:=hp;rw[M]at hc;simp only[az,HB.cells.injEq]at hc;obtain⟨rfl,rfl,rfl⟩:=hc;intro j c z;have Y:j<cs.length:=(ej.1 z).1;have hjv:j<vs.length:=by have:=hv.1;omega
     refine⟨vs[j],?_,(hv.2 j c _ z (aY hjv)).mono U⟩;rw[b4,hnew,lZ hjv,aY hjv]
    .intro j c z;obtain⟨v,h1,h2⟩:=h.cells r b o x V imm Z K hc j c z;exact⟨v,by rw[C _ _ _ (mY h1) rfl];exact h1,h2.mono U⟩
   imm:=fun r b o x V imm Z hr hc j z Y=>by
    rcases g r _ hr with⟨rfl,hp⟩|⟨L,K⟩
    .rw[M]at hc;simp only[az,HB.cells.injEq]at hc;obtain⟨rfl,rfl,rfl⟩:=hc;omega
    .exact h.imm r b o x V imm Z K hc j z Y
   ext:=fun r b o x V imm Z hr hc=>by
    rcases g r _ hr with⟨rfl,hp⟩|⟨L,K⟩
    .simp only[fG]at hp;obtain⟨rfl,rfl,rfl⟩:=hp;rw[M]at hc;simp only[az,HB.cells.injEq]at hc;obtain⟨rfl,rfl,rfl⟩:=hc;have:=hv.1;simp only[zcp];omega
    .exact h.ext r b o x V imm Z K hc
   fits:=fun r b o x V imm Z hr hc=>by
    rcases g r _ hr with⟨rfl,hp⟩|⟨L,K⟩
    .simp only[fG]at hp;obtain⟨rfl,rfl,rfl⟩:=hp;rw[M]at hc;simp only[az,HB.cells.injEq]at hc;obtain⟨rfl,rfl,rfl⟩:=hc;have:=hv.1;omega
    .exact h.fits r b o x V imm Z K hc
   room:=fun r b o x V imm Z hr hc j z Y=>by
    rcases g r _ hr with⟨rfl,hp⟩|⟨L,K⟩
    .simp only[fG]at hp;obtain⟨rfl,rfl,rfl⟩:=hp;rw[M]at hc;simp only[az,HB.cells.injEq]at hc;obtain⟨rfl,rfl,rfl⟩:=hc;simp only[zcp]at Y;refine⟨⟨(vs++O)[j]' cc,?_⟩,?_,?_⟩
     .rw[b4,hnew,aY]
     .simp
     .cases hf:G.F w.heap.size (0+j)with
      |none=>exact hf
      |some v=>have:=mY (h.frz _ _ _ hf);omega
    .obtain⟨⟨v,h1⟩,h2,h3⟩:=h.room r b o x V imm Z K hc j z Y;exact⟨⟨v,by rw[C _ _ _ (mY h1) rfl];exact h1⟩,by rw[World.frozen?_alloc_old _ _ _ (by have:=mY h1;simp;omega)];exact h2,h3⟩
   apart:=fun r b o x cs1 imm Z r' m i x' cs2 imm' tip' hr hc K hc' L j j' z Y hj' hjl' he=>by
    rcases g r _ hr with⟨rfl,hp⟩|⟨hn1,J⟩
    .simp only[fG]at hp;obtain⟨rfl,rfl,rfl⟩:=hp;rcases g r' _ K with⟨rfl,hp⟩|⟨hn2,I⟩
     .exact(L rfl).elim
     .have:=(h.lt r' m i x' I).2;omega
    .rcases g r' _ K with⟨rfl,hp⟩|⟨hn2,I⟩
     .simp only[fG]at hp;obtain⟨rfl,rfl,rfl⟩:=hp;have:=(h.lt r b o x J).2;omega
     .exact h.apart r b o x cs1 imm Z r' m i x' cs2 imm' tip' J hc I hc' L j j' z Y hj' hjl' he
   map:=fun r b o x es hr hc=>by
    rcases g r _ hr with⟨rfl,hp⟩|⟨L,K⟩
    .rw[M]at hc;simp at hc
    .obtain⟨ms,clock,h1,h2⟩:=h.map r b o x es K hc;refine⟨ms,clock,?_,h2.mono U⟩;rw[xm _ _ _ (h.lt r b o x K).2];exact h1
   mapApart:=fun r b o x es r' m i x' hr hc K hs L=>by
    rcases g r _ hr with⟨rfl,hp⟩|⟨hn1,J⟩
    .rw[M]at hc;simp at hc
    .rcases g r' _ K with⟨rfl,hp⟩|⟨hn2,I⟩
     .simp only[fG]at hp;obtain⟨rfl,rfl,rfl⟩:=hp;have:=(h.lt r b o x J).2;omega
     .exact h.mapApart r b o x es r' m i x' J hc I hs L
   frz:=fun b o v hf=>by
    have:=h.frz b o v hf;rw[C _ _ _ (mY this) rfl];exact this
   val:=h.val
   sym:=h.sym}
 .exact xm _ _ _ hk
 .rcases g r _ hr with⟨rfl,hp⟩|⟨_,K⟩
  .simp only[fG]at hp;obtain⟨rfl,rfl,rfl⟩:=hp;exact .inr (.inl (aA _))
  .exact .inl K
theorem DX{B:Bs}{nx zbf:Nat}{X:Hp}{w:World}{G:Gh}(h:R B X w G)(hno:∀q,G.β zbf=some q->False)(hlt0:zbf<X.next)(M:X.get zbf=some (.map []))(hnx:nx<=zbf):
 Step B nx G w X (w.alloc (.map #[] 0)) (G.add zbf (w.heap.size,0,0)):=by
 have U:Ext G (G.add zbf (w.heap.size,0,0)):=AG hno;have O:∀k I z,k<w.heap.size->I=k->(w.alloc (.map #[] 0)).cell? ⟨I,z,none⟩=w.cell? ⟨I,z,none⟩:=fun k I z hk hb=>World.cell?_alloc_lt _ _ _ (by simpa [hb]using hk);have g:∀r p,(G.add zbf (w.heap.size,0,0)).β r=some p->(r=zbf/\p=(w.heap.size,0,0))\/(r≠zbf/\G.β r=some p):=fun r p hr=>by
  simp only[Gh.add]at hr;split at hr
  .rename_i e;exact .inl ⟨e,by simpa using hr.symm⟩
  .rename_i e;exact .inr ⟨e,hr⟩
 refine⟨?_,U,⟨rfl,rfl,rfl,aw,fun k hk _=>?_⟩,fun r b o x hr=>?_,fun r p hr=>(g r p hr).elim (fun e=>.inr (by rw[e.1];exact hnx)) (fun e=>.inl e.2),ac,fun _ _ _ h=>.inl h⟩
 .exact{
   base:=by have:=h.base;simp;omega
   dom:=fun r p hr=>by
    rcases g r p hr with⟨rfl,_⟩|⟨_,K⟩
    .exact hlt0
    .exact h.dom r p K
   lt:=fun r b o x hr=>by
    rcases g r _ hr with⟨rfl,hp⟩|⟨_,K⟩
    .simp only[fG]at hp;obtain⟨rfl,rfl,rfl⟩:=hp;exact⟨h.base,aw⟩
    .have:=h.lt r b o x K;exact⟨this.1,cc⟩
   cells:=fun r b o x V imm Z hr hc=>by
    rcases g r _ hr with⟨rfl,hp⟩|⟨L,K⟩
    .rw[M]at hc;simp at hc
    .intro j c m;obtain⟨v,i,h2⟩:=h.cells r b o x V imm Z K hc j c m;exact⟨v,by rw[O _ _ _ (mY i) rfl];exact i,h2.mono U⟩
   imm:=fun r b o x V imm Z hr hc j m Y=>by
    rcases g r _ hr with⟨rfl,hp⟩|⟨L,K⟩
    .rw[M]at hc;simp at hc
    .exact h.imm r b o x V imm Z K hc j m Y
   ext:=fun r b o x V imm Z hr hc=>by
    rcases g r _ hr with⟨rfl,hp⟩|⟨L,K⟩
    .rw[M]at hc;simp at hc
    .exact h.ext r b o x V imm Z K hc
   fits:=fun r b o x V imm Z hr hc=>by
    rcases g r _ hr with⟨rfl,hp⟩|⟨L,K⟩
    .rw[M]at hc;simp at hc
    .exact h.fits r b o x V imm Z K hc
   room:=fun r b o x V imm Z hr hc j m Y=>by
    rcases g r _ hr with⟨rfl,hp⟩|⟨L,K⟩
    .rw[M]at hc;simp at hc
    .obtain⟨⟨v,i⟩,h2,h3⟩:=h.room r b o x V imm Z K hc j m Y;exact⟨⟨v,by rw[O _ _ _ (mY i) rfl];exact i⟩,by rw[World.frozen?_alloc_old _ _ _ (by have:=mY i;simp;omega)];exact h2,h3⟩
   apart:=fun r b o x cs1 imm Z r' I z x' cs2 imm' tip' hr hc K hc' L j j' m Y hj' hjl' he=>by
    rcases g r _ hr with⟨rfl,hp⟩|⟨hn1,C⟩
    .rw[M]at hc;simp at hc
    .rcases g r' _ K with⟨rfl,hp⟩|⟨hn2,J⟩
     .rw[M]at hc';simp at hc'
     .exact h.apart r b o x cs1 imm Z r' I z x' cs2 imm' tip' C hc J hc' L j j' m Y hj' hjl' he
   map:=fun r b o x es hr hc=>by
    rcases g r _ hr with⟨rfl,hp⟩|⟨L,K⟩
    .simp only[fG]at hp;obtain⟨rfl,rfl,rfl⟩:=hp;rw[M]at hc;simp only[az,HB.map.injEq]at hc;subst hc;exact⟨#[],0,by show(w.heap.push _)[w.heap.size]?=_;simp,rfl,aw⟩
    .obtain⟨ms,clock,i,h2⟩:=h.map r b o x es K hc;refine⟨ms,clock,?_,h2.mono U⟩;rw[xm _ _ _ (h.lt r b o x K).2];exact i
   mapApart:=fun r b o x es r' I z x' hr hc K hs L=>by
    rcases g r _ hr with⟨rfl,hp⟩|⟨hn1,C⟩
    .simp only[fG]at hp;obtain⟨rfl,rfl,rfl⟩:=hp;rcases g r' _ K with⟨rfl,hp⟩|⟨hn2,J⟩
     .exact(L rfl).elim
     .have:=(h.lt r' I z x' J).2;omega
    .rcases g r' _ K with⟨rfl,hp⟩|⟨hn2,J⟩
     .simp only[fG]at hp;obtain⟨rfl,rfl,rfl⟩:=hp;have:=(h.lt r b o x C).2;omega
     .exact h.mapApart r b o x es r' I z x' C hc J hs L
   frz:=fun b o v hf=>by
    have:=h.frz b o v hf;rw[O _ _ _ (mY this) rfl];exact this
   val:=h.val
   sym:=h.sym}
 .exact xm _ _ _ hk
 .rcases g r _ hr with⟨rfl,hp⟩|⟨_,K⟩
  .simp only[fG]at hp;obtain⟨rfl,rfl,rfl⟩:=hp;exact .inr (.inl (aA _))
  .exact .inl K
theorem R.more{B:Bs}{H X:Hp}{w:World}{G:Gh}(h:R B H w G)(J:H.next<=X.next)(C:∀r,r<H.next->X.get r=H.get r):R B X w G:=by
 have k:∀r p,G.β r=some p->X.get r=H.get r:=fun r p hr=>C r (h.dom r p hr);exact{
  base:=h.base
  dom:=fun r p hr=>l0 (h.dom r p hr) J
  lt:=h.lt
  cells:=fun r b o x Z imm g hr hc=>h.cells r b o x Z imm g hr jX
  imm:=fun r b o x Z imm g hr hc=>h.imm r b o x Z imm g hr jX
  ext:=fun r b o x Z imm g hr hc=>h.ext r b o x Z imm g hr jX
  fits:=fun r b o x Z imm g hr hc=>h.fits r b o x Z imm g hr jX
  room:=fun r b o x Z imm g hr hc=>h.room r b o x Z imm g hr jX
  apart:=fun r b o x Z imm g z Y V U O m M hr hc K L=>h.apart r b o x Z imm g z Y V U O m M hr jX K (by rw[<-k z _ K];exact L)
  map:=fun r b o x j hr hc=>h.map r b o x j hr jX
  mapApart:=fun r b o x j z Y V U hr hc K I=>h.mapApart r b o x j z Y V U hr jX K (by rw[<-k z _ K];exact I)
  frz:=h.frz
  val:=h.val
  sym:=h.sym}
theorem R.alloc{B:Bs}{H:Hp}{w:World}{G:Gh}(h:R B H w G)(z:HB):R B (H.alloc z) w G:=
 h.more (dV _) (fun r hr=>fS)
theorem xo{B:Bs}{H:Hp}{w:World}{G:Gh}(h:R B H w G){cs:List AV}{vs:List Value}(M:b8 G cs vs)(O:List Value)(e:TypeId):
 Step B H.next G w (H.alloc (.cells cs 0 true)) (w.alloc (.cells (vs++O).toArray e)) (G.add H.next (w.heap.size,0,vs.length+O.length)):=
 DW (h.alloc _) (fun q I=>Ay) aw lY (aA _) M O e
theorem LM{B:Bs}{H:Hp}{w:World}{G:Gh}(h:R B H w G):
 Step B H.next G w (H.alloc (.map [])) (w.alloc (.map #[] 0)) (G.add H.next (w.heap.size,0,0)):=
 DX (h.alloc _) (fun q I=>Ay) aw lY (aA _)
inductive Made (G:Gh):HB->Obj->Nat->Prop
 |cells (cs:List AV) (vs spare:List Value) (e:TypeId) (hv:b8 G cs vs):Made G (.cells cs 0 true) (.cells (vs++spare).toArray e) (vs.length+spare.length)
 |map:Made G (.map []) (.map #[] 0) 0
theorem DY{B:Bs}{Z zbf:Nat}{X:Hp}{w:World}{G:Gh}{z:HB}{I:Obj}{ext:Nat}(h:R B X w G)(m:∀q,G.β zbf=some q->False)(L:zbf<X.next)(C:X.get zbf=some z)(o:Z<=zbf)(V:Made G z I ext):
 Step B Z G w X (w.alloc I) (G.add zbf (w.heap.size,0,ext)):=by
 cases V with
 |cells Y vs O e M=>exact DW h m L C o M O e
 |map=>exact DX h m L C o
def nL(P:Program)(G:Gh)(w:World){Z:Type}(s:Sem Z)(f:Value->Z)(c:AV)(H H':Hp):Prop:=
 ∃z I ext v,H'=H.alloc z/\s.run P w=.ok (f v) (w.alloc I)/\Made G z I ext/\∀C:Gh,C.β H.next=some (w.heap.size,0,ext)->VR C c v
theorem nL.sim{P:Program}{B:Bs}{H H':Hp}{w:World}{G:Gh}(h:R B H w G){s:Sem Value}{c:AV}(V:nL P G w s id c H H'):∃v J C,s.run P w=.ok v J/\VR C c v/\Step B H.next G w H' J C:=by
 obtain⟨z,Z,ext,v,rfl,i,g,m⟩:=V;exact⟨v,_,_,i,m _ (zdK _ _ _),DY (h.alloc _) (fun q I=>Ay) aw lY (aA _) g⟩
theorem nL.next{P:Program}{H H':Hp}{w:World}{G:Gh}{s:Sem Value}{c:AV}(V:nL P G w s id c H H'):nL P G w (do pure (.value (<-s)):Sem Next) Next.value c H H':=by
 obtain⟨z,I,ext,v,J,i,g,m⟩:=V;exact⟨z,I,ext,v,J,by simp[i],g,m⟩
theorem LN{b o Y g:Nat}(h:b=Y->o≠g):(⟨b,o,none⟩:Addr)≠⟨Y,g,none⟩:=fun e=>by
 simp only[Addr.mk.injEq]at e;exact h e.1 e.2.1
theorem LO{B:Bs}{H:Hp}{w:World}{G:Gh}(h:R B H w G){r b o x:Nat}{cs cs':List AV}{imm:Nat}{tip:Bool}(hr:G.β r=some (b,o,x))(hc:H.get r=some (.cells cs imm tip))
 {j:Nat} (hj:imm<=j) (hjl:j<zcp x cs tip) {v:Value}
 (hcs:∀(i:Nat) c,cs'[i]?=some c->(i=j/\VR G c v)\/(i≠j/\cs[i]?=some c)) (hl:cs'.length<=zcp x cs tip) (hl':tip=false->cs'.length=cs.length) :
 Step B H.next G w (H.set r (.cells cs' imm tip)) (w.setCell ⟨b,o+j,none⟩ v) G:=by
 obtain⟨⟨u,hu⟩,hfz,hF⟩:=h.room r b o x cs imm tip hr hc j hj hjl;have hsame:(w.setCell ⟨b,o+j,none⟩ v).cell? ⟨b,o+j,none⟩=some v:=World.cell?_setCell_same _ _ _ hu;have J:∀b' o',(b'=b->o'≠o+j)->(w.setCell ⟨b,o+j,none⟩ v).cell? ⟨b',o',none⟩=w.cell? ⟨b',o',none⟩:=fun b' o' hne=>
  World.cell?_setCell_other _ _ _ _ (LN fun e e'=>hne e.symm e'.symm)
 have g:zcp x cs' tip=zcp x cs tip:=by
  cases tip with
  |true=>rfl
  |false=>exact hl' rfl
 have K:∀k,k≠r->(H.set r (.cells cs' imm tip)).get k=H.get k:=fun k hk=>by rw[aC,af hk]
 have M:(H.set r (.cells cs' imm tip)).get r=some (.cells cs' imm tip):=gE;have hkeep:∀b' o' v',G.F b' o'=some v'->(b'=b->o'≠o+j):=fun b' o' v' hf e e'=>by subst e;subst e';rw[hF]at hf;simp at hf
 have hcell:∀b' o',(∃v',w.cell? ⟨b',o',none⟩=some v')->∃v',(w.setCell ⟨b,o+j,none⟩ v).cell? ⟨b',o',none⟩=some v':=fun b' o' ⟨v',hv'⟩=>by
  by_cases e:b'=b/\o'=o+j
  .obtain⟨rfl,rfl⟩:=e;exact⟨v,hsame⟩
  .exact⟨v',by rw[J b' o' (fun e1 e2=>e ⟨e1,e2⟩)];exact hv'⟩
 refine⟨?_,tk _,⟨rfl,rfl,rfl,aw,fun k hk hn=>?_⟩,rS _ _,fun _ _ h=>.inl h,aA _,fun _ _ _ h=>.inl h⟩
 .exact{
   base:=by have:=h.base;simpa using this
   dom:=h.dom
   lt:=fun r b o x hr=>by have:=h.lt r b o x hr;simpa using this
   cells:=fun O I C z L V Y Z U=>by
    by_cases e:O=r
    .subst e;rw[hr]at Z;simp only[ce]at Z;obtain⟨rfl,rfl,rfl⟩:=Z;rw[M]at U;simp only[az,HB.cells.injEq]at U;obtain⟨rfl,rfl,rfl⟩:=U;intro i c hi;rcases hcs i c hi with⟨rfl,hv⟩|⟨hne,hi'⟩
     .exact⟨v,hsame,hv⟩
     .obtain⟨v',h1,h2⟩:=h.cells O b o x cs imm tip hr hc i c hi';exact⟨v',by rw[J _ _ (fun _=>ac)];exact h1,h2⟩
    .rw[K O e]at U;intro i c hi;obtain⟨v',h1,h2⟩:=h.cells O I C z L V Y Z U i c hi;refine⟨v',?_,h2⟩;rw[J]
     .exact h1
     .have m:i<L.length:=(ej.1 hi).1;have hex:=h.ext O I C z L V Y Z U;by_cases hi1:V<=i
      .exact h.apart O I C z L V Y r b o x cs imm tip Z U hr hc e i j hi1 ac hj hjl
      .obtain⟨u',hu'⟩:=h.imm O I C z L V Y Z U i ac m;exact hkeep _ _ _ hu'
   imm:=fun O I C z L V Y Z U i hi m=>by
    by_cases e:O=r
    .subst e;rw[hr]at Z;simp only[ce]at Z;obtain⟨rfl,rfl,rfl⟩:=Z;rw[M]at U;simp only[az,HB.cells.injEq]at U;obtain⟨rfl,rfl,rfl⟩:=U;rcases hcs i _ (aY m)with⟨rfl,_⟩|⟨_,hi'⟩
     .omega
     .exact h.imm O b o x cs imm tip hr hc i hi (ej.1 hi').1
    .rw[K O e]at U;exact h.imm O I C z L V Y Z U i hi m
   ext:=fun O I C z L V Y Z U=>by
    by_cases e:O=r
    .subst e;rw[hr]at Z;simp only[ce]at Z;obtain⟨rfl,rfl,rfl⟩:=Z;rw[M]at U;simp only[az,HB.cells.injEq]at U;obtain⟨rfl,rfl,rfl⟩:=U;rw[g];exact hl
    .rw[K O e]at U;exact h.ext O I C z L V Y Z U
   fits:=fun O I C z L V Y Z U=>by
    by_cases e:O=r
    .subst e;rw[hr]at Z;simp only[ce]at Z;obtain⟨rfl,rfl,rfl⟩:=Z;rw[M]at U;simp only[az,HB.cells.injEq]at U;obtain⟨rfl,rfl,rfl⟩:=U;rcases Bool.eq_false_or_eq_true tip with e1|e1
     .subst e1;exact hl
     .rw[hl' e1];exact h.fits _ _ _ _ _ _ _ hr hc
    .rw[K O e]at U;exact h.fits O I C z L V Y Z U
   room:=fun O I C z L V Y Z U i hi m=>by
    by_cases e:O=r
    .subst e;rw[hr]at Z;simp only[ce]at Z;obtain⟨rfl,rfl,rfl⟩:=Z;rw[M]at U;simp only[az,HB.cells.injEq]at U;obtain⟨rfl,rfl,rfl⟩:=U;rw[g]at m;obtain⟨h1,h2,h3⟩:=h.room O b o x cs imm tip hr hc i hi m;exact⟨hcell _ _ h1,by rw[World.frozen?_setCell];exact h2,h3⟩
    .rw[K O e]at U;obtain⟨h1,h2,h3⟩:=h.room O I C z L V Y Z U i hi m;exact⟨hcell _ _ h1,by rw[World.frozen?_setCell];exact h2,h3⟩
   apart:=fun O I C z L V Y r2 b2 o2 x2 cs2 imm2 tip2 Z U hr2 hc2 hne i i' hi m hi' hil'=>by
    have key:∀k bk ok xk csk immk tipk,G.β k=some (bk,ok,xk)->(H.set r (.cells cs' imm tip)).get k=some (.cells csk immk tipk) ->
     ∃cs0,H.get k=some (.cells cs0 immk tipk)/\zcp xk cs0 tipk=zcp xk csk tipk:=fun k bk ok xk csk immk tipk hk hck=>by
     by_cases e:k=r
     .subst e;rw[hr]at hk;simp only[ce]at hk;obtain⟨rfl,rfl,rfl⟩:=hk;rw[M]at hck;simp only[az,HB.cells.injEq]at hck;obtain⟨rfl,rfl,rfl⟩:=hck;exact⟨cs,hc,g.symm⟩
     .rw[K k e]at hck;exact⟨csk,hck,rfl⟩
    obtain⟨c1,g1,e1⟩:=key O I C z L V Y Z U;obtain⟨c2,g2,e2⟩:=key r2 b2 o2 x2 cs2 imm2 tip2 hr2 hc2;exact h.apart O I C z c1 V Y r2 b2 o2 x2 c2 imm2 tip2 Z g1 hr2 g2 hne i i' hi ac hi' ac
   map:=fun O I C z es Z U=>by
    by_cases e:O=r
    .subst e;rw[M]at U;simp at U
    .rw[K O e]at U;obtain⟨ms,clock,h1,h2⟩:=h.map O I C z es Z U;refine⟨ms,clock,?_,h2⟩;have hb:I≠b:=fun eb=>by
      subst eb;unfold World.cell? at hu;rw[h1]at hu;simp at hu
     rw[Below.heap_setCell _ _ _ _ hb];exact h1
   mapApart:=fun O I C z es r2 b2 o2 x2 Z U hr2 hs hne=>by
    by_cases e:O=r
    .subst e;rw[M]at U;simp at U
    .rw[K O e]at U;refine h.mapApart O I C z es r2 b2 o2 x2 Z U hr2 ?_ hne;by_cases e2:r2=r
     .subst e2;rw[hc];rfl
     .rw[K r2 e2]at hs;exact hs
   frz:=fun b' o' v' hf=>by rw[J _ _ (hkeep _ _ _ hf)];exact h.frz _ _ _ hf
   val:=h.val
   sym:=h.sym}
 .exact Below.heap_setCell _ _ _ _ (fun e=>hn r b o x hr e.symm)
theorem LP{B:Bs}{H:Hp}{w:World}{G:Gh}(P:Program)(h:R B H w G){r b o x:Nat}{cs:List AV}{imm:Nat}{tip:Bool}(hr:G.β r=some (b,o,x))(V:H.get r=some (.cells cs imm tip))
 {j:Nat} (g:imm<=j) (Y:j<zcp x cs tip) {v:Value} (Z:v.oneCell'=true) :
 (store ⟨b,o+j,none⟩ v).run P w=.ok () (w.setCell ⟨b,o+j,none⟩ v):=by
 obtain⟨⟨u,J⟩,K,_⟩:=h.room r b o x cs imm tip hr V j g Y;rw[run_store P w _ v _ Z,J];simp[K]
theorem LQ(cs:List AV)(off:Nat)(c:AV)(M:List AV)(h:off<=cs.length):splice cs off (c::M)=splice (splice cs off [c]) (off+1) M:=by
 unfold splice;have i:(List.take off cs++[c]++List.drop (off+[c].length) cs).take (off+1)=List.take off cs++[c]:=by
  rw[AB cc,eI cc]
 have g:(List.take off cs++[c]++List.drop (off+[c].length) cs).drop (off+1+M.length)=List.drop (off+(M.length+1)) cs:=by
  rw[List.drop_append,AC cc];simp only[fy,jr,cS,ed,AD,oD]
  congr 1
  omega
 rw[i,g];simp
theorem LR(cs:List AV)(off:Nat):splice cs off []=cs:=by simp[splice]
theorem LS(cs:List AV)(off:Nat)(M:List AV)(h:off+M.length<=cs.length):(splice cs off M).length=cs.length:=by simp[splice];omega
theorem LU(cs:List AV)(off:Nat)(M:List AV)(h:off<=cs.length):(splice cs off M).length=max cs.length (off+M.length):=by simp[splice];omega
theorem DZ(cs M:List AV):splice cs cs.length M=cs++M:=by simp[splice]
theorem splice_one{cs:List AV}{j:Nat}(c:AV)(Z:j<=cs.length){i:Nat}{d:AV}(h:(splice cs j [c])[i]?=some d):(i=j/\d=c)\/(i≠j/\cs[i]?=some d):=by
 unfold splice at h;by_cases z:i<j
 .rw[mU,lZ cc,oC,aj z]at h;exact .inr ⟨ac,h⟩
 .by_cases e:i=j
  .subst e;rw[mU,mS cc]at h;have g:i-(List.take i cs).length=0:=cc;rw[g]at h;simp at h;exact .inl ⟨rfl,h.symm⟩
  .rw[mS cc]at h;rw[qG]at h;refine .inr ⟨e,?_⟩;rw[<-h]
   congr 1
   simp;omega
theorem j0(b o i:Nat):(⟨b,o,none⟩:Addr).add i=⟨b,o+i,none⟩:=by
 unfold Addr.add;split
 .rename_i e;subst e;rfl
 .rfl
theorem Step.congr{B:Bs}{L:Nat}{G C:Gh}{w w':World}{H H':Hp}(h:Step B L G w H w' C)(U:H'.next=H.next)(Z:∀r,(C.β r).isSome->H'.get r=H.get r):Step B L G w H' w' C:=
 ⟨h.r.congr U Z,h.ext,h.fr,h.new,h.low,by rw[U];exact h.mono,h.icy⟩
theorem AH{B:Bs}(P:Program){G:Gh}{r b o x:Nat}{imm:Nat}{tip:Bool}(hr:G.β r=some (b,o,x))(off:Nat):∀(M:List AV) (vs:List Value) (Z:List AV) (i:Nat) (H:Hp) (w:World),R B H w G ->
 H.get r=some (.cells Z imm tip)->b8 G M vs->(∀v∈vs,v.oneCell'=true)->imm<=off+i->off+i<=Z.length->off+i+M.length<=zcp x Z tip->(tip=false->off+i+M.length<=Z.length) ->
 ∃z,(storeCells ⟨b,o+off,none⟩ vs i).run P w=.ok () z/\Step B H.next G w (H.set r (.cells (splice Z (off+i) M) imm tip)) z G:=by
 intro M;induction M with
 |nil=>
  intro vs Z i H w I hc m U hi V L _;have C:vs=[]:=by have:=m.1;simpa using this.symm
  subst C;refine⟨w,rfl,(jY I).congr rfl fun k _=>?_⟩;rw[aC,LR];split
  .rename_i e;subst e;rw[hc]
  .rfl
 |cons c M ih=>
  intro vs Z i H w I hc m U hi V L Y;cases vs with
  |nil=>have:=m.1;simp at this
  |cons v vs=>
   obtain⟨hv1,C⟩:=m.of_cons;simp only[cS]at L Y;have O:(splice Z (off+i) [c]).length=max Z.length (off+i+1):=LU _ _ _ V;have hext:=I.ext r b o x Z imm tip hr hc;have K:=LO I hr hc (j:=off+i) (cs':=splice Z (off+i) [c]) (v:=v) hi ac
    (fun k d hk=>by
      rcases splice_one c V hk with⟨e1,e2⟩|h2
      .subst e2;exact .inl ⟨e1,hv1⟩
      .exact .inr h2)
    (by rw[O];cases tip with
        |true=>simp only[zcp]at *;omega
        |false=>have:=Y rfl;simp only[zcp]at *;omega)
    (fun ht=>by have:=Y ht;rw[O];omega)
   have J:=LP P I hr hc (j:=off+i) hi ac (v:=v) (U v aw);have hg1:(H.set r (.cells (splice Z (off+i) [c]) imm tip)).get r=some (.cells (splice Z (off+i) [c]) imm tip):=gE;have g:zcp x (splice Z (off+i) [c]) tip=zcp x Z tip:=by
    cases tip with
    |true=>rfl
    |false=>have:=Y rfl;simp only[zcp];omega
   obtain⟨z,hw',hs'⟩:=ih vs (splice Z (off+i) [c]) (i+1) _ _ K.r hg1 C (fun u hu=>U u (by simp[hu])) ac uF (by rw[g];omega) (fun ht=>by have:=Y ht;rw[O];omega);refine⟨z,?_,(K.trans hs').congr rfl fun k _=>?_⟩
   .simp only[storeCells,d8];rw[j0,i7,J];exact hw'
   .rw[aC,aC,aC,LQ _ _ _ _ V];split
    .rfl
    .rfl
theorem D0{B:Bs}{H:Hp}{w:World}{G:Gh}(h:R B H w G){r b o x:Nat}{cs:List AV}{imm:Nat}(hr:G.β r=some (b,o,x))(hc:H.get r=some (.cells cs imm true)){off:Nat}(hoff:off<=cs.length):
 Step B H.next G w ((H.kill r).alloc (.cells (cs.drop off) (imm-off) true)) w (G.add H.next (b,o+off,x-off)):=by
 have hno:∀q,G.β H.next=some q->False:=fun q hq=>by have:=h.dom _ _ hq;omega
 have hext:Ext G (G.add H.next (b,o+off,x-off)):=AG hno;have hrn:r≠H.next:=fun e=>by subst e;exact hno _ hr
 have Y:∀k p,(G.add H.next (b,o+off,x-off)).β k=some p->(k=H.next/\p=(b,o+off,x-off))\/(k≠H.next/\G.β k=some p):=fun k p U=>by
  simp only[Gh.add]at U;split at U
  .rename_i e;exact .inl ⟨e,by simpa using U.symm⟩
  .rename_i e;exact .inr ⟨e,U⟩
 have O:∀k q,k≠H.next->((H.kill r).alloc (.cells (cs.drop off) (imm-off) true)).get k=some q->k≠r/\H.get k=some q:=fun k q U hq=>by
  rw[zaY,zdN,af U,zcW]at hq;split at hq
  .simp at hq
  .rename_i e;exact⟨e,hq⟩
 have M:((H.kill r).alloc (.cells (cs.drop off) (imm-off) true)).get H.next=some (.cells (cs.drop off) (imm-off) true):=by rw[zaY,zdN,aj rfl]
 have hlen:=h.ext r b o x cs imm true hr hc;simp only[zcp]at hlen;refine⟨?_,hext,uH _ _,fun k b' o' x' U=>?_,fun k p U=>(Y k p U).elim (fun e=>.inr (by rw[e.1];exact aA _)) (fun e=>.inl e.2),aw,fun _ _ _ h=>.inl h⟩
 .exact{
   base:=h.base
   dom:=fun k p U=>by
    rcases Y k p U with⟨rfl,_⟩|⟨_,L⟩
    .simp
    .have:=h.dom k p L;simp;omega
   lt:=fun k b' o' x' U=>by
    rcases Y k _ U with⟨rfl,hp⟩|⟨_,L⟩
    .simp only[fG]at hp;obtain⟨rfl,rfl,rfl⟩:=hp;exact h.lt r _ _ _ hr
    .exact h.lt k b' o' x' L
   cells:=fun k b' o' x' K m V U i=>by
    rcases Y k _ U with⟨rfl,hp⟩|⟨Z,L⟩
    .simp only[fG]at hp;obtain⟨rfl,rfl,rfl⟩:=hp;rw[M]at i;simp only[az,HB.cells.injEq]at i;obtain⟨rfl,rfl,rfl⟩:=i;intro j c hj;rw[qG]at hj;obtain⟨v,h1,h2⟩:=h.cells r _ _ _ _ _ _ hr hc (off+j) c hj;exact⟨v,by rw[i7];exact h1,h2.mono hext⟩
    .obtain⟨_,g⟩:=O k _ Z i;exact(h.cells k b' o' x' K m V L g).mono hext
   imm:=fun k b' o' x' K m V U i j hj hjl=>by
    rcases Y k _ U with⟨rfl,hp⟩|⟨Z,L⟩
    .simp only[fG]at hp;obtain⟨rfl,rfl,rfl⟩:=hp;rw[M]at i;simp only[az,HB.cells.injEq]at i;obtain⟨rfl,rfl,rfl⟩:=i;rw[js]at hjl;rw[i7];exact h.imm r _ _ _ _ _ _ hr hc (off+j) ac ac
    .obtain⟨_,g⟩:=O k _ Z i;exact h.imm k b' o' x' K m V L g j hj hjl
   ext:=fun k b' o' x' K m V U i=>by
    rcases Y k _ U with⟨rfl,hp⟩|⟨Z,L⟩
    .simp only[fG]at hp;obtain⟨rfl,rfl,rfl⟩:=hp;rw[M]at i;simp only[az,HB.cells.injEq]at i;obtain⟨rfl,rfl,rfl⟩:=i;simp only[zcp,js];omega
    .obtain⟨_,g⟩:=O k _ Z i;exact h.ext k b' o' x' K m V L g
   fits:=fun k b' o' x' K m V U i=>by
    rcases Y k _ U with⟨rfl,hp⟩|⟨Z,L⟩
    .simp only[fG]at hp;obtain⟨rfl,rfl,rfl⟩:=hp;rw[M]at i;simp only[az,HB.cells.injEq]at i;obtain⟨rfl,rfl,rfl⟩:=i;simp only[js];omega
    .obtain⟨_,g⟩:=O k _ Z i;exact h.fits k b' o' x' K m V L g
   room:=fun k b' o' x' K m V U i j hj hjl=>by
    rcases Y k _ U with⟨rfl,hp⟩|⟨Z,L⟩
    .simp only[fG]at hp;obtain⟨rfl,rfl,rfl⟩:=hp;rw[M]at i;simp only[az,HB.cells.injEq]at i;obtain⟨rfl,rfl,rfl⟩:=i;simp only[zcp]at hjl;rw[i7];exact h.room r _ _ _ _ _ _ hr hc (off+j) ac uG
    .obtain⟨_,g⟩:=O k _ Z i;exact h.room k b' o' x' K m V L g j hj hjl
   apart:=fun k1 b1 o1 x1 cs1 imm1 tip1 k2 b2 o2 x2 cs2 imm2 tip2 hk1 J hk2 hc2 Z j1 j2 hj1 hl1 hj2 hl2 he=>by
    rcases Y k1 _ hk1 with⟨rfl,hp⟩|⟨hn1,C⟩
    .simp only[fG]at hp;obtain⟨rfl,rfl,rfl⟩:=hp;rw[M]at J;simp only[az,HB.cells.injEq]at J;obtain⟨rfl,rfl,rfl⟩:=J;simp only[zcp]at hl1;rcases Y k2 _ hk2 with⟨rfl,hp⟩|⟨hn2,z⟩
     .exact(Z rfl).elim
     .obtain⟨hr2,hc2'⟩:=O k2 _ hn2 hc2;rw[i7];exact h.apart r _ _ _ _ _ _ k2 b2 o2 x2 cs2 imm2 tip2 hr hc z hc2' (Ne.symm hr2) (off+j1) j2 ac uG hj2 hl2 he
    .obtain⟨hr1,I⟩:=O k1 _ hn1 J;rcases Y k2 _ hk2 with⟨rfl,hp⟩|⟨hn2,z⟩
     .simp only[fG]at hp;obtain⟨rfl,rfl,rfl⟩:=hp;rw[M]at hc2;simp only[az,HB.cells.injEq]at hc2;obtain⟨rfl,rfl,rfl⟩:=hc2;simp only[zcp]at hl2;rw[i7];exact h.apart k1 b1 o1 x1 cs1 imm1 tip1 r _ _ _ _ _ _ C I hr hc hr1 j1 (off+j2) hj1 hl1 ac uG he
     .obtain⟨hr2,hc2'⟩:=O k2 _ hn2 hc2;exact h.apart k1 b1 o1 x1 cs1 imm1 tip1 k2 b2 o2 x2 cs2 imm2 tip2 C I z hc2' Z j1 j2 hj1 hl1 hj2 hl2 he
   map:=fun k b' o' x' es U i=>by
    rcases Y k _ U with⟨rfl,hp⟩|⟨Z,L⟩
    .rw[M]at i;simp at i
    .obtain⟨_,g⟩:=O k _ Z i;obtain⟨ms,clock,h1,h2⟩:=h.map k b' o' x' es L g;exact⟨ms,clock,h1,h2.mono hext⟩
   mapApart:=fun k1 b1 o1 x1 es k2 b2 o2 x2 hk1 J hk2 hs Z=>by
    rcases Y k1 _ hk1 with⟨rfl,hp⟩|⟨hn1,C⟩
    .rw[M]at J;simp at J
    .obtain⟨hr1,I⟩:=O k1 _ hn1 J;rcases Y k2 _ hk2 with⟨rfl,hp⟩|⟨hn2,z⟩
     .simp only[fG]at hp;obtain⟨rfl,rfl,rfl⟩:=hp;exact h.mapApart k1 b1 o1 x1 es r _ _ _ C I hr (by rw[hc];rfl) hr1
     .cases hh:((H.kill r).alloc (.cells (cs.drop off) (imm-off) true)).get k2 with
      |none=>simp[hh]at hs
      |some q=>
       obtain⟨_,hq⟩:=O k2 q hn2 hh;exact h.mapApart k1 b1 o1 x1 es k2 b2 o2 x2 C I z (by rw[hq];rfl) Z
   frz:=h.frz
   val:=h.val
   sym:=h.sym}
 .rcases Y k _ U with⟨rfl,hp⟩|⟨_,L⟩
  .simp only[fG]at hp;obtain⟨rfl,rfl,rfl⟩:=hp;exact .inr (.inr ⟨r,o,x,hr⟩)
  .exact .inl L
def Gh.ice(G:Gh)(w:World)(b o n:Nat):Gh:={β:=G.β,F:=fun Y g=>match G.F Y g with
 |some v=>some v
 |none=>if Y=b/\o<=g/\g<o+n then w.cell? ⟨Y,g,none⟩else none,ρ:=G.ρ}
theorem LV(G:Gh)(w:World)(b o n:Nat):Ext G (G.ice w b o n):=⟨fun _ _ h=>h,fun Y g v h=>by simp[Gh.ice,h],rfl⟩
theorem uK{B:Bs}{H:Hp}{w:World}{G:Gh}(h:R B H w G){r b o x:Nat}{cs:List AV}{imm:Nat}{tip:Bool}(hr:G.β r=some (b,o,x))(hc:H.get r=some (.cells cs imm tip)){n:Nat}(himm:imm<=n)(hn:n<=cs.length)(M:Bool)(ht:M=true->tip=true):
 Step B H.next G w (H.set r (.cells cs n M)) w (G.ice w b o n):=by
 have C:Ext G (G.ice w b o n):=LV _ _ _ _ _;have O:∀k,k≠r->(H.set r (.cells cs n M)).get k=H.get k:=fun k K=>by rw[aC,af K]
 have Z:(H.set r (.cells cs n M)).get r=some (.cells cs n M):=gE;have hex:=h.ext r b o x cs imm tip hr hc;have hreach:∀j,n<=j->j<zcp x cs M->j<zcp x cs tip:=fun j hj U=>by
  cases M with
  |true=>rw[ht rfl];exact U
  |false=>simp only[zcp]at U;omega
 have hF:∀V g v,(G.ice w b o n).F V g=some v->w.cell? ⟨V,g,none⟩=some v:=fun V g v hf=>by
  simp only[Gh.ice]at hf;split at hf
  .rename_i u hu;simp only[az]at hf;subst hf;exact h.frz _ _ _ hu
  .split at hf
   .exact hf
   .simp at hf
 have hFin:∀j,j<n->∃v,(G.ice w b o n).F b (o+j)=some v:=fun j hj=>by
  obtain⟨v,h1,_⟩:=h.cells r b o x cs imm tip hr hc j _ (aY ac);simp only[Gh.ice];split
  .rename_i u _;exact⟨u,rfl⟩
  .rw[aj ⟨by trivial,ac,ac⟩];exact⟨v,h1⟩
 have hFout:∀V g,G.F V g=none->(V=b->g<o\/o+n<=g)->(G.ice w b o n).F V g=none:=fun V g hf hne=>by
  simp only[Gh.ice,hf];rw[af];rintro⟨e1,e2,e3⟩;have:=hne e1;omega
 refine⟨?_,C,uH _ _,rS _ _,fun _ _ h=>.inl h,aA _,fun V g v' hv=>?_⟩;rotate_left
 .simp only[Gh.ice]at hv;split at hv
  .rename_i v'' hF';exact .inl (by rw[hF'];exact hv)
  .split at hv
   .rename_i hc';exact .inr (by rw[hc'.1];exact(h.lt r b o x hr).1)
   .simp at hv
 exact{
  base:=h.base
  dom:=h.dom
  lt:=h.lt
  cells:=fun k V g I J m Y K i=>by
   by_cases e:k=r
   .subst e;have L:G.β k=some (V,g,I):=K;rw[hr]at L;simp only[ce]at L;obtain⟨rfl,rfl,rfl⟩:=L;rw[Z]at i;simp only[az,HB.cells.injEq]at i;obtain⟨rfl,rfl,rfl⟩:=i;exact(h.cells k _ _ _ _ _ _ hr hc).mono C
   .rw[O k e]at i;exact(h.cells k V g I J m Y K i).mono C
  imm:=fun k V g I J m Y K i j hj U=>by
   by_cases e:k=r
   .subst e;have L:G.β k=some (V,g,I):=K;rw[hr]at L;simp only[ce]at L;obtain⟨rfl,rfl,rfl⟩:=L;rw[Z]at i;simp only[az,HB.cells.injEq]at i;obtain⟨rfl,rfl,rfl⟩:=i;exact hFin j hj
   .rw[O k e]at i;obtain⟨v,hv⟩:=h.imm k V g I J m Y K i j hj U;exact⟨v,C.F _ _ _ hv⟩
  ext:=fun k V g I J m Y K i=>by
   by_cases e:k=r
   .subst e;have L:G.β k=some (V,g,I):=K;rw[hr]at L;simp only[ce]at L;obtain⟨rfl,rfl,rfl⟩:=L;rw[Z]at i;simp only[az,HB.cells.injEq]at i;obtain⟨rfl,rfl,rfl⟩:=i;cases M with
    |true=>rw[ht rfl]at hex;exact hex
    |false=>exact aA _
   .rw[O k e]at i;exact h.ext k V g I J m Y K i
  fits:=fun k V g I J m Y K i=>by
   by_cases e:k=r
   .subst e;have L:G.β k=some (V,g,I):=K;rw[hr]at L;simp only[ce]at L;obtain⟨rfl,rfl,rfl⟩:=L;rw[Z]at i;simp only[az,HB.cells.injEq]at i;obtain⟨rfl,rfl,rfl⟩:=i;exact h.fits _ _ _ _ _ _ _ hr hc
   .rw[O k e]at i;exact h.fits k V g I J m Y K i
  room:=fun k V g I J m Y K i j hj U=>by
   by_cases e:k=r
   .subst e;have L:G.β k=some (V,g,I):=K;rw[hr]at L;simp only[ce]at L;obtain⟨rfl,rfl,rfl⟩:=L;rw[Z]at i;simp only[az,HB.cells.injEq]at i;obtain⟨rfl,rfl,rfl⟩:=i;have h1:=hreach j hj U;obtain⟨g1,g2,g3⟩:=h.room k _ _ _ _ _ _ hr hc j ac h1;exact⟨g1,g2,hFout _ _ g3 (fun _=>ac)⟩
   .rw[O k e]at i;obtain⟨g1,g2,g3⟩:=h.room k V g I J m Y K i j hj U;refine⟨g1,g2,hFout _ _ g3 (fun eb=>?_)⟩;by_cases hin:o<=g+j/\g+j<o+n
    .exfalso;have hj0:g+j-o<cs.length:=ac;have hj1:g+j-o<zcp x cs tip:=ac;by_cases hi:imm<=g+j-o
     .exact h.apart k V g I J m Y r b o x cs imm tip K i hr hc e j (g+j-o) hj U hi hj1 eb ac
     .obtain⟨v,hv⟩:=h.imm r b o x cs imm tip hr hc (g+j-o) ac hj0;rw[show o+(g+j-o)=g+j by omega,<-eb,g3]at hv;simp at hv
    .omega
  apart:=fun k1 b1 o1 x1 cs1 imm1 Y k2 b2 o2 x2 cs2 imm2 tip2 hk1 hc1 hk2 hc2 hne j1 j2 hj1 hl1 hj2 hl2 he=>by
   have key:∀k bk ok xk csk z tipk j,G.β k=some (bk,ok,xk)->(H.set r (.cells cs n M)).get k=some (.cells csk z tipk)->z<=j->j<zcp xk csk tipk ->
    ∃cs0 imm0 tip0,H.get k=some (.cells cs0 imm0 tip0)/\imm0<=j/\j<zcp xk cs0 tip0:=fun k bk ok xk csk z tipk j K i hj U=>by
    by_cases e:k=r
    .subst e;have L:G.β k=some (bk,ok,xk):=K;rw[hr]at L;simp only[ce]at L;obtain⟨rfl,rfl,rfl⟩:=L;rw[Z]at i;simp only[az,HB.cells.injEq]at i;obtain⟨rfl,rfl,rfl⟩:=i;exact⟨cs,imm,tip,hc,ac,hreach j hj U⟩
    .rw[O k e]at i;exact⟨csk,z,tipk,i,hj,U⟩
   obtain⟨c1,i1,t1,g1,a1,l1⟩:=key k1 b1 o1 x1 cs1 imm1 Y j1 hk1 hc1 hj1 hl1;obtain⟨c2,i2,t2,g2,a2,l2⟩:=key k2 b2 o2 x2 cs2 imm2 tip2 j2 hk2 hc2 hj2 hl2;exact h.apart k1 b1 o1 x1 c1 i1 t1 k2 b2 o2 x2 c2 i2 t2 hk1 g1 hk2 g2 hne j1 j2 a1 l1 a2 l2 he
  map:=fun k V g I es K i=>by
   by_cases e:k=r
   .subst e;rw[Z]at i;simp at i
   .rw[O k e]at i;obtain⟨ms,clock,h1,h2⟩:=h.map k V g I es K i;exact⟨ms,clock,h1,h2.mono C⟩
  mapApart:=fun k1 b1 o1 x1 es k2 b2 o2 x2 hk1 hc1 hk2 hs hne=>by
   by_cases e:k1=r
   .subst e;rw[Z]at hc1;simp at hc1
   .rw[O k1 e]at hc1;refine h.mapApart k1 b1 o1 x1 es k2 b2 o2 x2 hk1 hc1 hk2 ?_ hne;by_cases e2:k2=r
    .subst e2;rw[hc];rfl
    .rw[O k2 e2]at hs;exact hs
  frz:=hF
  val:=h.val
  sym:=h.sym}
theorem LW{B:Bs}{H:Hp}{w:World}{G:Gh}(h:R B H w G){r b o x:Nat}{cs:List AV}(hr:G.β r=some (b,o,x))(hx:cs.length<=x)(hc:hO G w b o cs)(hF:∀j,j<cs.length->∃v,G.F b (o+j)=some v)
 (hmap:∀r1 b1 o1 x1 es,G.β r1=some (b1,o1,x1)->H.get r1=some (.map es)->b1≠b) :
 Step B H.next G w (H.set r (.cells cs cs.length false)) w G:=by
 have O:∀k,k≠r->(H.set r (.cells cs cs.length false)).get k=H.get k:=fun k Z=>by rw[aC,af Z]
 have K:(H.set r (.cells cs cs.length false)).get r=some (.cells cs cs.length false):=gE;have hβ:∀k Y g L,k=r->G.β k=some (Y,g,L)->Y=b/\g=o/\L=x:=fun k Y g L e Z=>by
  subst e;rw[hr]at Z;simp only[ce]at Z;exact⟨Z.1.symm,Z.2.1.symm,Z.2.2.symm⟩
 have J:∀V m M,(H.set r (.cells cs cs.length false)).get r=some (.cells V m M)->V=cs/\m=cs.length/\M=false:=fun V m M Z=>by
  rw[K]at Z;simp only[az,HB.cells.injEq]at Z;exact⟨Z.1.symm,Z.2.1.symm,Z.2.2.symm⟩
 refine⟨?_,tk _,uH _ _,rS _ _,fun _ _ h=>.inl h,aA _,fun _ _ _ h=>.inl h⟩;exact{
  base:=h.base
  dom:=h.dom
  lt:=h.lt
  cells:=fun k Y g L V m M Z i=>by
   by_cases e:k=r
   .obtain⟨rfl,rfl,rfl⟩:=hβ k _ _ _ e Z;subst e;obtain⟨rfl,rfl,rfl⟩:=J _ _ _ i;exact hc
   .rw[O k e]at i;exact h.cells k Y g L V m M Z i
  imm:=fun k Y g L V m M Z i j hj I=>by
   by_cases e:k=r
   .obtain⟨rfl,rfl,rfl⟩:=hβ k _ _ _ e Z;subst e;obtain⟨rfl,rfl,rfl⟩:=J _ _ _ i;exact hF j I
   .rw[O k e]at i;exact h.imm k Y g L V m M Z i j hj I
  ext:=fun k Y g L V m M Z i=>by
   by_cases e:k=r
   .subst e;obtain⟨rfl,rfl,rfl⟩:=J _ _ _ i;exact aA _
   .rw[O k e]at i;exact h.ext k Y g L V m M Z i
  fits:=fun k Y g L V m M Z i=>by
   by_cases e:k=r
   .subst e;obtain⟨rfl,rfl,rfl⟩:=J _ _ _ i;obtain⟨_,_,rfl⟩:=hβ _ _ _ _ rfl Z;exact hx
   .rw[O k e]at i;exact h.fits k Y g L V m M Z i
  room:=fun k Y g L V m M Z i j hj I=>by
   by_cases e:k=r
   .subst e;obtain⟨rfl,rfl,rfl⟩:=J _ _ _ i;simp only[zcp]at I;omega
   .rw[O k e]at i;exact h.room k Y g L V m M Z i j hj I
  apart:=fun k1 b1 o1 x1 cs1 imm1 tip1 k2 b2 o2 x2 cs2 imm2 tip2 C U z hc2 hne j1 j2 hj1 hl1 hj2 hl2 he=>by
   by_cases e1:k1=r
   .subst e1;obtain⟨rfl,rfl,rfl⟩:=J _ _ _ U;simp only[zcp]at hl1;omega
   .by_cases e2:k2=r
    .subst e2;obtain⟨rfl,rfl,rfl⟩:=J _ _ _ hc2;simp only[zcp]at hl2;omega
    .rw[O k1 e1]at U;rw[O k2 e2]at hc2;exact h.apart k1 b1 o1 x1 cs1 imm1 tip1 k2 b2 o2 x2 cs2 imm2 tip2 C U z hc2 hne j1 j2 hj1 hl1 hj2 hl2 he
  map:=fun k Y g L es Z i=>by
   by_cases e:k=r
   .subst e;rw[K]at i;simp at i
   .rw[O k e]at i;exact h.map k Y g L es Z i
  mapApart:=fun k1 b1 o1 x1 es k2 b2 o2 x2 C U z hs hne=>by
   by_cases e:k1=r
   .subst e;rw[K]at U;simp at U
   .rw[O k1 e]at U;by_cases e2:k2=r
    .obtain⟨rfl,rfl,rfl⟩:=hβ k2 _ _ _ e2 z;exact hmap k1 b1 o1 x1 es C U
    .rw[O k2 e2]at hs;exact h.mapApart k1 b1 o1 x1 es k2 b2 o2 x2 C U z hs hne
  frz:=h.frz
  val:=h.val
  sym:=h.sym}
def rV(P:Program)(B:Bs)(H:Hp)(G:Gh)(w:World)(s:Sem Next)(c:AV)(H':Hp):Prop:=
 ∃n J C v,s.run P w=.ok n J/\(n=.value v\/(n=.skip/\v=undef))/\VR C c v/\Step B H.next G w H' J C
theorem D1{G:Gh}{v:Value}{c:AV}(h:um v=some c):VR G c v:=by
 unfold um at h;split at h<;>simp only[az,reduceCtorEq]at h<;>subst h<;>constructor;rfl
theorem D2{G:Gh}:∀{vs:List Value}{Z:List AV},vs.mapM um=some Z->b8 G Z vs
 |[],Z,h=>by simp at h;subst h;exact nK G
 |v::vs,Z,h=>by
  rw[List.mapM_cons]at h;simp only[Option.bind_eq_bind,dx,Option.pure_def,az]at h;obtain⟨c,hc,V,O,rfl⟩:=h;exact mX (D1 hc) (D2 O)
theorem tm{G:Gh}{v:Value}{c:AV}(h:ta v=some c):VR G c v:=by
 unfold ta at h;split at h
 .rename_i Z;simp only[oE]at h;obtain⟨l,K,rfl⟩:=h;have:=D2 (G:=G) K;exact .agg (vs:=Z.toList) this.1 this.2
 .exact D1 h
theorem hO.list{G:Gh}{w:World}{b:Nat}:∀{cs:List AV}{o:Nat},hO G w b o cs->∃vs,b8 G cs vs/\∀(j:Nat) v,vs[j]?=some v->w.cell? ⟨b,o+j,none⟩=some v
 |[],o,_=>⟨[],nK G,aw⟩
 |c::cs,o,h=>by
  obtain⟨v,i,Z⟩:=h 0 c rfl;obtain⟨vs,k1,m⟩:=hO.list (cs:=cs) (o:=o+1) (fun j d g=>by
   obtain⟨u,Y,O⟩:=h (j+1) d rR;exact⟨u,by rw[show o+1+j=o+(j+1) by omega];exact Y,O⟩)
  refine⟨v::vs,mX Z k1,fun j u g=>?_⟩;cases j with
  |zero=>simp at g;subst g;exact i
  |succ j=>rw[show o+(j+1)=o+1+j by omega];exact m j u rR
theorem hO.drop{G:Gh}{w:World}{b o:Nat}{cs:List AV}(h:hO G w b o cs)(n:Nat):hO G w b (o+n) (cs.drop n):=fun j c g=>by
 rw[qG]at g;rw[i7];exact h (n+j) c g
theorem hO.take{G:Gh}{w:World}{b o:Nat}{cs:List AV}(h:hO G w b o cs)(n:Nat):hO G w b o (cs.take n):=fun j c g=>by
 rw[oC]at g;split at g
 .exact h j c g
 .simp at g
section
variable {P:Program} {w:World} {t:TypeId}
theorem zce{d:TypeDesc}(h:P.underlying t=some d):(underlying t).run P w=.ok d w:=by simp[underlying,h]
theorem tn{i:TypeInfo}(h:P.info? t=some i):(typeInfo t).run P w=.ok i w:=by simp[typeInfo,h]
theorem D3{s:Nat}(h:zbh P t=some s):∃i,P.info? t=some i/\i.size=s:=by simpa [zbh,oE]using h
theorem zdi{s:Nat}(h:zbh P t=some s):(sizeOf t).run P w=.ok s w:=by
 obtain⟨i,Z,g⟩:=D3 h;simp[sizeOf,tn Z,g]
theorem D4{c:AV}(h:pz P t=some c):∃i v,P.info? t=some i/\i.zero=some v/\ta v=some c:=by
 unfold pz at h;split at h
 .rename_i x d s L M hp al fa Z O ms U;exact⟨_,Z,U,rfl,h⟩
 .simp at h
theorem LX{c:AV}(h:pz P t=some c):∃v,(∀w,(zeroValue t).run P w=.ok v w)/\∀G,VR G c v:=by
 obtain⟨i,v,Z,g,m⟩:=D4 h;exact⟨v,fun w=>by simp[zeroValue,tn Z,g],fun G=>tm m⟩
theorem AI{z:List AV}(h:zbU P t=some z):∃i v c,P.info? t=some i/\i.zero=some v/\ta v=some c/\c.cells=z:=by
 unfold zbU at h;split at h
 .rename_i c hc;simp only[az]at h;obtain⟨i,v,Z,g,m⟩:=D4 hc;exact⟨i,v,c,Z,g,m,h⟩
 .simp at h
theorem uL{z:List AV}(h:zbU P t=some z):∃v,(∀w,(zeroValue t).run P w=.ok v w)/\∀G,b8 G z v.cells.toList:=by
 obtain⟨i,v,c,Z,g,m,rfl⟩:=AI h;exact⟨v,fun w=>by simp[zeroValue,tn Z,g],fun G=>(tm m).cells⟩
def AJ:TypeDesc->Bool
 | .struct _|.array _ _=>true
 |_=>false
theorem xp{d:TypeDesc}(h:P.underlying t=some d):(isAgg t).run P w=.ok (AJ d) w:=by
 simp only[isAgg,d8,zce h,ee];cases d<;>rfl
theorem D5{cs:List AV}{off:Nat}{c:AV}(h:zba P t cs off=some c):
 (∃d s,P.underlying t=some d/\AJ d=true/\zbh P t=some s/\((cs.drop off).take s).length=s/\c=.agg ((cs.drop off).take s)) \/
 (∃d,P.underlying t=some d/\AJ d=false/\cs[off]?=some c):=by
 unfold zba at h;split at h
 .rename_i f hd;split at h
  .rename_i s J;simp only[]at h;split at h
   .rename_i K;simp only[az]at h;exact .inl ⟨_,s,hd,rfl,J,K,h.symm⟩
   .simp at h
  .simp at h
 .rename_i n e hd;split at h
  .rename_i s J;simp only[]at h;split at h
   .rename_i K;simp only[az]at h;exact .inl ⟨_,s,hd,rfl,J,K,h.symm⟩
   .simp at h
  .simp at h
 .rename_i d i g hd;refine .inr ⟨d,hd,?_,h⟩;cases d<;>first|rfl|exact(i _ rfl).elim|exact(g _ _ rfl).elim
 .simp at h
theorem D6{G:Gh}{b o off:Nat}{cs:List AV}{c:AV}(O:hO G w b o cs)(h:zba P t cs off=some c):
 ∃v,(loadVar t ⟨b,o+off,none⟩).run P w=.ok v w/\VR G c v:=by
 rcases D5 h with⟨d,s,hd,ha,J,K,rfl⟩|⟨d,hd,ha,hc⟩
 .obtain⟨vs,i,g⟩:=((O.drop off).take s).list;refine⟨.agg vs.toArray,?_,.agg i.1 i.2⟩;simp only[loadVar,d8,xp hd,ha,ee,cZ,zdi J];have L:vs.length=s:=by rw[<-i.1];exact K
  rw[<-L,run_loadCells_list _ _ vs (fun j v Z=>by rw[j0];exact g j v Z)];rfl
 .obtain⟨v,i,g⟩:=O off c hc;refine⟨v,?_,g⟩;simp[loadVar,xp hd,ha,i]
theorem xq{G:Gh}{off:Nat}{cs:List AV}{vs:List Value}{c:AV}(M:b8 G cs vs)(h:zba P t cs off=some c):
 ∃v,(part t vs.toArray off).run P w=.ok v w/\VR G c v:=by
 rcases D5 h with⟨d,s,hd,ha,J,Z,rfl⟩|⟨d,hd,ha,hc⟩
 .have i:=(M.drop off).take s;refine⟨.agg ((vs.drop off).take s).toArray,?_,.agg i.1 i.2⟩;simp only[part,d8,xp hd,ha,ee,cZ,zdi J,jt]
  congr 2
  apply mV;simp
 .have K:off<cs.length:=(ej.1 hc).1;have m:off<vs.length:=by have:=M.1;omega
  refine⟨vs[off],?_,M.2 off c _ hc (aY m)⟩;simp[part,xp hd,ha,m]
end
theorem tp{P:Program}{B:Bs}{G:Gh}{H:Hp}{w:World}(h:R B H w G){s:Sem Next}{c:AV}{v:Value}(hr:s.run P w=.ok (.value v) w)(M:VR G c v):rV P B H G w s c H:=
 ⟨.value v,w,G,v,hr,.inl rfl,M,jY h⟩
theorem zdf{H H':Hp}{x:Option AV}{c:AV}(h:ret H x=some (c,H')):x=some c/\H'=H:=by
 cases x with
 |none=>simp[ret]at h
 |some v=>simp[ret]at h;exact⟨by rw[h.1],h.2.symm⟩
section
variable {P:Program} {B:Bs} {G:Gh} {H H':Hp} {w:World} (h:R B H w G) {c:AV}
include h
theorem D7{t:TypeId}{a:AV}{U:Value}(O:VR G a U)(K:ip P H t a=some c):∃v,(Instr.loadAt t U).run P w=.ok v w/\VR G c v:=by
 unfold ip at K;split at K
 .rename_i r V;cases O with
  |ptr hr=>
   split at K
   .rename_i Y L M hc;obtain⟨v,i,g⟩:=D6 (h.cells _ _ _ _ _ _ _ hr hc) K;exact⟨v,DV,g⟩
   .simp at K
 .rename_i Y;cases O with
  |iptr vs hF I=>
   rename_i b o;have J:hO G w b o Y:=fun j d Z=>⟨vs j,h.frz _ _ _ (hF j (ej.1 Z).1),I j d Z⟩;obtain⟨v,i,g⟩:=D6 J K;exact⟨v,DV,g⟩
 .simp at K
theorem LY{t:TypeId}{a x:AV}{m j:Value}(ha:VR G a m)(hx:VR G x j)(J:lV P H t a x=some H'):
 ∃V,(Instr.storeAt t m j).run P w=.ok () V/\Step B H.next G w H' V G:=by
 unfold lV at J;split at J
 .rename_i r K;cases ha with
  |ptr hr=>
   rename_i b o ex;split at J
   .rename_i cs O g s hc M;split at J
    .rename_i C;obtain⟨h1,h2,h3,h4⟩:=C;simp only[az]at J;subst J;have z:=hx.cells;have L:j.cells.toList.length=s:=by rw[<-z.1];exact h1
     have Z:∀v∈j.cells.toList,v.oneCell'=true:=fun v hv=>by
      obtain⟨i,hi,rfl⟩:=AE hv;have Y:i<x.cells.length:=by rw[z.1];exact hi
      rw[(z.2 i _ _ (aY Y) (aY hi)).oneCell];exact iB.1 h4 _ (dW Y)
     have hex:=h.ext r b o ex cs O g hr hc;obtain⟨V,hw,I⟩:=AH P hr K x.cells j.cells.toList cs 0 H w h hc z Z ac ac ac (fun _=>ac);refine⟨V,?_,xl⟩;have U:j.cells.size=s:=by simpa using L
     simp only[Instr.storeAt,Instr.sureAddr,d8,jt,ee,storeVar,zdi M,U];simpa using hw
    .simp at J
   .simp at J
 .simp at J
end
section
variable {P:Program} {B:Bs} {G:Gh} {H H':Hp} {w:World}
theorem LZ{t:TypeId}{a c:AV}{Y:Value}{i:Nat}(O:VR G a Y)(Z:za6 P t a i=some c):∃v,(Instr.fieldAt t Y i).run P w=.ok v w/\VR G c v:=by
 unfold za6 at Z;split at Z
 .rename_i L hd;split at Z
  .rename_i f M;split at Z
   .rename_i s J;have U:∀b o,Y=.pointer (some ⟨b,o,none⟩)->(Instr.fieldAt t Y i).run P w=.ok (.pointer (some ⟨b,o+f.offset,none⟩)) w:=fun b o e=>by
     subst e;simp only[Instr.fieldAt,d8,zce hd,ee];simp[M,Instr.sureAddr,fieldPlace,zdi J,j0]
    split at Z
    .rename_i r K;simp only[az]at Z;subst Z;cases O with
     |ptr hr=>exact⟨_,U _ _ rfl,Az⟩
    .rename_i I;simp only[az]at Z;subst Z;cases O with
     |iptr vs hF V=>
      refine⟨_,U _ _ rfl,.iptr (fun j=>vs (f.offset+j)) (fun j g=>?_) (fun j d g=>?_)⟩
      .rw[js]at g;rw[i7];exact hF _ ac
      .rw[qG]at g;exact V _ _ g
    .simp at Z
   .simp at Z
  .simp at Z
 .simp at Z
theorem L0{t:TypeId}{a c:AV}{U:Value}{i:Nat}(O:VR G a U)(Z:zbG P t a i=some c):∃v,(Instr.field t U i).run P w=.ok v w/\VR G c v:=by
 unfold zbG at Z;split at Z
 .rename_i L J hd;cases O with
  |agg K V=>
   rename_i vs;split at Z
   .rename_i f M;obtain⟨v,Y,g⟩:=xq (P:=P) (w:=w) ⟨K,V⟩ Z;refine⟨v,?_,g⟩;simp only[Instr.field,d8,zce hd,ee];simp only[M,d8,asAgg,jt,ee];exact Y
   .simp at Z
 .simp at Z
theorem L2{t:TypeId}{a i c:AV}{C m:Value}(O:VR G a C)(hi:VR G i m)(Z:zb1 P t a i=some c):∃v,(Instr.indexAt t C m).run P w=.ok v w/\VR G c v:=by
 unfold zb1 at Z;split at Z
 .rename_i kk k;cases hi;split at Z
  .rename_i e hd;split at Z
   .rename_i s J;split at Z
    .rename_i r K M z;split at Z
     .rename_i Y;simp only[az]at Z;subst Z;cases O with
      |sl hr hl hc=>
       rename_i b o x V;refine⟨.pointer (some ⟨b,o+K+k*s,none⟩),?_,Az⟩;simp only[Instr.indexAt,asIntOf,d8,jt,ee,zce hd];have h1:(0:Int)<=Int.ofNat k:=Int.natCast_nonneg k;have h2:(Int.ofNat k)<(M:Int):=qF;simp[zdi J,Y,j0]
     .simp at Z
    .rename_i xs;split at Z
     .rename_i U g;split at Z
      .rename_i L;simp only[az]at Z;subst Z;have Y:k<xs.length:=(ej.1 g).1;cases O with
       |lst vs hz hF hv hc=>
        rename_i b o V z;have I:s=z:=by rw[<-L];exact hz k U g
        subst I;refine⟨.pointer (some ⟨b,o+k*s,none⟩),?_,.iptr (vs k) (fun j hj=>hF k j Y ac) (fun j d hj=>hv k j U d g hj)⟩;simp only[Instr.indexAt,asIntOf,d8,jt,ee,zce hd];simp[zdi J,Y,j0]
       |lst0 a V=>simp at Y
      .simp at Z
     .simp at Z
    .simp at Z
   .simp at Z
  .rename_i n e hd;split at Z
   .rename_i s J;split at Z
    .rename_i r K;split at Z
     .rename_i Y;simp only[az]at Z;subst Z;cases O with
      |ptr hr=>
       rename_i b o x;refine⟨.pointer (some ⟨b,o+K+k*s,none⟩),?_,Az⟩;simp only[Instr.indexAt,asIntOf,d8,jt,ee,zce hd];simp[zdi J,Y,j0,Instr.sureAddr]
     .simp at Z
    .simp at Z
   .simp at Z
  .simp at Z
 .simp at Z
theorem L3{t:TypeId}{a i c:AV}{U C:Value}(O:VR G a U)(z:VR G i C)(Z:nH P t a i=some c):∃v,(Instr.index t U C).run P w=.ok v w/\VR G c v:=by
 unfold nH at Z;split at Z
 .rename_i I k;cases z;split at Z
  .rename_i s hd;split at Z
   .rename_i b o;simp only[az]at Z;subst Z;cases O with
    |str Y l K=>
     subst K;refine⟨_,?_,.int .u8 b.toNat⟩;have j:k<Y.size:=by
      have:=(ej.1 o).1;simpa using this
     have M:Y[k]?=some b:=by
      rw[ByteArray.getElem?_lt' _ _ j];have:=(ej.1 o).2;simp at this;rw[<-this];rfl
     simp only[Instr.index,asIntOf,d8,jt,ee,zce hd];simp[M]
   .simp at Z
  .rename_i n e m hd;split at Z
   .rename_i j;split at Z
    .rename_i s J;cases O with
     |agg K L=>
      rename_i vs;obtain⟨v,V,g⟩:=xq (P:=P) (w:=w) ⟨K,L⟩ Z;refine⟨v,?_,g⟩;simp only[Instr.index,asIntOf,d8,jt,ee,zce hd];simp[zdi J,j,V]
    .simp at Z
   .simp at Z
  .simp at Z
 .simp at Z
theorem L4{a c:AV}{U:Value}{i:Nat}(O:VR G a U)(Z:extract a i=some c):∃v,(Instr.extract U i).run P w=.ok v w/\VR G c v:=by
 unfold extract at Z;split at Z
 .rename_i V;cases O with
  |tup K M=>
   rename_i vs;have z:i<V.length:=(ej.1 Z).1;have Y:i<vs.length:=ac;exact⟨vs[i],by simp[Instr.extract,Y],M i c _ Z (aY Y)⟩
 .simp at Z
theorem AK{op:BinOp}{k:IntKind}{a b:Int}{c:AV}(o:op≠.shl/\op≠.shr)(h:zc9 op k a b=some c)(Z:TypeId):∃v,(binOp op Z (.int k a) (.int k b)).run P w=.ok v w/\VR G c v:=by
 cases op<;>simp only[zc9,az,reduceCtorEq]at h<;>first
  |(subst h;exact⟨_,by simp[binOp,Op.intArith,Op.intBits,Op.intCmp];rfl,pB⟩)
  |(subst h;exact⟨.int k (k.wrap (BitVec.ofInt k.bits a &&& ~~~ BitVec.ofInt k.bits b).toNat),by simp[binOp,Op.intBits],pB⟩)
  |(split at h
    ·simp at h
    .rename_i Y;simp only[az]at h;subst h;exact⟨_,by simp[binOp,Op.intDiv,Y];rfl,pB⟩)
  |simp at o
theorem L5{op:BinOp}{a b:ByteArray}{c:AV}(h:rG op a.data.toList b.data.toList=some c)(Z:TypeId):∃v,(binOp op Z (.string a) (.string b)).run P w=.ok v w/\VR G c v:=by
 have K:∀x y,qu x y=Op.bytesLess x y:=fun x=>by
  induction x with
  |nil=>intro y;cases y<;>rfl
  |cons p x ih=>intro y;cases y with
   |nil=>rfl
   |cons q y=>simp[qu,Op.bytesLess,ih]
 cases op<;>simp only[rG,az,reduceCtorEq,K]at h<;>first
  |(subst h;exact⟨.bool (a.data.toList == b.data.toList),ti,pB⟩)
  |(subst h;exact⟨.bool !(a.data.toList == b.data.toList),ti,pB⟩)
  |(subst h;exact⟨.bool (Op.bytesLess a.data.toList b.data.toList),ti,pB⟩)
  |(subst h;exact⟨.bool !(Op.bytesLess a.data.toList b.data.toList),ti,pB⟩)
  |(subst h;exact⟨.bool (Op.bytesLess a.data.toList b.data.toList||a.data.toList == b.data.toList),ti,pB⟩)
  |(subst h;exact⟨.bool !(Op.bytesLess a.data.toList b.data.toList||a.data.toList == b.data.toList),ti,pB⟩)
  |(split at h
    ·rename_i o;simp only[az]at h;subst h;refine⟨.string (a++b),?_,.str _ _ ?_⟩
     .have V:¬((a.size+b.size:Nat):Int) > IntKind.i64.max:=by
       have i:a.size+b.size<=70368744177664:=by simpa [zcw]using o
       have g:IntKind.i64.max=9223372036854775807:=rfl;rw[g];omega
      simp only[binOp,Op.stringOp,af V];rfl
     .simp
    .simp at h)
theorem D8(K:Nat){x y:AV}{j z:Value}{r:Bool}{Z:TypeId}(I:VR G x j)(o:VR G y z)(h:wV P Z x y=some r):(Op.equalIn (K+1) Z j z).run P w=.ok r w:=by
 unfold wV at h;split at h;all_goals first
  |(rename_i hd
    split at h<;>simp only[az,reduceCtorEq]at h<;>subst h<;>cases I<;>cases o<;>simp[Op.equalIn,zce hd]
    done)
  |(rename_i e hd
    split at h<;>simp only[az,reduceCtorEq]at h<;>subst h<;>cases I<;>cases o<;>simp[Op.equalIn,zce hd]
    done)
  |(rename_i i C hd
    split at h<;>simp only[az,reduceCtorEq]at h<;>subst h<;>cases I<;>cases o<;>simp[Op.equalIn,zce hd]
    done)
  |(rename_i i C J hd
    split at h<;>simp only[az,reduceCtorEq]at h<;>subst h<;>cases I<;>cases o<;>simp[Op.equalIn,zce hd]
    done)
  |simp at h
theorem xr{op:BinOp}{t:TypeId}{x y:Operand}{c d:AV}{cv Y:Value}(V:VR G c cv)(hd:VR G d Y)(h:∀l m,c=.agg l->d=.agg m->False):(eqGuard op t x y cv Y).run P w=.ok () w:=by
 cases op<;>first|rfl|(cases V<;>cases hd<;>first|rfl|exact(h _ _ rfl rfl).elim)
theorem L6(a b:ByteArray):(a == b)=(a.data.toList == b.data.toList):=by
 cases a with
 |mk x=>cases b with
  |mk y=>
   show(x == y)=_;rw[AF,mW,mW];exact⟨fun h=>by rw[h],fun h=>mV h⟩
theorem D9(K:Nat){x y:AV}{j z:Value}{r:Bool}{Z:TypeId}(I:VR G x j)(o:VR G y z)(h:Au P Z x y=some r):(Op.equalIn (K+1) Z j z).run P w=.ok r w:=by
 unfold Au at h;split at h
 .split at h
  .rename_i hd;split at h
   .rename_i Y;simp only[az]at h;subst h Y;cases I;cases o;simp[Op.equalIn,zce hd]
   .simp at h
  .simp at h
 .split at h
  .rename_i hd;simp only[az]at h;subst h;cases I with
   |str a U ha=>cases o with
    |str b O V=>
     subst ha V;simp only[Op.equalIn,d8,zce hd,ee,jt,L6]
  .simp at h
 .exact D8 K I o h
theorem AL{xs L:List AV}{j z:List Value}(I:b8 G xs j)(o:b8 G L z)(K:Nat):∀(U:List Field) (r:Bool),tc P xs L U=some r ->
 Sem.run P (forIn U (none,()) fun(f:Field) (_:Option Bool×Unit)=>
         if f.name="_" then pure (ForInStep.yield (none,()))
         else do
          let a <-part f.type j.toArray f.offset
          let b <-part f.type z.toArray f.offset
          let c <-Op.equalIn (K+1) f.type a b
          if c=false then pure (ForInStep.done (some false,()))else pure (ForInStep.yield (none,())))
  w=.ok (match r with|true=>(none,())|false=>(some false,())) w
 |[],r,h=>by
  simp only[tc,az]at h;subst h;rfl
 |f::U,r,h=>by
  unfold tc at h;rw[List.forIn_cons];split at h
  .rename_i hn;rw[aj (by simpa using hn)];simp only[d8,jt,ee];exact AL I o K U r h
  .rename_i hn;rw[af (by simpa using hn)];split at h
   .rename_i a b ha J;obtain⟨C,V,Y⟩:=xq (P:=P) (w:=w) I ha;obtain⟨m,Z,O⟩:=xq (P:=P) (w:=w) o J;split at h
    .rename_i M;have:=D9 (P:=P) (w:=w) K Y O M;simp only[d8,V,Z,this,ee,qH,de,jt];exact AL I o K U r h
    .rename_i M;have:=D9 (P:=P) (w:=w) K Y O M;simp only[az]at h;subst h;simp only[d8,V,Z,this,ee,cZ,jt]
    .simp at h
   .simp at h
theorem L7(d:Nat){t:TypeId}{L:Array Field}{xs Y:Array Value}(hd:P.underlying t=some (.struct L))(Z:P.stoodInHeld t=false):
 (Op.equalIn (d+1) t (.agg xs) (.agg Y)).run P w=(Sem.run P (forIn L.toList (none,()) fun(f:Field) (_:Option Bool×Unit)=>
   if f.name="_" then pure (ForInStep.yield (none,()))
   else do
    let a <-part f.type xs f.offset
    let b <-part f.type Y f.offset
    let c <-Op.equalIn d f.type a b
    if c=false then pure (ForInStep.done (some false,()))else pure (ForInStep.yield (none,())))
   w).andThen fun a J=>Sem.run P (match a.1 with|some r=>pure r|none=>pure true) J:=by
 simp[Op.equalIn,zce hd,Z]
 congr 1
 funext a J
 rcases a with⟨_ |_,_⟩<;>rfl
theorem L8(K:Nat){x y:AV}{Z z:Value}{r:Bool}{Y:TypeId}(I:VR G x Z)(o:VR G y z)(h:rH P Y x y=some r):(Op.equalIn (K+2) Y Z z).run P w=.ok r w:=by
 unfold rH at h;split at h
 .unfold wW at h;split at h
  .rename_i L hd;split at h
   .simp at h
   .rename_i C;simp only[iC]at C;cases I with
    |agg g V=>cases o with
     |agg i j=>
      have:=AL (P:=P) (w:=w) ⟨g,V⟩ ⟨i,j⟩ K L.toList r h;rw[L7 (K+1) hd C.1,this];cases r<;>rfl
  .simp at h
 .exact D8 (K+1) I o h
theorem L9{x y:AV}{j z:Value}{r:Bool}{Z:TypeId}(I:VR G x j)(o:VR G y z)(h:rH P Z x y=some r):(Op.equal Z j z).run P w=.ok r w:=L8 9998 I o h
theorem Ma{op:BinOp}{t:TypeId}{x y:Operand}{xs Y:List AV}{j z:Value}(I:VR G (.agg xs) j)(o:VR G (.agg Y) z){r:Bool}(h:wW P t xs Y=some r):(eqGuard op t x y j z).run P w=.ok () w:=by
 unfold wW at h;split at h
 .split at h
  .simp at h
  .rename_i C;simp only[iC]at C;cases I;cases o;cases op<;>first|rfl|simp[eqGuard,C.2]
 .simp at h
theorem Mb{op:BinOp}{Z:TypeId}{J C:Operand}{x y c:AV}{j z:Value}(I:VR G x j)(o:VR G y z)(V:∀k a k' b,x=.int k a->y=.int k' b->False)
 (O:∀a b,x=.str a->y=.str b->False) (U:∀k a,x=.sx k a->False) (M:∀k a k' b,x=.int k a->y=.sx k' b->False) (h:Av P op Z x y=some c) :
 ∃v,(do eqGuard op Z J C j z;binOp op Z j z:Sem Value).run P w=.ok v w/\VR G c v:=by
 unfold Av at h;have Y:∃r,rH P Z x y=some r/\((op=.eql/\c=.bool r)\/(op=.neq/\c=.bool !r)):=by
  split at h
  .split at h
   .rename_i r hr;simp only[az]at h;exact⟨r,hr,.inl ⟨rfl,h.symm⟩⟩
   .simp at h
  .split at h
   .rename_i r hr;simp only[az]at h;exact⟨r,hr,.inr ⟨rfl,h.symm⟩⟩
   .simp at h
  .simp at h
 obtain⟨r,hr,L⟩:=Y;have g:(eqGuard op Z J C j z).run P w=.ok () w:=by
  have K:=hr;unfold rH at K;split at K
  .exact Ma I o K
  .rename_i m;exact xr I o m
 have i:=L9 (P:=P) (w:=w) I o hr;simp only[d8,g,ee];rcases L with⟨rfl,rfl⟩|⟨rfl,rfl⟩
 .refine⟨.bool r,?_,.bool r⟩;have:binOp .eql Z j z=(do pure (.bool (<-Op.equal Z j z)):Sem Value):=by
   cases I<;>cases o<;>first|rfl|exact(V _ _ _ _ rfl rfl).elim|exact(O _ _ rfl rfl).elim|exact(U _ _ rfl).elim|exact(M _ _ _ _ rfl rfl).elim
  rw[this];simp[i]
 .refine⟨.bool !r,?_,.bool _⟩;have:binOp .neq Z j z=(do pure (.bool (!(<-Op.equal Z j z))):Sem Value):=by
   cases I<;>cases o<;>first|rfl|exact(V _ _ _ _ rfl rfl).elim|exact(O _ _ rfl rfl).elim|exact(U _ _ rfl).elim|exact(M _ _ _ _ rfl rfl).elim
  rw[this];simp[i]
theorem Ea{x:AV}{k:IntKind}{e:Sx}{j:Value}(I:VR G x j)(h:wT x=some (k,e)):j=.int k (e.eval G.ρ):=by
 unfold wT at h;split at h
 .simp only[ce]at h;obtain⟨rfl,rfl⟩:=h;cases I;rfl
 .simp only[ce]at h;obtain⟨rfl,rfl⟩:=h;cases I;rfl
 .simp at h
theorem Mc{op:BinOp}{k:IntKind}{a b n:Int}(h:zc9 op k a b=some (.int k n)):As op k a b=n:=by simp[As,h]
theorem Md{D:BinOp->Sx->Sx->Option Bool}(i:l4 D G.ρ){op:BinOp}{k:IntKind}{a b:Sx}{c:AV}(h:At D op k a b=some c)(Z:TypeId):
 ∃v,(binOp op Z (.int k (a.eval G.ρ)) (.int k (b.eval G.ρ))).run P w=.ok v w/\VR G c v:=by
 have K:∀(op:BinOp) (n:Int),(op≠.shl/\op≠.shr)->zc9 op k (a.eval G.ρ) (b.eval G.ρ)=some (.int k n)->c=.sx k (.bin op k a b) ->
  ∃v,(binOp op Z (.int k (a.eval G.ρ)) (.int k (b.eval G.ρ))).run P w=.ok v w/\VR G c v:=fun op n o z hc=>by
  obtain⟨v,Y,g⟩:=AK (P:=P) (w:=w) (G:=G) o z Z;cases g;refine⟨_,Y,?_⟩;subst hc;have:VR G (.sx k (.bin op k a b)) (.int k ((Sx.bin op k a b).eval G.ρ)):=.sx _ _;simp only[Sx.eval,Mc z]at this;exact this
 have j:D .eql b (.lit 0)=some false->b.eval G.ρ≠0:=fun hd=>by
  have:=i _ k _ _ _ hd;simp[zc9,Sx.eval]at this;exact this
 cases op<;>simp only[At,az,reduceCtorEq]at h<;>first
  |exact K _ _ aw rfl h.symm
  |(split at h
    ·rename_i hd;simp only[az]at h;first
      |exact K .quo (k.wrap ((a.eval G.ρ).tdiv (b.eval G.ρ))) aw (by simp only[zc9,af (j hd)]) h.symm
      |exact K .rem ((a.eval G.ρ).tmod (b.eval G.ρ)) aw (by simp only[zc9,af (j hd)]) h.symm
    .simp at h)
  |(split at h
    ·rename_i r hd;simp only[az]at h;subst h;exact AK (P:=P) (w:=w) (G:=G) aw (i _ k _ _ _ hd) Z
    .simp at h)
theorem Eb{D:BinOp->Sx->Sx->Option Bool}(i:l4 D G.ρ){op:BinOp}{Z:TypeId}{I J:Operand}{x y c:AV}{j z:Value}(V:VR G x j)(o:VR G y z)(K:∀l m,x=.agg l->y=.agg m->False)(h:wU D op x y=some c):
 ∃v,(do eqGuard op Z I J j z;binOp op Z j z:Sem Value).run P w=.ok v w/\VR G c v:=by
 have C:=xr (P:=P) (w:=w) (op:=op) (t:=Z) (x:=I) (y:=J) V o K;simp only[d8,C,ee];unfold wU at h;split at h
 .rename_i k a k' b L Y;have O:=Ea V L;have M:=Ea o Y;subst O M;split at h
  .rename_i U;subst U;exact Md i h Z
  .simp at h
 .simp at h
theorem Me{D:BinOp->Sx->Sx->Option Bool}(i:l4 D G.ρ){op:BinOp}{Z:TypeId}{Y J:Operand}{x y c:AV}{j z:Value}(I:VR G x j)(o:VR G y z)(h:zcq P D op Z x y=some c):
 ∃v,(do eqGuard op Z Y J j z;binOp op Z j z:Sem Value).run P w=.ok v w/\VR G c v:=by
 unfold zcq at h;split at h
 .rename_i k a k' b;have C:=xr (P:=P) (w:=w) (op:=op) (t:=Z) (x:=Y) (y:=J) I o aw;simp only[d8,C,ee];cases I;cases o;unfold qx at h;split at h
  .unfold td at h;split at h
   .simp only[az]at h;subst h;refine⟨_,?_,.int _ _⟩;simp only[binOp,Op.shift];rw[af aw];rfl
   .simp at h
  .unfold td at h;split at h
   .simp only[az]at h;subst h;refine⟨_,?_,.int _ _⟩;simp only[binOp,Op.shift];rw[af aw];rfl
   .simp at h
  .rename_i V g;split at h
   .rename_i U;subst U;exact AK ⟨V,g⟩ h Z
   .simp at h
 .rename_i a b;have C:=xr (P:=P) (w:=w) (op:=op) (t:=Z) (x:=Y) (y:=J) I o aw;simp only[d8,C,ee];cases I with
  |str M _ ha=>
   cases o with
   |str L _ O=>
    subst ha O;exact L5 h Z
 .exact Eb i I o aw h
 .exact Eb i I o aw h
 .exact Mb I o kH kH kH kH h
theorem Mf{op:UnOp}{x c:AV}{j:Value}(I:VR G x j)(h:qy op x=some c):∃v,(Op.unary op j).run P w=.ok v w/\VR G c v:=by
 unfold qy at h;split at h
 .cases I;simp only[az]at h;subst h;refine⟨_,rfl,?_⟩;exact .sx _ _
 .cases I;simp only[az]at h;subst h;refine⟨_,rfl,?_⟩;exact .sx _ _
 .cases I;simp only[zc9,az]at h;subst h;exact⟨_,rfl,.int _ _⟩
 .cases I;simp only[zc9,az]at h;subst h;exact⟨_,rfl,.int _ _⟩
 .cases I;simp only[az]at h;subst h;exact⟨_,rfl,.bool _⟩
 .simp at h
end
end Go.Ab
